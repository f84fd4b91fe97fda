/- Joined out of parts of one proof by a program: contracts of the functions that the statement reaches, and the plain facts behind them. -/
import Derived.Test.YtikfmknnbjocmaaGreatDoorKL08
import Derived.Shelf.SlSortCmp.WholeK
import Derived.Ground.SlsfProg
import Derived.Test.YtikfmknnbjocmaaGreatDoorProg
import Derived.Shelf.SlSortCmp.NoneTotal
set_option linter.unusedVariables false
set_option linter.unusedSimpArgs false
set_option linter.unusedSectionVars false
section
set_option linter.unusedSectionVars false
set_option linter.unusedVariables false
namespace Go.Proofs.YtikfmknnbjocmaaGreatDoor
open Go.RowKit Go.MapKept Go.Shelf
abbrev cellsPr (p : Par × Par) : List Value := [.int .i64 p.1.1, .string (mkS p.1.2), .int .i64 p.2.1, .string (mkS p.2.2)]
def apAssignPr : Code := Code.region 2 #[{ dst := some 5, op := Op.alloc 144, type := 0, pos := "iter.go:51", after := #[], guard := none }, { dst := none, op := Op.store 144 (Operand.tmp 5) (Operand.tmp 7), type := 0, pos := "iter.go:51", after := #[{ on := 0, ground := Ground.data }, { on := 0, ground := Ground.phase }], guard := none }] false
def apBodyPr : Code := Code.block 1 (Code.region 3 #[{ dst := some 8, op := Op.load 141 (Operand.tmp 2), type := 141, pos := "iter.go:52", after := #[], guard := none }, { dst := some 9, op := Op.load 144 (Operand.tmp 5), type := 144, pos := "iter.go:52", after := #[], guard := none }, { dst := some 10, op := Op.buildSlice 141 1 #[(0, Operand.tmp 9)], type := 141, pos := "iter.go:52", after := #[{ on := 1, ground := Ground.data }], guard := none }, { dst := some 11, op := Op.call { callee := Callee.builtin Builtin.append, args := #[Operand.tmp 8, Operand.tmp 10], argTypes := #[141, 141] }, type := 141, pos := "iter.go:52", after := #[{ on := 0, ground := Ground.data }, { on := 2, ground := Ground.data }], guard := none }, { dst := none, op := Op.store 141 (Operand.tmp 2) (Operand.tmp 11), type := 0, pos := "iter.go:52", after := #[{ on := 3, ground := Ground.data }, { on := 3, ground := Ground.chain }, { on := 0, ground := Ground.phase }, { on := 1, ground := Ground.phase }, { on := 2, ground := Ground.phase }, { on := 3, ground := Ground.phase }], guard := none }] false)
def apRecPr (fn : FuncId) (sv : Value) (Bs D : Nat) (st : LoopState) (pend : Option Code) : Loop :=
  { state := st, pending := pend, fn, tmps := #[.slice none 0 0, sv, .pointer (some ⟨Bs, 0, none⟩), undef, .slice none 0 0, undef, sv, undef, undef, undef, undef, undef, undef], params := #[7], assign := apAssignPr, body := apBodyPr, defers := D }
structure ApPr (w0 : World) (fn : FuncId) (sv : Value) (Bs l D : Nat) (ss : List (Par × Par)) (W : World) : Prop where
  box : ∃ v, W.heap[Bs]? = some (.cells #[v] 141 (0, 0)) ∧ W.ownsRow w0.heap.size 144 4 v ss.length (ss.flatMap cellsPr) ∧ (v = .slice none 0 0 ↔ ss = [])
  L : W.heap[l]? = some (.loop (apRecPr fn sv Bs D .ready none))
  K : W.heap[D]? = some (.deferred (some []))
  below : Below w0.heap.size w0 W
theorem apPr_abides (w0 : World) (fn : FuncId) (sv : Value) (Bs l D B : Nat) (hB : w0.heap.size ≤ B) : AbidesFrom B (ApPr w0 fn sv Bs l D) := fun s W W' row h hg hrow => by
  have hrow' : ∀ r, row = some r → ∃ o : Obj, W.heap[r]? = some o ∧ o.isWalk = true := fun r e => (hrow r e).2
  obtain ⟨v, hv, hr, hn⟩ := h.box
  exact ⟨⟨v, (grownBy_keeps hg hrow' hv rfl).trans hv, ownsRow_abides_a hr hg hrow', hn⟩, (grownBy_keeps hg hrow' h.L rfl).trans h.L, (grownBy_keeps hg hrow' h.K rfl).trans h.K,
    h.below.grown hg h.below.size (fun k e => Nat.le_trans hB (hrow k e).1)⟩
theorem cells_new4 (w : World) (x y x' y' : Value) (t : TypeId) : ∀ j u, [x, y, x', y'][j]? = some u → (w.alloc (.cells #[x, y, x', y'] t)).cell? ((⟨w.heap.size, 0, none⟩ : Addr).add j) = some u := by
  intro j u hj
  have h := heap_alloc_eq w (.cells #[x, y, x', y'] t)
  match j, hj with
  | 0, hj =>
    rw [show ((⟨w.heap.size, 0, none⟩ : Addr).add 0) = ⟨w.heap.size, 0, none⟩ from rfl]
    unfold World.cell?; rw [h]; simpa using hj
  | 1, hj =>
    rw [show ((⟨w.heap.size, 0, none⟩ : Addr).add 1) = ⟨w.heap.size, 1, none⟩ from rfl]
    unfold World.cell?; rw [h]; simpa using hj
  | 2, hj =>
    rw [show ((⟨w.heap.size, 0, none⟩ : Addr).add 2) = ⟨w.heap.size, 2, none⟩ from rfl]
    unfold World.cell?; rw [h]; simpa using hj
  | 3, hj =>
    rw [show ((⟨w.heap.size, 0, none⟩ : Addr).add 3) = ⟨w.heap.size, 3, none⟩ from rfl]
    unfold World.cell?; rw [h]; simpa using hj
  | j + 4, hj => simp at hj
set_option maxRecDepth 100000 in
set_option maxHeartbeats 4000000 in
theorem apYieldPr (m : Nat) (w0 : World) (fn : FuncId) (sv : Value) (Bs l D : Nat) (hBl : Bs ≠ l) (hDl : D ≠ l) (hDB : D ≠ Bs) (h0B : w0.heap.size ≤ Bs) (h0l : w0.heap.size ≤ l)
    (N : Nat) (hN : N ≤ 1000000) (ss : List (Par × Par)) (x : Par × Par) (W00 : World) (h00 : ApPr w0 fn sv Bs l D ss W00) (hlen : ss.length < N) :
    YieldAt Fence.wide m Tryz.prog l #[prV x] W00 fun e W' => e = .returned (.bool true) ∧ ApPr w0 fn sv Bs l D (ss ++ [x]) W' ∧ KeepsWalks W00 W' := by
  have mixed : Tryz.prog.follows .mixedOrders = true := by kernel_rfl
  have hne : 141 ≠ 144 := by decide
  obtain ⟨i0, hi, hz0, hz1, hz2⟩ : ∃ i, Tryz.prog.info? 144 = some i ∧ i.zero = some (.agg #[.int .i64 0, .string ⟨#[]⟩, .int .i64 0, .string ⟨#[]⟩]) ∧ i.size = 4 ∧ i.bytes = 48 := ⟨_, rfl, by kernel_rfl, by kernel_rfl, by kernel_rfl⟩
  obtain ⟨⟨xf, xc⟩, ⟨yf, yc⟩⟩ := x
  have hmax : maxLen ≥ 1000000 := by decide
  refine ⟨fn, #[.slice none 0 0, sv, .pointer (some ⟨Bs, 0, none⟩), undef, .slice none 0 0, undef, sv, prV ((xf, xc), (yf, yc)), undef, undef, undef, undef, undef], apAssignPr, apBodyPr, by simpa [apRecPr] using run_yield (P := Tryz.prog) (args := #[prV ((xf, xc), (yf, yc))]) h00.L rfl, roundIn_of_wpIn trivial ?_⟩
  obtain ⟨W, hW⟩ : ∃ W, W00.alloc (.cells #[.int .i64 xf, .string (mkS xc), .int .i64 yf, .string (mkS yc)] 144) = W := ⟨_, rfl⟩
  have h : ApPr w0 fn sv Bs l D ss W := by
    refine apPr_abides w0 fn sv Bs l D w0.heap.size (Nat.le_refl _) ss W00 W none h00 ?_ (fun r e => by cases e)
    rw [← hW]; exact ⟨rfl, rfl, rfl, by rw [size_alloc']; omega, fun k hk _ => heap_alloc_lt _ _ hk⟩
  have hkW : W.heap[W00.heap.size]? = some (.cells #[.int .i64 xf, .string (mkS xc), .int .i64 yf, .string (mkS yc)] 144 (0, 0)) := by rw [← hW]; exact heap_alloc_eq _ _
  have hk00 : KeepsWalks W00 W := by rw [← hW]; exact KeepsWalks.alloc _ _
  obtain ⟨v, hv, hrow, _⟩ := h.box
  have hl : l < W.heap.size := (Array.getElem?_eq_some_iff.1 h.L).1
  have hl0 : l < W00.heap.size := lt_of_at h00.L
  have hbr := run_beginRound (P := Tryz.prog) h.L rfl
  obtain ⟨W2, hW2⟩ : ∃ W2, W.putObj l (.loop { apRecPr fn sv Bs D .ready none with state := .busy }) = W2 := ⟨_, rfl⟩
  rw [hW2] at hbr
  have hg2 : W.grownBy W2 (some l) := by rw [← hW2]; exact grownBy_putObj_a _ _ _
  have hk2 : KeepsWalks W W2 := by rw [← hW2]; exact KeepsWalks.putObj _ h.L rfl
  have hv2 : W2.heap[Bs]? = some (.cells #[v] 141 (0, 0)) := by rw [← hW2]; exact (World.putObj_heap_other hBl).trans hv
  have hK2 : W2.heap[D]? = some (.deferred (some [])) := by rw [← hW2]; exact (World.putObj_heap_other hDl).trans h.K
  have hL2 : W2.heap[l]? = some (.loop { apRecPr fn sv Bs D .ready none with state := .busy }) := by rw [← hW2]; exact World.putObj_heap_same hl
  have hx2 : W2.heap[W00.heap.size]? = some (.cells #[.int .i64 xf, .string (mkS xc), .int .i64 yf, .string (mkS yc)] 144 (0, 0)) := by rw [← hW2]; exact (World.putObj_heap_other (by omega)).trans hkW
  have hrow2 : W2.ownsRow w0.heap.size 144 4 v ss.length (ss.flatMap cellsPr) := hrow.kept hg2 (ownsRow_ne_a hrow h.L (fun cur e => by cases e))
  have hb2 : Below w0.heap.size w0 W2 := h.below.grown hg2 h.below.size (fun k e => by cases e; exact h0l)
  obtain ⟨hc2, hf2⟩ := cell_of_box_a hv2
  have hxc0 : W2.cell? ⟨W00.heap.size, 0, none⟩ = some (.int .i64 xf) := by simp [World.cell?, hx2]
  have hxc1 : W2.cell? ⟨W00.heap.size, 1, none⟩ = some (.string (mkS xc)) := by simp [World.cell?, hx2]
  have hxc2 : W2.cell? ⟨W00.heap.size, 2, none⟩ = some (.int .i64 yf) := by simp [World.cell?, hx2]
  have hxc3 : W2.cell? ⟨W00.heap.size, 3, none⟩ = some (.string (mkS yc)) := by simp [World.cell?, hx2]
  have hBlt : Bs < W2.heap.size := (Array.getElem?_eq_some_iff.1 hv2).1
  have hl2 : l < W2.heap.size := (Array.getElem?_eq_some_iff.1 hL2).1
  have hDlt : D < W2.heap.size := (Array.getElem?_eq_some_iff.1 hK2).1
  have ne_of : ∀ {j : Nat} {o : Obj}, W2.heap[j]? = some o → (∀ cur, o ≠ .cells cur 144 (0, 0)) → some j ≠ v.ownBlock := fun hj hno => by
    rcases ownsRow_ne_a hrow2 hj hno with e | e
    · rw [e]; simp
    · exact fun e' => e e'.symm
  clear hW2
  unfold apAssignPr
  rw [show prV ((xf, xc), (yf, yc)) = .agg #[.int .i64 xf, .string (mkS xc), .int .i64 yf, .string (mkS yc)] from rfl]
  gi_wp2_with gi_round_op_a
  unfold apBodyPr
  gi_wp2_with (first
    | (gi_at_builtin; refine wpListIn_append_own _ rfl _ _ 141 rfl w0.heap.size 144 i0 (.agg #[.int .i64 0, .string ⟨#[]⟩, .int .i64 0, .string ⟨#[]⟩]) 4 48 (by kernel_rfl) hi hz0 hz1 hz2 rfl (by decide) _ _ _ rfl (hrow2.alloc _) ⟨W2.heap.size, 0, none⟩ 1 1 (cellsPr ((xf, xc), (yf, yc))) rfl rfl (cells_new4 _ _ _ _ _ _) (fun u hu => by simp at hu; rcases hu with rfl | rfl | rfl | rfl <;> rfl) (by omega) (by omega) (by have := hb2.size; simp; omega) ?_; intro v' w3 hown' hg3 hnil3
       have hv3 : w3.heap[Bs]? = some (.cells #[v] 141 (0, 0)) := (hg3.block Bs (by simp; omega) (ne_of hv2 (fun cur e => by cases e))).trans ((Below.heap_alloc _ _ Bs hBlt).trans hv2)
       obtain ⟨hc3, hf3⟩ := cell_of_box_a hv3
       obtain ⟨g', cap', cur', rfl, hbase', hgb', hr1, hr2, hr3, hr4⟩ : ∃ g' cap' cur', v' = .slice (some ⟨g', 0, none⟩) (ss.length + 1) cap' ∧ w0.heap.size ≤ g' ∧ w3.heap[g']? = some (.cells cur' 144 (0, 0)) ∧ ss.length + 1 ≤ cap' ∧ cap' ≤ maxLen ∧ cur'.size = cap' * 4 ∧ cur'.toList.take ((ss.length + 1) * 4) = ss.flatMap cellsPr ++ cellsPr ((xf, xc), (yf, yc)) := by
         rcases hown'.2 with ⟨_, h0⟩ | h'
         · exact absurd h0 (by omega)
         · exact h'
       go_frame)
    | gi_round_op_a)
  have hg3' : (W2.alloc (.cells #[.int .i64 xf, .string (mkS xc), .int .i64 yf, .string (mkS yc)] 144)).grownBy w3 v.ownBlock := hg3
  have hL3 : w3.heap[l]? = some (.loop { apRecPr fn sv Bs D .ready none with state := .busy }) := (hg3'.block l (by simp; omega) (ne_of hL2 (fun cur e => by cases e))).trans ((Below.heap_alloc _ _ l hl2).trans hL2)
  have hK3 : w3.heap[D]? = some (.deferred (some [])) := (hg3'.block D (by simp; omega) (ne_of hK2 (fun cur e => by cases e))).trans ((Below.heap_alloc _ _ D hDlt).trans hK2)
  obtain ⟨w4, hw4⟩ : ∃ w4, w3.setCell ⟨Bs, 0, none⟩ (.slice (some ⟨g', 0, none⟩) (ss.length + 1) cap') = w4 := ⟨_, rfl⟩
  rw [hw4]
  have hg4 : w3.grownBy w4 (some Bs) := by rw [← hw4]; exact grownBy_setCell0_a _ _ _
  have hv4 : w4.heap[Bs]? = some (.cells #[.slice (some ⟨g', 0, none⟩) (ss.length + 1) cap'] 141 (0, 0)) := by rw [← hw4]; exact heap_setCell_box_a _ hv3
  have hL4 : w4.heap[l]? = some (.loop { apRecPr fn sv Bs D .ready none with state := .busy }) := (hg4.block l (Array.getElem?_eq_some_iff.1 hL3).1 (fun e => hBl (by cases e; rfl))).trans hL3
  have hK4 : w4.heap[D]? = some (.deferred (some [])) := (hg4.block D (Array.getElem?_eq_some_iff.1 hK3).1 (fun e => hDB (by cases e; rfl))).trans hK3
  have hrow4 := hown'.kept hg4 (ownsRow_ne_a hown' hv3 (fun cur e => hne (Obj.cells.inj e).2.1))
  have hl4 : l < w4.heap.size := (Array.getElem?_eq_some_iff.1 hL4).1
  have hb3 : Below w0.heap.size w0 w3 := (hb2.alloc hb2.size _).grown hg3' (by have := hb2.size; simp; omega) (fun k e => (hrow2.lt k e).1)
  have hb4 : Below w0.heap.size w0 w4 := hb3.grown hg4 hb3.size (fun k e => by cases e; exact h0B)
  have hk4 : KeepsWalks W w4 := ((hk2.trans (KeepsWalks.alloc _ _)).trans (KeepsWalks.of_grownBy hg3' (ownsRow_not_walk_a (hrow2.alloc _)))).trans (by rw [← hw4]; exact KeepsWalks.setCell _ _ _)
  clear hw4
  refine ⟨_, _, run_endRound none hL4, rfl, ⟨⟨_, (World.putObj_heap_other hBl).trans hv4, ?_, by simp⟩, World.putObj_heap_same hl4, (World.putObj_heap_other hDl).trans hK4, hb4.grown (grownBy_putObj_a _ _ _) hb4.size (fun k e => by cases e; exact h0l)⟩, hk00.trans (hk4.trans (KeepsWalks.putObj _ hL4 rfl))⟩
  have := hrow4.kept (grownBy_putObj_a w4 l (.loop { { apRecPr fn sv Bs D .ready none with state := .busy } with state := if (none : Option Code).isNone then .ready else .done, pending := none })) (ownsRow_ne_a hrow4 hL4 (fun cur e => by cases e))
  simpa using this
def KeysQ (lk : List ((Par × Par) × Value)) (ss : List (Par × Par)) : Prop := ss.Nodup ∧ ∀ k, k ∈ ss ↔ k ∈ lk.map (·.1)
set_option maxRecDepth 100000 in
set_option maxHeartbeats 4000000 in
theorem appendSeqPr (n g : Nat) (lb : Array Value) (eg : ∀ args w, (callFunc g args).run Tryz.prog w = .ok (.enter g args) w) (S : List (Par × Par) → Prop) (N : Nat) (hN : N ≤ 1000000) (w : World) (hseq : SeqGives Fence.wide (n - 1) Tryz.prog g lb prV S N w) :
    CallsIn Fence.wide n Tryz.prog 164 #[.slice none 0 0, .func (.func g) #[] lb] w fun e w' => ∃ (v : Value) (ss : List (Par × Par)), e = .returned v ∧ S ss ∧ w'.ownsRow w.heap.size 144 4 v ss.length (ss.flatMap cellsPr) ∧ (v = .slice none 0 0 ↔ ss = []) ∧ Below w.heap.size w w' := by
  have mixed : Tryz.prog.follows .mixedOrders = true := by kernel_rfl
  have hne : 141 ≠ 144 := by decide
  have hro : Fence.wide.round = none := rfl
  refine callsIn_of_wp_marks Tryz.func164 rfl trivial ?_ rfl
  simp only [Tryz.ntmps164, List.size_toArray, List.length_cons, List.length_nil, Nat.reduceAdd, Nat.reduceSub, Array.replicate_succ, Array.replicate_zero, List.push_toArray, List.append_toArray, List.nil_append, List.cons_append]
  gi_wp2
  refine wpIn_rangeFunc ?_
  intro fn hfn
  rw [hro]
  obtain ⟨W0, hW0⟩ : ∃ W0, w.alloc (.cells #[.slice none 0 0] 141) = W0 := ⟨_, rfl⟩
  have hs0 : W0.heap.size = w.heap.size + 1 := by rw [← hW0]; simp
  have hv0 : W0.heap[w.heap.size]? = some (.cells #[.slice none 0 0] 141 (0, 0)) := by rw [← hW0]; exact World.alloc_heap_new w _
  have hb0 : Below w.heap.size w W0 := by rw [← hW0]; exact (Below.refl _ w).alloc (Nat.le_refl _) _
  rw [hW0]
  obtain ⟨W1, hW1⟩ : ∃ W1, (W0.alloc (.deferred (some []))).alloc (.loop (apRecPr fn (.func (.func g) #[] lb) w.heap.size W0.heap.size .ready none)) = W1 := ⟨_, rfl⟩
  have hold : ∀ k, k < W0.heap.size → W1.heap[k]? = W0.heap[k]? := fun k hk => by
    rw [← hW1]; exact (Below.heap_alloc _ _ k (by simp; omega)).trans (Below.heap_alloc _ _ k hk)
  have hb1 : Below w.heap.size w W1 := by rw [← hW1]; exact (hb0.alloc hb0.size _).alloc (by have := hb0.size; simp; omega) _
  have hs1 : W1.heap.size = W0.heap.size + 2 := by rw [← hW1]; simp
  have hM : ApPr w fn (.func (.func g) #[] lb) w.heap.size (W0.heap.size + 1) W0.heap.size [] W1 :=
    ⟨⟨_, (hold w.heap.size (by omega)).trans hv0, ⟨rfl, .inl ⟨rfl, rfl⟩⟩, by simp⟩,
     by rw [← hW1]; have := World.alloc_heap_new (W0.alloc (.deferred (some []))) (.loop (apRecPr fn (.func (.func g) #[] lb) w.heap.size W0.heap.size .ready none)); rwa [World.size_alloc] at this,
     by rw [← hW1]; exact (Below.heap_alloc _ _ _ (by simp)).trans (World.alloc_heap_new W0 _), hb1⟩
  refine ⟨W0.heap.size + 1, [{ target := .collected W0.heap.size, args := #[] }], W1, { target := .fn (.func g) lb, args := #[.func (.yield (W0.heap.size + 1)) #[] #[]] }, W1, g,
    #[.func (.yield (W0.heap.size + 1)) #[] #[]] ++ lb, W1, ?_, ?_, ?_, ?_, fun h => (by cases h), ?_⟩
  · rw [← hW1]; exact run_enterLoop_outer _ _ _ _ _
  · simp [resolve, go_sem]
  · intro f' hf'; exact trivial
  · simp [invoke, go_sem, eg]
  · refine (hseq (W0.heap.size + 1) (ApPr w fn (.func (.func g) #[] lb) w.heap.size (W0.heap.size + 1) W0.heap.size) W1 hb1 (apPr_abides _ _ _ _ _ _ _ hb1.size)
      (fun pre x W hJ hl => apYieldPr (n - 1 - 1) w fn _ w.heap.size (W0.heap.size + 1) W0.heap.size (by omega) (by omega) (by omega) (Nat.le_refl _) (by omega) N hN pre x W hJ hl) hM).mono ?_
    rintro e W2 ⟨⟨v0, rfl⟩, ss, hS, h2⟩
    obtain ⟨v, hv, hrow, hnil⟩ := h2.box
    have hend := run_endLoop (P := Tryz.prog) h2.L (by simp [apRecPr])
    obtain ⟨W3, hW3⟩ : ∃ W3, W2.putObj (W0.heap.size + 1) (.loop { apRecPr fn (.func (.func g) #[] lb) w.heap.size W0.heap.size .ready none with state := .exhausted }) = W3 := ⟨_, rfl⟩
    rw [hW3] at hend
    have hg3 : W2.grownBy W3 (some (W0.heap.size + 1)) := by rw [← hW3]; exact grownBy_putObj_a _ _ _
    have hv3 : W3.heap[w.heap.size]? = some (.cells #[v] 141 (0, 0)) := by rw [← hW3]; exact (World.putObj_heap_other (by omega)).trans hv
    have hK3 : W3.heap[W0.heap.size]? = some (.deferred (some [])) := by rw [← hW3]; exact (World.putObj_heap_other (by omega)).trans h2.K
    have hrow3 := hrow.kept hg3 (ownsRow_ne_a hrow h2.L (fun cur e => by cases e))
    have hb3 : Below w.heap.size w W3 := h2.below.grown hg3 h2.below.size (fun k e => by cases e; omega)
    obtain ⟨hc3, hf3⟩ := cell_of_box_a hv3
    clear hW3
    refine ⟨none, W3, hend, ?_⟩
    gi_wp2
    rw [← hs0]
    refine ⟨by simp, .inl ⟨_, _, rfl, run_takeDeferred hK3, ?_⟩⟩
    exact ⟨_, results_tmp rfl _ _ _, v, ss, rfl, hS, hrow3.kept (grownBy_putObj_a _ _ _) (ownsRow_ne_a hrow3 hK3 (fun cur e => by cases e)), hnil, hb3.grown (grownBy_putObj_a _ _ _) hb3.size (fun k e => by cases e; omega)⟩
theorem keysGivesPr (n Bm g : Nat) (es : Array MapEntry) (clock : Nat) (lk : List ((Par × Par) × Value)) (hs : Stamped es clock) (hkv : es.toList.map (fun e => (e.key, e.val)) = lk.map (fun p => (prV p.1, p.2))) (hnd : (lk.map (·.1)).Nodup) (w : World) (hm : w.cell? ⟨Bm, 0, none⟩ = some (.map (some g))) (hBm : Bm < w.heap.size) (hg : w.heap[g]? = some (.map es clock)) :
    SeqGives Fence.wide n Tryz.prog 136 #[.pointer (some ⟨Bm, 0, none⟩)] prV (KeysQ lk) lk.length w := fun l J W hW hJ hY h0 => by
  exact keys1Pr n l Bm g es clock lk J hs hkv hnd hY W hJ ((hW.cell (p := ⟨Bm, 0, none⟩) hBm).trans hm) ((hW.block g (lt_of_at hg)).trans hg) h0
set_option maxHeartbeats 4000000 in
theorem collectPr (g : Nat) (lb : Array Value) (eg : ∀ args w, (callFunc g args).run Tryz.prog w = .ok (.enter g args) w) (S : List (Par × Par) → Prop) (N : Nat) (hN : N ≤ 1000000) (w : World) (hseq : SeqGives Fence.wide 0 Tryz.prog g lb prV S N w) :
    Calls Tryz.prog 134 #[.func (.func g) #[] lb] w fun e w' => ∃ (v : Value) (ss : List (Par × Par)), e = .returned v ∧ S ss ∧ w'.ownsRow w.heap.size 144 4 v ss.length (ss.flatMap cellsPr) ∧ (v = .slice none 0 0 ↔ ss = []) ∧ Below w.heap.size w w' := by
  have mixed : Tryz.prog.follows .mixedOrders = true := by kernel_rfl
  have c1 := callsIn_wide.1 (appendSeqPr 1 g lb eg S N hN w hseq)
  clear hseq
  go_enter Tryz.func134, Tryz.ntmps134
  go_wp2_with (go_at_call 164; refine c1.mono ?_; rintro e w' ⟨v, ss, rfl, hS, hrow, hnil, hb⟩)
  go_ret
  exact ⟨v, ss, rfl, hS, hrow, hnil, hb⟩
end Go.Proofs.YtikfmknnbjocmaaGreatDoor
end
section
namespace Go.Proofs
open Go.Shelf
def Tryz.sortPar_ren : Go.Shelf.Ren := ⟨fun | 6 => 132 | 15 => 163 | 14 => 162 | 28 => 191 | 29 => 192 | 20 => 183 | 21 => 184 | 22 => 185 | 23 => 186 | 24 => 187 | 25 => 188 | 26 => 189 | 27 => 190 | 46 => 224 | 47 => 225 | 48 => 226 | 49 => 227 | 50 => 228 | 57 => 245 | n => n, fun | 22 => 41 | 24 => 43 | 25 => 124 | 3 => 3 | 39 => 209 | 0 => 0 | 53 => 233 | 55 => 192 | 4 => 4 | 46 => 227 | 45 => 226 | 50 => 128 | 5 => 5 | 9 => 9 | 66 => 259 | 70 => 262 | 76 => 280 | 77 => 281 | n => n, fun | n => n⟩
theorem Tryz.sortPar : Go.Proofs.SlLaysF0.n6 Tryz.prog Tryz.sortPar_ren := {
  mixed := by kernel_rfl
  f6 := ⟨Tryz.f132.name, by decide, Tryz.func132.trans (congrArg some (by kernel_rfl))⟩
  f14 := ⟨Tryz.f162.name, by decide, Tryz.func162.trans (congrArg some (by kernel_rfl))⟩
  f15 := Tryz.func163.trans (congrArg some (by kernel_rfl))
  f20 := ⟨Tryz.f183.name, by decide, Tryz.func183.trans (congrArg some (by kernel_rfl))⟩
  f21 := ⟨Tryz.f184.name, by decide, Tryz.func184.trans (congrArg some (by kernel_rfl))⟩
  f22 := ⟨Tryz.f185.name, by decide, Tryz.func185.trans (congrArg some (by kernel_rfl))⟩
  f23 := ⟨Tryz.f186.name, by decide, Tryz.func186.trans (congrArg some (by kernel_rfl))⟩
  f24 := ⟨Tryz.f187.name, by decide, Tryz.func187.trans (congrArg some (by kernel_rfl))⟩
  f25 := ⟨Tryz.f188.name, by decide, Tryz.func188.trans (congrArg some (by kernel_rfl))⟩
  f26 := ⟨Tryz.f189.name, by decide, Tryz.func189.trans (congrArg some (by kernel_rfl))⟩
  f27 := ⟨Tryz.f190.name, by decide, Tryz.func190.trans (congrArg some (by kernel_rfl))⟩
  f28 := Tryz.func191.trans (congrArg some (by kernel_rfl))
  f29 := Tryz.func192.trans (congrArg some (by kernel_rfl))
  f46 := ⟨Tryz.f224.name, by decide, Tryz.func224.trans (congrArg some (by kernel_rfl))⟩
  f47 := Tryz.func225.trans (congrArg some (by kernel_rfl))
  f48 := Tryz.func226.trans (congrArg some (by kernel_rfl))
  f49 := ⟨Tryz.f227.name, by decide, Tryz.func227.trans (congrArg some (by kernel_rfl))⟩
  f50 := ⟨Tryz.f228.name, by decide, Tryz.func228.trans (congrArg some (by kernel_rfl))⟩
  f57 := ⟨Tryz.f245.name, by decide, Tryz.func245.trans (congrArg some (by kernel_rfl))⟩
  t0 := Tryz.underlying0
  a0 := Tryz.isAgg0
  z0 := Tryz.sizeOf0
  v0 := Tryz.zeroValue0
  t3 := Tryz.underlying3
  a3 := Tryz.isAgg3
  z3 := Tryz.sizeOf3
  v3 := Tryz.zeroValue3
  t4 := Tryz.underlying4
  a4 := Tryz.isAgg4
  z4 := Tryz.sizeOf4
  v4 := Tryz.zeroValue4
  t5 := Tryz.underlying5
  a5 := Tryz.isAgg5
  z5 := Tryz.sizeOf5
  v5 := Tryz.zeroValue5
  t9 := Tryz.underlying9
  a9 := Tryz.isAgg9
  z9 := Tryz.sizeOf9
  v9 := Tryz.zeroValue9
  t22 := Tryz.underlying41
  a22 := Tryz.isAgg41
  z22 := Tryz.sizeOf41
  v22 := Tryz.zeroValue41
  t25 := Tryz.underlying124
  a25 := Tryz.isAgg124
  z25 := Tryz.sizeOf124
  v25 := Tryz.zeroValue124
  t39 := Tryz.underlying209
  a39 := Tryz.isAgg209
  z39 := Tryz.sizeOf209
  v39 := Tryz.zeroValue209
  t45 := Tryz.underlying226
  a45 := Tryz.isAgg226
  z45 := Tryz.sizeOf226
  v45 := Tryz.zeroValue226
  t46 := Tryz.underlying227
  a46 := Tryz.isAgg227
  z46 := Tryz.sizeOf227
  v46 := Tryz.zeroValue227
  t50 := Tryz.underlying128
  a50 := Tryz.isAgg128
  z50 := Tryz.sizeOf128
  v50 := Tryz.zeroValue128
  t53 := Tryz.underlying233
  a53 := Tryz.isAgg233
  z53 := Tryz.sizeOf233
  v53 := Tryz.zeroValue233
  t55 := Tryz.underlying192
  a55 := Tryz.isAgg192
  z55 := Tryz.sizeOf192
  v55 := Tryz.zeroValue192
  t66 := Tryz.underlying259
  a66 := Tryz.isAgg259
  z66 := Tryz.sizeOf259
  v66 := Tryz.zeroValue259
  t70 := Tryz.underlying262
  a70 := Tryz.isAgg262
  z70 := Tryz.sizeOf262
  v70 := Tryz.zeroValue262
  t76 := Tryz.underlying280
  a76 := Tryz.isAgg280
  z76 := Tryz.sizeOf280
  v76 := Tryz.zeroValue280
  t77 := Tryz.underlying281
  a77 := Tryz.isAgg281
  z77 := Tryz.sizeOf281
  v77 := Tryz.zeroValue281 }
def Tryz.sortPr_ren : Go.Shelf.Ren := ⟨fun | 6 => 135 | 15 => 163 | 14 => 165 | 28 => 191 | 29 => 192 | 20 => 193 | 21 => 194 | 22 => 195 | 23 => 196 | 24 => 197 | 25 => 198 | 26 => 199 | 27 => 200 | 46 => 229 | 47 => 225 | 48 => 226 | 49 => 230 | 50 => 231 | 57 => 246 | n => n, fun | 22 => 141 | 24 => 144 | 25 => 148 | 3 => 3 | 39 => 209 | 0 => 0 | 53 => 233 | 55 => 192 | 4 => 4 | 46 => 227 | 45 => 226 | 50 => 128 | 5 => 5 | 9 => 9 | 66 => 259 | 70 => 262 | 76 => 280 | 77 => 281 | n => n, fun | n => n⟩
theorem Tryz.sortPr : Go.Proofs.SlLaysF0.n6 Tryz.prog Tryz.sortPr_ren := {
  mixed := by kernel_rfl
  f6 := ⟨Tryz.f135.name, by decide, Tryz.func135.trans (congrArg some (by kernel_rfl))⟩
  f14 := ⟨Tryz.f165.name, by decide, Tryz.func165.trans (congrArg some (by kernel_rfl))⟩
  f15 := Tryz.func163.trans (congrArg some (by kernel_rfl))
  f20 := ⟨Tryz.f193.name, by decide, Tryz.func193.trans (congrArg some (by kernel_rfl))⟩
  f21 := ⟨Tryz.f194.name, by decide, Tryz.func194.trans (congrArg some (by kernel_rfl))⟩
  f22 := ⟨Tryz.f195.name, by decide, Tryz.func195.trans (congrArg some (by kernel_rfl))⟩
  f23 := ⟨Tryz.f196.name, by decide, Tryz.func196.trans (congrArg some (by kernel_rfl))⟩
  f24 := ⟨Tryz.f197.name, by decide, Tryz.func197.trans (congrArg some (by kernel_rfl))⟩
  f25 := ⟨Tryz.f198.name, by decide, Tryz.func198.trans (congrArg some (by kernel_rfl))⟩
  f26 := ⟨Tryz.f199.name, by decide, Tryz.func199.trans (congrArg some (by kernel_rfl))⟩
  f27 := ⟨Tryz.f200.name, by decide, Tryz.func200.trans (congrArg some (by kernel_rfl))⟩
  f28 := Tryz.func191.trans (congrArg some (by kernel_rfl))
  f29 := Tryz.func192.trans (congrArg some (by kernel_rfl))
  f46 := ⟨Tryz.f229.name, by decide, Tryz.func229.trans (congrArg some (by kernel_rfl))⟩
  f47 := Tryz.func225.trans (congrArg some (by kernel_rfl))
  f48 := Tryz.func226.trans (congrArg some (by kernel_rfl))
  f49 := ⟨Tryz.f230.name, by decide, Tryz.func230.trans (congrArg some (by kernel_rfl))⟩
  f50 := ⟨Tryz.f231.name, by decide, Tryz.func231.trans (congrArg some (by kernel_rfl))⟩
  f57 := ⟨Tryz.f246.name, by decide, Tryz.func246.trans (congrArg some (by kernel_rfl))⟩
  t0 := Tryz.underlying0
  a0 := Tryz.isAgg0
  z0 := Tryz.sizeOf0
  v0 := Tryz.zeroValue0
  t3 := Tryz.underlying3
  a3 := Tryz.isAgg3
  z3 := Tryz.sizeOf3
  v3 := Tryz.zeroValue3
  t4 := Tryz.underlying4
  a4 := Tryz.isAgg4
  z4 := Tryz.sizeOf4
  v4 := Tryz.zeroValue4
  t5 := Tryz.underlying5
  a5 := Tryz.isAgg5
  z5 := Tryz.sizeOf5
  v5 := Tryz.zeroValue5
  t9 := Tryz.underlying9
  a9 := Tryz.isAgg9
  z9 := Tryz.sizeOf9
  v9 := Tryz.zeroValue9
  t22 := Tryz.underlying141
  a22 := Tryz.isAgg141
  z22 := Tryz.sizeOf141
  v22 := Tryz.zeroValue141
  t25 := Tryz.underlying148
  a25 := Tryz.isAgg148
  z25 := Tryz.sizeOf148
  v25 := Tryz.zeroValue148
  t39 := Tryz.underlying209
  a39 := Tryz.isAgg209
  z39 := Tryz.sizeOf209
  v39 := Tryz.zeroValue209
  t45 := Tryz.underlying226
  a45 := Tryz.isAgg226
  z45 := Tryz.sizeOf226
  v45 := Tryz.zeroValue226
  t46 := Tryz.underlying227
  a46 := Tryz.isAgg227
  z46 := Tryz.sizeOf227
  v46 := Tryz.zeroValue227
  t50 := Tryz.underlying128
  a50 := Tryz.isAgg128
  z50 := Tryz.sizeOf128
  v50 := Tryz.zeroValue128
  t53 := Tryz.underlying233
  a53 := Tryz.isAgg233
  z53 := Tryz.sizeOf233
  v53 := Tryz.zeroValue233
  t55 := Tryz.underlying192
  a55 := Tryz.isAgg192
  z55 := Tryz.sizeOf192
  v55 := Tryz.zeroValue192
  t66 := Tryz.underlying259
  a66 := Tryz.isAgg259
  z66 := Tryz.sizeOf259
  v66 := Tryz.zeroValue259
  t70 := Tryz.underlying262
  a70 := Tryz.isAgg262
  z70 := Tryz.sizeOf262
  v70 := Tryz.zeroValue262
  t76 := Tryz.underlying280
  a76 := Tryz.isAgg280
  z76 := Tryz.sizeOf280
  v76 := Tryz.zeroValue280
  t77 := Tryz.underlying281
  a77 := Tryz.isAgg281
  z77 := Tryz.sizeOf281
  v77 := Tryz.zeroValue281 }
end Go.Proofs
end
section
set_option linter.unusedSectionVars false
set_option linter.unusedVariables false
namespace Go.Proofs.YtikfmknnbjocmaaGreatDoor
open Go.RowKit Go.Sort
def allH (w : World) : PH := fun g => w.heap[g]?
theorem goodH (w : World) : Good (allH w) PH.mt w := ⟨fun _ _ h => h, Part.mt w, fun _ => .inr rfl, fun _ _ _ _ _ _ h _ => h⟩
@[reducible] def Flag.yes : Flag := ⟨True⟩
theorem grown_exact [Fl : Flag] (hF : Fl.on) {w w' : World} {u' : PH} (h : Grown (allH w) PH.mt w u' PH.mt w') : ∃ n os, w' = grow (w.drewN n) os := by
  have hd := h.dr hF
  refine ⟨w'.drawn - w.drawn, w'.heap.extract w.heap.size w'.heap.size, ?_⟩
  obtain ⟨hp, tp, dr, os, out⟩ := w
  obtain ⟨hp', tp', dr', os', out'⟩ := w'
  have h1 := hd.tape
  have h2 := hd.dr
  have h3 := h.io.1
  have h4 := h.io.2
  have h5 := h.sz
  have h6 := fun g hg => h.old g hg rfl
  simp only at h1 h2 h3 h4 h5 h6
  subst h1 h3 h4
  unfold grow World.drewN
  simp only [World.mk.injEq, and_true, true_and]
  refine ⟨?_, by omega⟩
  apply Array.ext_getElem?
  intro i
  by_cases hi : i < hp.size
  · rw [Array.getElem?_append_left hi]; exact h6 i hi
  · rw [Array.getElem?_append_right (by omega), Array.getElem?_extract]
    by_cases hi' : i < hp'.size
    · rw [if_pos (by omega)]; congr 1; omega
    · rw [if_neg (by omega), Array.getElem?_eq_none (by omega)]
theorem Fn0.exact [Fl : Flag] (hF : Fl.on) {P : Program} {f : FuncId} {args : List Value} {r : Value} (h : ∀ u, Fn0 P f args u (fun v _ => v = r)) (w : World) : Calls P f args.toArray w fun e w' => e = .returned r ∧ ∃ n os, w' = grow (w.drewN n) os := by
  refine Calls.mono (h (allH w) w (goodH w)) fun e w' he => ?_
  obtain ⟨v, u', m', e1, _, e3, e4, e5⟩ := he
  subst e4 e5
  exact ⟨e1, grown_exact hF e3⟩
theorem cmpLaysPar (blk off size : Nat) (w : World) : Go.Proofs.CmpLays Tryz.prog 72 #[] (fun p : Par => [.int .i64 p.1, .string (mkS p.2)]) 2 cmpP blk off size w :=
  fun m os dk _ x y => @Fn0.exact Flag.yes trivial _ _ _ _ (fun u => @compare0 Flag.yes u x y) _
theorem cmpLaysPr (blk off size : Nat) (w : World) : Go.Proofs.CmpLays Tryz.prog 92 #[] (fun p : Par × Par => [.int .i64 p.1.1, .string (mkS p.1.2), .int .i64 p.2.1, .string (mkS p.2.2)]) 4 cmpQ blk off size w :=
  fun m os dk _ x y => @Fn0.exact Flag.yes trivial _ _ _ _ (fun u => @comparePairs0 Flag.yes u x y) _
end Go.Proofs.YtikfmknnbjocmaaGreatDoor
end
section
set_option linter.unusedSectionVars false
set_option linter.unusedVariables false
namespace Go.Proofs.YtikfmknnbjocmaaGreatDoor
open Go.RowKit Go.Sort
section
variable {κ : Type} {c : κ → κ → Int}
theorem Ord.swo (h : Ord c) : SWO (ltOf c) where
  irrefl x := by simp [ltOf, h.irr x]
  trans x y z h1 h2 := by
    simp only [ltOf, decide_eq_true_eq] at *
    exact h.trans x y z h1 h2
  ntrans x y z h1 h2 := by
    simp only [ltOf, decide_eq_false_iff_not] at *
    intro h3
    rcases Int.lt_trichotomy (c x y) 0 with e | e | e
    · exact h1 e
    · rw [h.eq x y e] at h3; exact h2 h3
    · exact h2 (h.trans y x z ((h.sym y x).2 e) h3)
theorem Ord.tot (h : Ord c) (x y : κ) (h1 : ltOf c x y = false) (h2 : ltOf c y x = false) : x = y := by
  simp only [ltOf, decide_eq_false_iff_not] at *
  rcases Int.lt_trichotomy (c x y) 0 with e | e | e
  · exact absurd e h1
  · exact h.eq x y e
  · exact absurd ((h.sym y x).2 e) h2
def sorted (c : κ → κ → Int) (l : List κ) : List κ := l.mergeSort fun x y => !(ltOf c) y x
theorem sorted_perm (l : List κ) : (sorted c l).Perm l := List.mergeSort_perm _ _
theorem sorted_sort (h : Ord c) {l : List κ} (hn : l.Nodup) : SortK c (sorted c l) := by
  have h1 : (sorted c l).Pairwise fun a b => (!(ltOf c) b a) = true := by
    refine List.pairwise_mergeSort (fun a b d h1 h2 => ?_) (fun a b => ?_) l
    · simp only [Bool.not_eq_true'] at h1 h2 ⊢
      exact h.swo.ntrans d b a h2 h1
    · simp only [Bool.or_eq_true, Bool.not_eq_true']
      cases e : ltOf c b a with
      | false => exact .inl rfl
      | true =>
        right
        simp only [ltOf, decide_eq_true_eq, decide_eq_false_iff_not] at *
        have := (h.sym b a).1 e
        omega
  have h2 : (sorted c l).Nodup := (sorted_perm l).nodup_iff.2 hn
  refine (h1.and h2).imp fun {a b} ⟨e1, e2⟩ => ?_
  simp only [Bool.not_eq_true', ltOf, decide_eq_false_iff_not] at e1
  rcases Int.lt_trichotomy (c a b) 0 with e | e | e
  · exact e
  · exact absurd (h.eq a b e) e2
  · exact absurd ((h.sym b a).2 e) e1
end
section
variable {κ : Type} [Inhabited κ] {enc : κ → List Value} {k : Nat}
theorem flatMap_at (hk : ∀ x, (enc x).length = k) : ∀ (ss : List κ) (t : Nat), t < ss.length * k → (ss.flatMap enc)[t]? = some ((enc ss.toArray[t / k]!)[t % k]!)
  | [], t, h => by simp at h
  | x :: ss, t, h => by
    have hk0 : 0 < k := by
      rcases Nat.eq_zero_or_pos k with h0 | h0
      · rw [h0] at h; simp at h
      · exact h0
    rw [List.flatMap_cons]
    by_cases ht : t < k
    · rw [List.getElem?_append_left (by rw [hk]; exact ht), Nat.div_eq_of_lt ht, Nat.mod_eq_of_lt ht]
      have : t < (enc x).length := by rw [hk]; exact ht
      simp [getElem!_pos, this]
    · rw [List.getElem?_append_right (by rw [hk]; omega), hk, flatMap_at hk ss (t - k) (by simp only [List.length_cons, Nat.add_mul] at h; omega)]
      have e1 : t / k = (t - k) / k + 1 := by rw [Nat.div_eq_sub_div hk0 (by omega)]
      have e2 : t % k = (t - k) % k := Nat.mod_eq_sub_mod (by omega)
      rw [e1, e2]
      simp
theorem holds_row (hk : ∀ x, (enc x).length = k) {W : World} {gb : Nat} {e : TypeId} {cur : Array Value} {ss : List κ} (hgb : W.heap[gb]? = some (.cells cur e (0, 0))) (hcur : cur.toList.take (ss.length * k) = ss.flatMap enc) : HoldsK enc k W gb 0 ss.toArray := by
  intro t ht
  rw [size_flatK] at ht
  have ht' : t < ss.length * k := by simpa using ht
  have h1 : cur[t]? = some ((flatK enc k ss.toArray)[t]!) := by
    rw [get_flatK enc k _ t ht, ← flatMap_at hk ss t ht', ← hcur, List.getElem?_take, if_pos ht', Array.getElem?_toList]
  constructor
  · simp [World.cell?, hgb, h1]
  · simp [World.frozen?, hgb]
theorem row_at (hk : ∀ x, (enc x).length = k) {W : World} {gb : Nat} {ts : List κ} (h : HoldsK enc k W gb 0 ts.toArray) {j i : Nat} {p : κ} {x : Value} (hj : ts[j]? = some p) (hi : (enc p)[i]? = some x) : W.cell? ⟨gb, j * k + i, none⟩ = some x := by
  obtain ⟨hjl, rfl⟩ := List.getElem?_eq_some_iff.1 hj
  obtain ⟨hil, rfl⟩ := List.getElem?_eq_some_iff.1 hi
  rw [hk] at hil
  have hlt : j * k + i < ts.toArray.size * k := by
    have : (j + 1) * k ≤ ts.length * k := Nat.mul_le_mul_right k hjl
    rw [Nat.add_mul] at this
    simp; omega
  have h1 := (h (j * k + i) (by rw [size_flatK]; exact hlt)).1
  rw [Nat.zero_add, get_flatK enc k _ _ hlt] at h1
  rw [h1]
  have e1 : (j * k + i) / k = j := by rw [Nat.add_comm, Nat.add_mul_div_right _ _ (by omega), Nat.div_eq_of_lt hil]; omega
  have e2 : (j * k + i) % k = i := by rw [Nat.add_comm, Nat.add_mul_mod_self_right, Nat.mod_eq_of_lt hil]
  rw [e1, e2]
  simp [getElem!_pos, hjl, hil, hk]
theorem sortWorld_below {w0 w : World} {blk off m : Nat} {dk : Array κ} {os : Array Obj} (h : Below w0.heap.size w0 w) (hb : w0.heap.size ≤ blk) : Below w0.heap.size w0 (sortWorldK enc k w blk off m dk os) := by
  refine ⟨h.os, h.tape, h.output, Nat.le_trans h.size (size_sortWorldK_c enc k w blk off m dk os), fun j hj => ?_⟩
  rw [← h.block j hj]
  have hjw : j < w.heap.size := Nat.lt_of_lt_of_le hj h.size
  unfold sortWorldK grow putRowK putRow mapBlock Sort.ahead
  simp only
  rw [Array.getElem?_append_left (by rw [Array.size_modify]; exact hjw), Array.getElem?_modify, if_neg (by omega)]
end
theorem Fn0.ofB {P : Program} {f : FuncId} {args : List Value} {u : PH} {R : Value → PH → Prop} (Q : Value → World → World → Prop) (h : ∀ w, Part u w → Calls P f args.toArray w fun e w' => ∃ v, e = .returned v ∧ Q v w w' ∧ Below w.heap.size w w')
    (hq : ∀ v w w' u', Q v w w' → PH.le u u' → (∀ g o, w.heap.size ≤ g → w'.heap[g]? = some o → u' g = some o) → R v u') : Fn0 P f args u R := by
  intro w hg
  refine Calls.mono (h w hg.pu) fun e w' he => ?_
  obtain ⟨v, e1, e2, e3⟩ := he
  have hsz : w.heap.size ≤ w'.heap.size := e3.size
  have hold : ∀ g, g < w.heap.size → w'.heap[g]? = w.heap[g]? := fun g hg => Below.block e3 g hg
  have g1 : Part (fun g => if g < w.heap.size then u g else w'.heap[g]?) w' := by
    intro g o hgo
    simp only at hgo
    split at hgo
    · rename_i hlt; rw [hold g hlt]; exact hg.pu g o hgo
    · exact hgo
  have g2 : Clean (fun g => if g < w.heap.size then u g else w'.heap[g]?) w' := by
    intro g cs t fr j z hgo hj
    simp only
    split
    · rename_i hlt; rw [hold g hlt] at hgo; exact hg.cl g cs t fr j z hgo hj
    · exact hgo
  have g3 : PH.le u (fun g => if g < w.heap.size then u g else w'.heap[g]?) := fun g o hgo => by simp only; rw [if_pos (hg.pu.lt hgo)]; exact hgo
  refine ⟨v, _, PH.mt, e1, ⟨g1, Part.mt _, fun _ => .inr rfl, g2⟩, ⟨hsz, fun g hg _ => hold g hg, fun g hg => by simp only; rw [if_pos hg], fun _ _ h => h, ⟨e3.os, e3.output⟩, fun f => f.elim⟩, rfl, hq v w w' _ e2 g3 (fun g o hgs hgo => by show (if g < w.heap.size then u g else w'.heap[g]?) = some o; rw [if_neg (by omega)]; exact hgo)⟩
end Go.Proofs.YtikfmknnbjocmaaGreatDoor
end
section
set_option linter.unusedSectionVars false
set_option linter.unusedVariables false
namespace Go.Proofs.YtikfmknnbjocmaaGreatDoor
open Go.RowKit Go.MapKept Go.Shelf Go.Sort
def SortedW {κ : Type} (c : κ → κ → Int) (enc : κ → List Value) (k : Nat) (keys : List κ) (v : Value) (w w' : World) : Prop :=
  ∃ (ts : List κ) (a : Option Addr) (cap : Nat), v = .slice a ts.length cap ∧ ts.length ≤ cap ∧ SortK c ts ∧ (∀ x, x ∈ ts ↔ x ∈ keys) ∧ ∀ (j : Nat) (p : κ), ts[j]? = some p → ∃ b, a = some ⟨b, 0, none⟩ ∧ w.heap.size ≤ b ∧ ∀ (i : Nat) (x : Value), (enc p)[i]? = some x → w'.cell? ⟨b, j * k + i, none⟩ = some x
theorem SortedW.list {κ : Type} {c : κ → κ → Int} {enc : κ → List Value} {k : Nat} {keys : List κ} {v : Value} {w w' : World} {u' : PH} (val : κ → Value) (hval : ∀ p, (val p).cells.toList = enc p) (h : SortedW c enc k keys v w w') (hu : ∀ g o, w.heap.size ≤ g → w'.heap[g]? = some o → u' g = some o) :
    ∃ ts : List κ, ListP u' v k (ts.map val) ∧ SortK c ts ∧ ∀ x, x ∈ ts ↔ x ∈ keys := by
  obtain ⟨ts, a, cap, rfl, hc, hs, hm, hcell⟩ := h
  refine ⟨ts, ⟨a, cap, by rw [List.length_map], by rw [List.length_map]; exact hc, fun j e hj => ?_⟩, hs, hm⟩
  rw [List.getElem?_map] at hj
  obtain ⟨p, hp, rfl⟩ := Option.map_eq_some_iff.1 hj
  obtain ⟨b, e, hb, hx⟩ := hcell j p hp
  refine ⟨b, 0, e, fun i x hi => ?_⟩
  rw [← Array.getElem?_toList, hval] at hi
  have h1 := hx i x hi
  unfold World.cell? at h1
  simp only at h1
  split at h1
  · rename_i cs t fr hh
    exact ⟨cs, t, fr, hu b _ hb hh, by rw [Nat.zero_add]; simpa using h1⟩
  · cases h1
theorem cellsPar_len (x : Par) : (cellsPar x).length = 2 := rfl
def pastI (P : Program) (st : List KI × S) : List KI × S := match one P (meet P 200 st).1 (meet P 200 st).2 with | some st' => st' | none => st
section
variable {P : Program} [Mixed P] {fn : Func} {Post : Spec} {st : List KI × S} {u m : PH}
theorem G.pastI (h : G P fn Post (pastI P st) u m) : G P fn Post st u m := by
  unfold Go.Proofs.YtikfmknnbjocmaaGreatDoor.pastI at h
  split at h
  · rename_i st' he
    exact ⟨meet_sound 200 st (one_sound Mixed.mx he h.out)⟩
  · exact h
theorem Fn0.weak {f : FuncId} {args : List Value} {R R' : Value → PH → Prop} (h : Fn0 P f args u R) (hr : ∀ v u', R v u' → R' v u') : Fn0 P f args u R' := fun w hg => Calls.mono (h w hg) fun e w' ⟨v, u', m', e1, e2, e3, e4, e5⟩ => ⟨v, u', m', e1, e2, e3, e4, hr _ _ e5⟩
end
set_option maxHeartbeats 4000000 in
theorem sortedParW (Bm g : Nat) (es : Array MapEntry) (clock : Nat) (lk : List (Par × Value)) (hs : Stamped es clock) (hkv : es.toList.map (fun e => (e.key, e.val)) = lk.map (fun p => (parV p.1, p.2))) (hnd : (lk.map (·.1)).Nodup) (hN : lk.length ≤ 1000000) (w : World) (hm : w.cell? ⟨Bm, 0, none⟩ = some (.map (some g))) (hg : w.heap[g]? = some (.map es clock)) :
    Calls Tryz.prog 88 #[.func (.func 133) #[] #[.pointer (some ⟨Bm, 0, none⟩)], .func (.func 72) #[] #[]] w fun e w' => ∃ v, e = .returned v ∧ SortedW cmpP cellsPar 2 (lk.map (·.1)) v w w' ∧ Below w.heap.size w w' := by
  have mixed : Tryz.prog.follows .mixedOrders = true := by kernel_rfl
  have hBm : Bm < w.heap.size := by
    unfold World.cell? at hm
    split at hm
    · rename_i h; exact lt_of_at h
    · cases hm
  have c1 := collectPar _ _ Tryz.call133 (KeysS lk) lk.length hN w (keysGivesPar 0 Bm g es clock lk hs hkv hnd w hm hBm hg)
  have c2 : ∀ (v : Value) (ss : List Par) (W : World), KeysS lk ss → W.ownsRow w.heap.size 43 2 v ss.length (ss.flatMap cellsPar) → Below w.heap.size w W → Calls Tryz.prog 132 #[v, .func (.func 72) #[] #[]] W fun e w' => e = .returned (.tuple #[]) ∧ SortedW cmpP cellsPar 2 (lk.map (·.1)) v w w' ∧ Below w.heap.size w w' := by
    intro v ss W hS hrow hb
    rcases hrow.2 with ⟨rfl, hz⟩ | ⟨gb, cap, cur, rfl, hbase, hgb, r1, r2, r3, r4⟩
    · have hss : ss = [] := List.eq_nil_of_length_eq_zero hz
      subst hss
      refine (AnyF.slices_SortFunc_none Tryz.sortPar none 0 _ W).mono ?_
      rintro e w' ⟨rfl, rfl⟩
      exact ⟨rfl, ⟨[], none, 0, rfl, Nat.le_refl _, List.Pairwise.nil, hS.2, fun j p hj => by simp at hj⟩, hb⟩
    · have hH : HoldsK cellsPar 2 W gb 0 ss.toArray := holds_row (enc := cellsPar) (k := 2) cellsPar_len hgb r4
      have hgl : gb < W.heap.size := lt_of_at hgb
      have hsz : ss.toArray.size < 4611686018427387904 := by
        have := len_of_sub (fun x : Par => x) (L := ss) (l := lk.map (·.1)) (by simpa using hS.1) (fun p hp => (hS.2 p).1 hp)
        simp at this
        simp
        omega
      have hcon := AnyQ.slices_SortFunc_total Tryz.sortPar 2 (fun w => by kernel_rfl) (fun w => by kernel_rfl) cellsPar (fun _ => rfl) (fun x v hv => by simp at hv; rcases hv with rfl | rfl <;> rfl) cmpP ordP.swo 72 #[] gb 0 cap ss.toArray W Tryz.call72 (cmpLaysPar gb 0 _ W) hH hgl hsz ordP.tot
      change Calls Tryz.prog 132 _ _ _ at hcon
      simp only [List.size_toArray] at hcon
      refine Calls.mono hcon ?_
      rintro e w' ⟨rfl, nn, os, rfl⟩
      have hp := sorted_perm (c := cmpP) ss
      refine ⟨rfl, ⟨sorted cmpP ss, some ⟨gb, 0, none⟩, cap, by rw [hp.length_eq], by rw [hp.length_eq]; exact r1, sorted_sort ordP hS.1, fun x => (hp.mem_iff).trans (hS.2 x), fun j p hj => ⟨gb, rfl, hbase, fun i x hi => ?_⟩⟩, sortWorld_below hb hbase⟩
      have h2 := holdsK_sortWorldK_c cellsPar 2 W gb 0 ss.toArray (sorted cmpP ss).toArray nn os hH hgl (by simp [hp.length_eq])
      exact row_at (enc := cellsPar) (k := 2) cellsPar_len h2 hj hi
  clear hm hg hs hkv hnd
  go_enter Tryz.func88, Tryz.ntmps88
  go_wp2_with (go_at_call 131; refine c1.mono ?_; rintro e w' ⟨v, ss, rfl, hS, hrow, hnil, hb⟩)
  have c3 := c2 v ss w' hS hrow hb
  clear hS hrow hnil hb c2 c1
  go_wp2_with (go_at_call 132; refine c3.mono ?_; rintro e w' ⟨rfl, hSo, hbo⟩)
  go_ret
  exact ⟨v, rfl, hSo, hbo⟩
theorem sortedPar0 {u : PH} {Bm g : Nat} {o : Obj} {lk : List (Par × Value)} (hm : CellP u Bm 0 (.map (some g))) (hg : u g = some o) (ho : MapO parV o lk) (hN : lk.length ≤ 1000000) :
    Fn0 Tryz.prog 88 [.func (.func 133) #[] #[.pointer (some ⟨Bm, 0, none⟩)], .func (.func 72) #[] #[]] u fun v u' => ∃ ts : List Par, ListP u' v 2 (ts.map parV) ∧ SortK cmpP ts ∧ ∀ x, x ∈ ts ↔ x ∈ lk.map (·.1) := by
  have hnd := ho.nodup
  obtain ⟨es, clock, rfl, hkv, hs⟩ := ho
  refine Fn0.ofB (fun v w w' => SortedW cmpP cellsPar 2 (lk.map (·.1)) v w w') (fun w hp => ?_) (fun v w w' u' h _ hu => SortedW.list (enc := cellsPar) parV (fun _ => rfl) h hu)
  exact sortedParW Bm g es clock lk hs hkv hnd hN w (hm.cell hp) (hp g _ hg)
theorem keysPar0 {u : PH} {g : Nat} : Fn0 Tryz.prog 89 [.map (some g)] u fun v u' => ∃ b, v = .func (.func 133) #[] #[.pointer (some ⟨b, 0, none⟩)] ∧ CellP u' b 0 (.map (some g)) := by
  have h : Contract Tryz.prog 89 [.map (some g)] u PH.mt (fun v u' m' => ∃ b, v = .func (.func 133) #[] #[.pointer (some ⟨b, 0, none⟩)] ∧ CellP m' b 0 (.map (some g))) := by
    refine Contract.of Tryz.func89 (by kernel_rfl) (by kernel_rfl) ?_
    refine G.pastI ?_
    refine G.pub 0 89 [.map (some g)] (by kernel_rfl) (by kernel_rfl) ?_
    intro b hu hm
    exact G.ret (.func (.func 133) #[] #[.pointer (some ⟨b, 0, none⟩)]) (by kernel_rfl) ⟨b, rfl, _, _, _, upd_same _ _ _, rfl⟩
  refine Fn0.weak h.giveAll ?_
  rintro v u' ⟨u1, m1, _, l2, b, e, hc⟩
  exact ⟨b, e, hc.mono l2⟩
end Go.Proofs.YtikfmknnbjocmaaGreatDoor
end
section
set_option linter.unusedSectionVars false
set_option linter.unusedVariables false
namespace Go.Proofs.YtikfmknnbjocmaaGreatDoor
open Go.RowKit Go.MapKept Go.Shelf Go.Sort
theorem cellsPr_len (x : Par × Par) : (cellsPr x).length = 4 := rfl
set_option maxHeartbeats 4000000 in
theorem sortedPrW (Bm g : Nat) (es : Array MapEntry) (clock : Nat) (lk : List ((Par × Par) × Value)) (hs : Stamped es clock) (hkv : es.toList.map (fun e => (e.key, e.val)) = lk.map (fun p => (prV p.1, p.2))) (hnd : (lk.map (·.1)).Nodup) (hN : lk.length ≤ 1000000) (w : World) (hm : w.cell? ⟨Bm, 0, none⟩ = some (.map (some g))) (hg : w.heap[g]? = some (.map es clock)) :
    Calls Tryz.prog 90 #[.func (.func 136) #[] #[.pointer (some ⟨Bm, 0, none⟩)], .func (.func 92) #[] #[]] w fun e w' => ∃ v, e = .returned v ∧ SortedW cmpQ cellsPr 4 (lk.map (·.1)) v w w' ∧ Below w.heap.size w w' := by
  have mixed : Tryz.prog.follows .mixedOrders = true := by kernel_rfl
  have hBm : Bm < w.heap.size := by
    unfold World.cell? at hm
    split at hm
    · rename_i h; exact lt_of_at h
    · cases hm
  have c1 := collectPr _ _ Tryz.call136 (KeysQ lk) lk.length hN w (keysGivesPr 0 Bm g es clock lk hs hkv hnd w hm hBm hg)
  have c2 : ∀ (v : Value) (ss : List (Par × Par)) (W : World), KeysQ lk ss → W.ownsRow w.heap.size 144 4 v ss.length (ss.flatMap cellsPr) → Below w.heap.size w W → Calls Tryz.prog 135 #[v, .func (.func 92) #[] #[]] W fun e w' => e = .returned (.tuple #[]) ∧ SortedW cmpQ cellsPr 4 (lk.map (·.1)) v w w' ∧ Below w.heap.size w w' := by
    intro v ss W hS hrow hb
    rcases hrow.2 with ⟨rfl, hz⟩ | ⟨gb, cap, cur, rfl, hbase, hgb, r1, r2, r3, r4⟩
    · have hss : ss = [] := List.eq_nil_of_length_eq_zero hz
      subst hss
      refine (AnyF.slices_SortFunc_none Tryz.sortPr none 0 _ W).mono ?_
      rintro e w' ⟨rfl, rfl⟩
      exact ⟨rfl, ⟨[], none, 0, rfl, Nat.le_refl _, List.Pairwise.nil, hS.2, fun j p hj => by simp at hj⟩, hb⟩
    · have hH : HoldsK cellsPr 4 W gb 0 ss.toArray := holds_row (enc := cellsPr) (k := 4) cellsPr_len hgb r4
      have hgl : gb < W.heap.size := lt_of_at hgb
      have hsz : ss.toArray.size < 4611686018427387904 := by
        have := len_of_sub (fun x : Par × Par => x) (L := ss) (l := lk.map (·.1)) (by simpa using hS.1) (fun p hp => (hS.2 p).1 hp)
        simp at this
        simp
        omega
      have hcon := AnyQ.slices_SortFunc_total Tryz.sortPr 4 (fun w => by kernel_rfl) (fun w => by kernel_rfl) cellsPr (fun _ => rfl) (fun x v hv => by simp at hv; rcases hv with rfl | rfl | rfl | rfl <;> rfl) cmpQ ordQ.swo 92 #[] gb 0 cap ss.toArray W Tryz.call92 (cmpLaysPr gb 0 _ W) hH hgl hsz ordQ.tot
      change Calls Tryz.prog 135 _ _ _ at hcon
      simp only [List.size_toArray] at hcon
      refine Calls.mono hcon ?_
      rintro e w' ⟨rfl, nn, os, rfl⟩
      have hp := sorted_perm (c := cmpQ) ss
      refine ⟨rfl, ⟨sorted cmpQ ss, some ⟨gb, 0, none⟩, cap, by rw [hp.length_eq], by rw [hp.length_eq]; exact r1, sorted_sort ordQ hS.1, fun x => (hp.mem_iff).trans (hS.2 x), fun j p hj => ⟨gb, rfl, hbase, fun i x hi => ?_⟩⟩, sortWorld_below hb hbase⟩
      have h2 := holdsK_sortWorldK_c cellsPr 4 W gb 0 ss.toArray (sorted cmpQ ss).toArray nn os hH hgl (by simp [hp.length_eq])
      exact row_at (enc := cellsPr) (k := 4) cellsPr_len h2 hj hi
  clear hm hg hs hkv hnd
  go_enter Tryz.func90, Tryz.ntmps90
  go_wp2_with (go_at_call 134; refine c1.mono ?_; rintro e w' ⟨v, ss, rfl, hS, hrow, hnil, hb⟩)
  have c3 := c2 v ss w' hS hrow hb
  clear hS hrow hnil hb c2 c1
  go_wp2_with (go_at_call 135; refine c3.mono ?_; rintro e w' ⟨rfl, hSo, hbo⟩)
  go_ret
  exact ⟨v, rfl, hSo, hbo⟩
theorem sortedPr0 {u : PH} {Bm g : Nat} {o : Obj} {lk : List ((Par × Par) × Value)} (hm : CellP u Bm 0 (.map (some g))) (hg : u g = some o) (ho : MapO prV o lk) (hN : lk.length ≤ 1000000) :
    Fn0 Tryz.prog 90 [.func (.func 136) #[] #[.pointer (some ⟨Bm, 0, none⟩)], .func (.func 92) #[] #[]] u fun v u' => ∃ ts : List (Par × Par), ListP u' v 4 (ts.map prV) ∧ SortK cmpQ ts ∧ ∀ x, x ∈ ts ↔ x ∈ lk.map (·.1) := by
  have hnd := ho.nodup
  obtain ⟨es, clock, rfl, hkv, hs⟩ := ho
  refine Fn0.ofB (fun v w w' => SortedW cmpQ cellsPr 4 (lk.map (·.1)) v w w') (fun w hp => ?_) (fun v w w' u' h _ hu => SortedW.list (enc := cellsPr) prV (fun _ => rfl) h hu)
  exact sortedPrW Bm g es clock lk hs hkv hnd hN w (hm.cell hp) (hp g _ hg)
theorem keysPr0 {u : PH} {g : Nat} : Fn0 Tryz.prog 91 [.map (some g)] u fun v u' => ∃ b, v = .func (.func 136) #[] #[.pointer (some ⟨b, 0, none⟩)] ∧ CellP u' b 0 (.map (some g)) := by
  have h : Contract Tryz.prog 91 [.map (some g)] u PH.mt (fun v u' m' => ∃ b, v = .func (.func 136) #[] #[.pointer (some ⟨b, 0, none⟩)] ∧ CellP m' b 0 (.map (some g))) := by
    refine Contract.of Tryz.func91 (by kernel_rfl) (by kernel_rfl) ?_
    refine G.pastI ?_
    refine G.pub 0 90 [.map (some g)] (by kernel_rfl) (by kernel_rfl) ?_
    intro b hu hm
    exact G.ret (.func (.func 136) #[] #[.pointer (some ⟨b, 0, none⟩)]) (by kernel_rfl) ⟨b, rfl, _, _, _, upd_same _ _ _, rfl⟩
  refine Fn0.weak h.giveAll ?_
  rintro v u' ⟨u1, m1, _, l2, b, e, hc⟩
  exact ⟨b, e, hc.mono l2⟩
end Go.Proofs.YtikfmknnbjocmaaGreatDoor
end
section
set_option linter.unusedSectionVars false
set_option linter.unusedVariables false
namespace Go.Proofs.YtikfmknnbjocmaaGreatDoor
open Go.RowKit Go.MapKept
theorem ArrAt.le {m0 m : PH} {v : Value} {t : TypeId} {sz : Nat} {es : List Value} (h : ArrAt m0 m v t sz es) : PH.le m0 m := by
  rcases h.2 with ⟨_, _, rfl⟩ | ⟨g, cap, rest, hg0, rfl, _⟩
  · exact PH.le_refl _
  · exact le_upd _ hg0
theorem text0 {u : PH} {x p : Value} {q : Rat} (ht : TabU u) (h : FracP u x q) (hq : Tx q) : Fn0 Tryz.prog 86 [x, p] u fun v _ => v = .string (mkS (ratT q)) := by
  obtain ⟨b, a, n, c, b', a', n', c', rfl⟩ := h.opn
  refine Fn0.of Tryz.func86 (by kernel_rfl) (by kernel_rfl) ?_
  refine G.call0 _ _ (by kernel_rfl) Tryz.call87 (fracFits0 ht h hq) ?_
  rintro v1 u1 l1 rfl
  refine G.neqF 0 0 (by kernel_rfl) (by omega) ?_
  exact G.ret _ (by kernel_rfl) ⟨rfl, rfl⟩
theorem termV_ok (p : Par × Rat) : ElsOK 3 [termV p] := fun e he => by
  simp at he; subst he
  exact ⟨rfl, fun y hy => by simp [termV, Value.cells] at hy; rcases hy with rfl | rfl | rfl <;> rfl⟩
theorem prtV_ok (p : (Par × Par) × Rat) : ElsOK 5 [prtV p] := fun e he => by
  simp at he; subst he
  exact ⟨rfl, fun y hy => by simp [prtV, Value.cells] at hy; rcases hy with rfl | rfl | rfl | rfl | rfl <;> rfl⟩
theorem can_keys {κ : Type} {c : κ → κ → Int} {f : κ → Rat} {ts keys : List κ} (hs : SortK c ts) (hm : ∀ x, x ∈ ts ↔ x ∈ keys) (h0 : ∀ p ∈ keys, f p ≠ 0) (h1 : ∀ k, k ∉ keys → f k = 0) : Can c f (ts.map fun p => (p, f p)) := by
  have e : (ts.map fun p => (p, f p)).map (·.1) = ts := by rw [List.map_map]; simp [Function.comp_def]
  refine ⟨by rw [e]; exact hs, fun p hp => ?_, fun k hk => h1 k fun h => hk (by rw [e]; exact (hm k).2 h)⟩
  obtain ⟨x, hx, rfl⟩ := List.mem_map.1 hp
  exact ⟨rfl, h0 x ((hm x).1 hx)⟩
set_option maxHeartbeats 8000000 in
theorem cofactor0 {u : PH} {F : CF} {N : Nat} {v : Value} (ht : TabU u) (hv : MomP u v F N) (sF : CFS F) (hN : N ≤ 1000000) :
    Fn0 Tryz.prog 44 [v] u fun v' u' => ∃ r, v' = .tuple #[r, .int .i64 0] ∧ CofP u' r F N := by
  obtain ⟨b, a, n, c, b', a', n', c', g1, g2, o1, o2, rfl, hc, e1, e2, h1, h2⟩ := hv
  obtain ⟨k1, ho1, q1, z1, n1⟩ := h1.at
  obtain ⟨k2, ho2, q2, z2, n2⟩ := h2.at
  refine Fn0.of Tryz.func44 (by kernel_rfl) (by kernel_rfl) ?_
  refine G.pastI ?_
  refine G.pastI ?_
  refine G.pub 1000 45 [.int .i64 0] (by kernel_rfl) (by kernel_rfl) ?_
  intro e hu hm
  refine G.call0 _ _ (by kernel_rfl) Tryz.call86 (text0 (p := .pointer (some ⟨e, 0, none⟩)) ht hc (SB.tx sF.c)) ?_
  rintro v1 u1 l1 rfl
  refine G.call0 _ _ (by kernel_rfl) Tryz.call89 (keysPar0 (g := g1)) ?_
  rintro v2 u2 l2 ⟨b2, rfl, hb2⟩
  refine G.call0 _ _ (by kernel_rfl) Tryz.call88 (sortedPar0 hb2 ((l1.trans l2) _ _ e1) ho1 (by omega)) ?_
  rintro v3 u3 l3 ⟨ts, hts, hss, hsm⟩
  have le3 := (l1.trans l2).trans l3
  obtain ⟨ta, tc, rfl⟩ := ListP.opn hts
  rw [List.length_map] at hts ⊢
  have hlen : ts.length ≤ N := by
    have := len_of_sub (fun x : Par => x) (L := ts) (l := k1.map (·.1)) (by simpa using hss.nodup ordP) (fun p hp => (hsm p).1 hp)
    simp at this; omega
  obtain ⟨m0, hm0⟩ : ∃ m0 : PH, m0 = PH.mt.upd e (.cells [Value.int .i64 0].toArray 45 (0, 0)) := ⟨_, rfl⟩
  rw [← hm0]
  refine G.loop (ι := Nat × (Option Addr × Nat × Nat)) (fun i => [(1, .p 0 0), (2, .p 1 0), (4, .v (.pointer (some ⟨e, 0, none⟩))), (5, .v (.func (.func 86) #[] #[.pointer (some ⟨e, 0, none⟩)])), (6, .p 3005 0), (20, .v (.slice ta ts.length tc)), (21, .v (.int .i64 (ts.length : Int))), (22, .v (.int .i64 (i.1 : Int)))])
    (fun i => [(0, ⟨92, [.v (.bool b), .v (.slice a n c), .v (.bool b'), .v (.slice a' n' c'), .v (.map (some g1)), .v (.map (some g2))]⟩), (1, ⟨38, [.v (.string (mkS [])), .v (.slice none 0 0), .v (.slice none 0 0)]⟩), (3005, ⟨38, [.v (.string (mkS (ratT F.c))), .v (.slice i.2.1 i.2.2.1 i.2.2.2), .v (.slice none 0 0)]⟩)])
    (fun i u' m' => i.1 ≤ ts.length ∧ ArrAt m0 m' (.slice i.2.1 i.2.2.1 i.2.2.2) 99 3 ((ts.take i.1).map fun p => termV (p, F.s p)))
    (fun i => ts.length - i.1) (0, (none, 0, 0)) (by kernel_rfl) (fun _ => by kernel_rfl) ⟨by kernel_rfl, by kernel_rfl, by kernel_rfl⟩ ⟨by simp, ArrAt.nil _ _ _⟩ ?_
  rintro J ⟨i, ⟨xa, xn, xc⟩⟩ hJ u4 m4 l4 ⟨hi, hA⟩
  simp only at hi hA hJ
  have le4 := le3.trans l4
  by_cases hlt : i < ts.length
  · refine G.lssT (i : Int) (ts.length : Int) (by kernel_rfl) (by omega) ?_
    have hTi : ts[i]? = some ts[i] := List.getElem?_eq_getElem hlt
    obtain ⟨ba, oa, rfl, ea⟩ := ListP.at' (hts.mono l4) (j := i) (e := parV ts[i]) (by simp [hTi])
    obtain ⟨y, hy, hye⟩ := List.mem_map.1 ((hsm ts[i]).1 (List.getElem_mem hlt))
    obtain ⟨hfy, hy0, _⟩ := q1 y hy
    have has := assoc_of_mem ho1.nodup (show (y.1, y.2) ∈ k1 from hy)
    rw [hye] at has hfy
    obtain ⟨w1, w2, w3, w4, w5, w6, w7, w8, hwe⟩ := hfy.opn
    rw [hwe] at has hfy
    refine G.addr ba oa ts.length tc i 2 (by kernel_rfl) (by omega) ?_
    refine G.loadU (some 2) ba (oa + i * 2) (.agg #[.int .i64 ts[i].1, .string (mkS ts[i].2)]) (by kernel_rfl) (by kernel_rfl) ea ?_
    refine G.mapIs (et := 88) keyPar fz g1 o1 k1 ts[i] (.agg #[.bool w1, .slice w2 w3 w4, .bool w5, .slice w6 w7 w8]) (by kernel_rfl) (by kernel_rfl) (.inl (le4 _ _ e1)) ho1 has ?_
    refine G.call0 _ _ (by kernel_rfl) Tryz.call86 (text0 (p := .pointer (some ⟨e, 0, none⟩)) (ht.mono le4) (hfy.mono le4) (SB.tx (sF.s _))) ?_
    rintro v5 u5 l5 rfl
    refine G.buildU 99 3 40 (.agg #[.int .i64 0, .string (mkS []), .string (mkS [])]) [.agg #[.int .i64 ts[i].1, .string (mkS ts[i].2), .string (mkS (ratT (F.s ts[i])))]] (by kernel_rfl) (termV_ok (ts[i], F.s ts[i])) rfl (by omega) (by simp) (by simp) ?_
    intro g6 u6 l6 e6
    have hel : ((ts.take i).map fun p => termV (p, F.s p)).length = i := by simp; omega
    refine G.append 99 3 40 (.agg #[.int .i64 0, .string (mkS []), .string (mkS [])]) m0 ((ts.take i).map fun p => termV (p, F.s p)) [.agg #[.int .i64 ts[i].1, .string (mkS ts[i].2), .string (mkS (ratT (F.s ts[i])))]] (.slice xa xn xc) g6 0 1 1 (by kernel_rfl) rfl rfl (by omega) hA e6 (termV_ok (ts[i], F.s ts[i])) rfl (by omega) (by omega) (by omega) ?_
    intro v7 m7 hA7
    rw [show ((ts.take i).map fun p => termV (p, F.s p)) ++ [.agg #[.int .i64 ts[i].1, .string (mkS ts[i].2), .string (mkS (ratT (F.s ts[i])))]] = (ts.take (i + 1)).map fun p => termV (p, F.s p) by rw [List.take_add_one, hTi, List.map_append]; rfl] at hA7
    obtain ⟨a7, c7, rfl⟩ := hA7.shape
    refine G.add (i : Int) 1 ((i + 1 : Nat) : Int) (by kernel_rfl) (by omega) (by omega) (by omega) ?_
    exact G.back (by kernel_rfl) (hJ (i + 1, (a7, ((ts.take (i + 1)).map fun p => termV (p, F.s p)).length, c7)) _ _ _ ⟨by kernel_rfl, by kernel_rfl, by kernel_rfl⟩ ((l4.trans l5).trans l6) ⟨by dsimp only; omega, hA7⟩ (by dsimp only; omega))
  obtain rfl : i = ts.length := by omega
  refine G.lssF (ts.length : Int) (ts.length : Int) (by kernel_rfl) (by omega) ?_
  rw [List.take_length] at hA
  have hxn : xn = ts.length := by have := hA.len; simpa using this
  subst hxn
  refine G.call0 _ _ (by kernel_rfl) Tryz.call91 (keysPr0 (g := g2)) ?_
  rintro v5 u5 l5 ⟨b5, rfl, hb5⟩
  refine G.call0 _ _ (by kernel_rfl) Tryz.call90 (sortedPr0 hb5 ((le4.trans l5) _ _ e2) ho2 (by omega)) ?_
  rintro v6 u6 l6 ⟨qs, hqs, hqss, hqsm⟩
  have le6 := (le4.trans l5).trans l6
  obtain ⟨qa, qc, rfl⟩ := ListP.opn hqs
  rw [List.length_map] at hqs ⊢
  have hlen2 : qs.length ≤ N := by
    have := len_of_sub (fun x : Par × Par => x) (L := qs) (l := k2.map (·.1)) (by simpa using hqss.nodup ordQ) (fun p hp => (hqsm p).1 hp)
    simp at this; omega
  refine G.loop (ι := Nat × (Option Addr × Nat × Nat)) (fun i => [(1, .p 0 0), (2, .p 1 0), (4, .v (.pointer (some ⟨e, 0, none⟩))), (5, .v (.func (.func 86) #[] #[.pointer (some ⟨e, 0, none⟩)])), (6, .p 3005 0), (43, .v (.slice qa qs.length qc)), (44, .v (.int .i64 (qs.length : Int))), (45, .v (.int .i64 (i.1 : Int)))])
    (fun i => [(0, ⟨92, [.v (.bool b), .v (.slice a n c), .v (.bool b'), .v (.slice a' n' c'), .v (.map (some g1)), .v (.map (some g2))]⟩), (1, ⟨38, [.v (.string (mkS [])), .v (.slice none 0 0), .v (.slice none 0 0)]⟩), (3005, ⟨38, [.v (.string (mkS (ratT F.c))), .v (.slice xa ts.length xc), .v (.slice i.2.1 i.2.2.1 i.2.2.2)]⟩)])
    (fun i u' m' => i.1 ≤ qs.length ∧ ArrAt m4 m' (.slice i.2.1 i.2.2.1 i.2.2.2) 102 5 ((qs.take i.1).map fun p => prtV (p, F.t p)))
    (fun i => qs.length - i.1) (0, (none, 0, 0)) (by kernel_rfl) (fun _ => by kernel_rfl) ⟨by kernel_rfl, by kernel_rfl, by kernel_rfl⟩ ⟨by simp, ArrAt.nil _ _ _⟩ ?_
  rintro J2 ⟨i, ⟨ya, yn, yc⟩⟩ hJ2 u7 m7 l7 ⟨hi2, hB⟩
  simp only at hi2 hB hJ2
  have le7 := le6.trans l7
  by_cases hlt : i < qs.length
  · refine G.lssT (i : Int) (qs.length : Int) (by kernel_rfl) (by omega) ?_
    have hTi : qs[i]? = some qs[i] := List.getElem?_eq_getElem hlt
    obtain ⟨ba, oa, rfl, ea⟩ := ListP.at' (hqs.mono l7) (j := i) (e := prV qs[i]) (by simp [hTi])
    obtain ⟨y, hy, hye⟩ := List.mem_map.1 ((hqsm qs[i]).1 (List.getElem_mem hlt))
    obtain ⟨hfy, hy0, _⟩ := q2 y hy
    have has := assoc_of_mem ho2.nodup (show (y.1, y.2) ∈ k2 from hy)
    rw [hye] at has hfy
    obtain ⟨w1, w2, w3, w4, w5, w6, w7, w8, hwe⟩ := hfy.opn
    rw [hwe] at has hfy
    refine G.addr ba oa qs.length qc i 4 (by kernel_rfl) (by omega) ?_
    refine G.loadU (some 4) ba (oa + i * 4) (.agg #[.int .i64 qs[i].1.1, .string (mkS qs[i].1.2), .int .i64 qs[i].2.1, .string (mkS qs[i].2.2)]) (by kernel_rfl) (by kernel_rfl) ea ?_
    refine G.mapIs (et := 88) keyPr fz g2 o2 k2 qs[i] (.agg #[.bool w1, .slice w2 w3 w4, .bool w5, .slice w6 w7 w8]) (by kernel_rfl) (by kernel_rfl) (.inl (le7 _ _ e2)) ho2 has ?_
    refine G.call0 _ _ (by kernel_rfl) Tryz.call86 (text0 (p := .pointer (some ⟨e, 0, none⟩)) (ht.mono le7) (hfy.mono le7) (SB.tx (sF.t _))) ?_
    rintro v8 u8 l8 rfl
    refine G.buildU 102 5 64 (.agg #[.int .i64 0, .string (mkS []), .int .i64 0, .string (mkS []), .string (mkS [])]) [.agg #[.int .i64 qs[i].1.1, .string (mkS qs[i].1.2), .int .i64 qs[i].2.1, .string (mkS qs[i].2.2), .string (mkS (ratT (F.t qs[i])))]] (by kernel_rfl) (prtV_ok (qs[i], F.t qs[i])) rfl (by omega) (by simp) (by simp) ?_
    intro g9 u9 l9 e9
    have hel : ((qs.take i).map fun p => prtV (p, F.t p)).length = i := by simp; omega
    refine G.append 102 5 64 (.agg #[.int .i64 0, .string (mkS []), .int .i64 0, .string (mkS []), .string (mkS [])]) m4 ((qs.take i).map fun p => prtV (p, F.t p)) [.agg #[.int .i64 qs[i].1.1, .string (mkS qs[i].1.2), .int .i64 qs[i].2.1, .string (mkS qs[i].2.2), .string (mkS (ratT (F.t qs[i])))]] (.slice ya yn yc) g9 0 1 1 (by kernel_rfl) rfl rfl (by omega) hB e9 (prtV_ok (qs[i], F.t qs[i])) rfl (by omega) (by omega) (by omega) ?_
    intro v10 m10 hB10
    rw [show ((qs.take i).map fun p => prtV (p, F.t p)) ++ [.agg #[.int .i64 qs[i].1.1, .string (mkS qs[i].1.2), .int .i64 qs[i].2.1, .string (mkS qs[i].2.2), .string (mkS (ratT (F.t qs[i])))]] = (qs.take (i + 1)).map fun p => prtV (p, F.t p) by rw [List.take_add_one, hTi, List.map_append]; rfl] at hB10
    obtain ⟨a10, c10, rfl⟩ := hB10.shape
    refine G.add (i : Int) 1 ((i + 1 : Nat) : Int) (by kernel_rfl) (by omega) (by omega) (by omega) ?_
    exact G.back (by kernel_rfl) (hJ2 (i + 1, (a10, ((qs.take (i + 1)).map fun p => prtV (p, F.t p)).length, c10)) _ _ _ ⟨by kernel_rfl, by kernel_rfl, by kernel_rfl⟩ ((l7.trans l8).trans l9) ⟨by dsimp only; omega, hB10⟩ (by dsimp only; omega))
  obtain rfl : i = qs.length := by omega
  refine G.lssF (qs.length : Int) (qs.length : Int) (by kernel_rfl) (by omega) ?_
  rw [List.take_length] at hB
  have hyn : yn = qs.length := by have := hB.len; simpa using this
  subst hyn
  have hme : m7 e = some (.cells [Value.int .i64 0].toArray 45 (0, 0)) := hB.le _ _ (hA.le _ _ (by rw [hm0]; exact upd_same _ _ _))
  refine G.loadM none e 0 (.int .i64 0) (by kernel_rfl) (by kernel_rfl) (fun i y hy => by
    match i, hy with
    | 0, hy => simp [Value.cells] at hy; subst hy; exact ⟨_, _, _, hme, rfl⟩
    | k + 1, hy => simp [Value.cells] at hy) ?_
  refine G.neqF 0 0 (by kernel_rfl) (by omega) ?_
  refine G.give m4 _ _ (by kernel_rfl) hB (fun _ => .inl rfl) ?_
  intro u8 l8 hLq
  refine G.give m0 _ _ (by kernel_rfl) hA (fun _ => .inl rfl) ?_
  intro u9 l9 hLt
  refine G.drop PH.mt (by kernel_rfl) (PH.mt_le _) ?_
  refine G.ret (.tuple #[.agg #[.string (mkS (ratT F.c)), .slice xa ts.length xc, .slice ya qs.length yc], .int .i64 0]) (by kernel_rfl) ⟨rfl, _, rfl, ts.map (fun p => (p, F.s p)), qs.map (fun p => (p, F.t p)), xa, xc, ya, yc, by rw [List.length_map, List.length_map], ?_, ?_, can_keys hss hsm (fun p hp => ?_) z1, can_keys hqss hqsm (fun p hp => ?_) z2, by rw [List.length_map]; exact hlen, by rw [List.length_map]; exact hlen2⟩
  · rw [List.length_map, List.map_map]; exact hLt
  · rw [List.length_map, List.map_map]; exact hLq.mono l9
  · obtain ⟨y, hy, rfl⟩ := List.mem_map.1 hp
    exact (q1 y hy).2.1 rfl
  · obtain ⟨y, hy, rfl⟩ := List.mem_map.1 hp
    exact (q2 y hy).2.1 rfl
end Go.Proofs.YtikfmknnbjocmaaGreatDoor
end
section
set_option linter.unusedSectionVars false
set_option linter.unusedVariables false
namespace Go.Proofs.YtikfmknnbjocmaaGreatDoor
open Go.RowKit Go.MapKept
theorem ratT_ne0 {q : Rat} (h : q ≠ 0) : ratT q ≠ [48] := by
  intro e
  unfold ratT at e
  split at e
  · have := itoa_inj (e.trans itoa_zero.symm)
    exact h (Rat.num_eq_zero.1 this)
  · have : (47 : UInt8) ∈ Lib.itoa q.num ++ 47 :: Lib.itoa (q.den : Int) := by simp
    rw [e] at this
    simp at this
theorem less0 {u : PH} (p q : Par) (r : Bool) (h : decide (cmpP p q < 0) = r) : Fn0 Tryz.prog 35 [parV p, parV q] u fun v _ => v = .bool r := by
  refine Fn0.of Tryz.func35 (by kernel_rfl) (by kernel_rfl) ?_
  refine G.call0 _ _ (by kernel_rfl) Tryz.call72 (compare0 p q) ?_
  rintro v1 u1 l1 rfl
  cases r with
  | true =>
    refine G.lssT (cmpP p q) 0 (by kernel_rfl) (of_decide_eq_true h) ?_
    exact G.ret (.bool true) (by kernel_rfl) ⟨rfl, rfl⟩
  | false =>
    refine G.lssF (cmpP p q) 0 (by kernel_rfl) (of_decide_eq_false h) ?_
    exact G.ret (.bool false) (by kernel_rfl) ⟨rfl, rfl⟩
theorem entry0 {u : PH} {q : Rat} (h : Tx q) (h0 : q ≠ 0) : Fn0 Tryz.prog 65 [.string (mkS (ratT q))] u fun v _ => v = .bool true := by
  refine Fn0.of Tryz.func65 (by kernel_rfl) (by kernel_rfl) ?_
  refine G.call0 _ _ (by kernel_rfl) Tryz.call52 (ratValid0 h) ?_
  rintro v1 u1 l1 rfl
  refine G.neST (ratT q) [48] (by kernel_rfl) (ratT_ne0 h0) ?_
  exact G.ret (.bool true) (by kernel_rfl) ⟨rfl, rfl⟩
theorem wordB_len {s : List UInt8} (h : wordB s = true) : 1 ≤ s.length ∧ s.length ≤ 12 := by
  unfold wordB at h
  split at h
  · cases h
  · simp only [Bool.and_eq_true, decide_eq_true_eq] at h
    exact ⟨by simp, h.2⟩
theorem wordB_at {s : List UInt8} (h : wordB s = true) {i : Nat} {c : UInt8} (hi : s[i]? = some c) : (97 ≤ c.toNat ∧ c.toNat ≤ 122) ∨ (i ≠ 0 ∧ (c.toNat = 45 ∨ (48 ≤ c.toNat ∧ c.toNat ≤ 57))) := by
  unfold wordB at h
  split at h
  · cases h
  · rename_i d l
    simp only [Bool.and_eq_true, decide_eq_true_eq, List.all_eq_true, letB, Bool.or_eq_true] at h
    obtain ⟨⟨h1, h2⟩, _⟩ := h
    match i, hi with
    | 0, hi => simp at hi; subst hi; exact .inl h1
    | i + 1, hi =>
      simp at hi
      rcases h2 c (List.mem_of_getElem? hi) with h | h
      · exact .inl h
      · exact .inr ⟨by omega, h⟩
set_option maxHeartbeats 2000000 in
theorem word0 {u : PH} {s : List UInt8} (h : wordB s = true) : Fn0 Tryz.prog 80 [.string (mkS s)] u fun v _ => v = .bool true := by
  obtain ⟨hl1, hl2⟩ := wordB_len h
  refine Fn0.of Tryz.func80 (by kernel_rfl) (by kernel_rfl) ?_
  refine G.convSB (some .string) 5 s (by kernel_rfl) (by kernel_rfl) (by kernel_rfl) ?_
  intro v1 u1 l1 hb
  obtain ⟨a, c, rfl⟩ := ListP.opn hb
  rw [bytesV_length] at hb ⊢
  refine G.loop (ι := Nat) (fun i => [(0, .v (.string (mkS s))), (7, .v (.slice a s.length c)), (8, .v (.int .i64 (s.length : Int))), (9, .v (.int .i64 (i : Int)))]) (fun _ => [])
    (fun i u' m' => i ≤ s.length ∧ m' = PH.mt) (fun i => s.length - i) 0 (by kernel_rfl) (fun _ => by kernel_rfl) ⟨by kernel_rfl, by kernel_rfl, by kernel_rfl⟩ ⟨by omega, rfl⟩ ?_
  rintro J i hJ u2 m2 l2 ⟨hi, rfl⟩
  by_cases hlt : i < s.length
  · refine G.lssT (i : Int) (s.length : Int) (by kernel_rfl) (by omega) ?_
    have hsi : s[i]? = some s[i] := List.getElem?_eq_getElem hlt
    obtain ⟨b, off, rfl, e⟩ := ListP.at' (hb.mono l2) (j := i) (e := .int .u8 (s[i].toNat : Int)) (by simp [bytesV, hsi])
    have hw := wordB_at h hsi
    generalize s[i].toNat = n at e hw
    refine G.addr b off s.length c i 1 (by kernel_rfl) hlt ?_
    refine G.loadU none b (off + i * 1) (.int .u8 (n : Int)) (by kernel_rfl) (by kernel_rfl) e ?_
    by_cases hle : 97 ≤ n ∧ n ≤ 122
    · refine G.cmpG .geq .u8 (n : Int) 97 true (by kernel_rfl) rfl (by simp [cmpZ]; omega) ?_
      refine G.cmpG .leq .u8 (n : Int) 122 true (by kernel_rfl) rfl (by simp [cmpZ]; omega) ?_
      refine G.add (i : Int) 1 ((i + 1 : Nat) : Int) (by kernel_rfl) (by omega) (by omega) (by omega) ?_
      exact G.back (by kernel_rfl) (hJ (i + 1) _ _ _ ⟨by kernel_rfl, by kernel_rfl, by kernel_rfl⟩ l2 ⟨by omega, rfl⟩ (by omega))
    · obtain ⟨hi0, hd⟩ := hw.resolve_left hle
      by_cases h97 : 97 ≤ n
      · refine G.cmpG .geq .u8 (n : Int) 97 true (by kernel_rfl) rfl (by simp [cmpZ]; omega) ?_
        refine G.cmpG .leq .u8 (n : Int) 122 false (by kernel_rfl) rfl (by simp [cmpZ]; omega) ?_
        refine G.eqlF (i : Int) 0 (by kernel_rfl) (by omega) ?_
        by_cases h45 : n = 45
        · refine G.cmpG .neq .u8 (n : Int) 45 false (by kernel_rfl) rfl (by simp [cmpZ]; omega) ?_
          refine G.add (i : Int) 1 ((i + 1 : Nat) : Int) (by kernel_rfl) (by omega) (by omega) (by omega) ?_
          exact G.back (by kernel_rfl) (hJ (i + 1) _ _ _ ⟨by kernel_rfl, by kernel_rfl, by kernel_rfl⟩ l2 ⟨by omega, rfl⟩ (by omega))
        · refine G.cmpG .neq .u8 (n : Int) 45 true (by kernel_rfl) rfl (by simp [cmpZ]; omega) ?_
          refine G.cmpG .lss .u8 (n : Int) 48 false (by kernel_rfl) rfl (by simp [cmpZ]; omega) ?_
          refine G.cmpG .gtr .u8 (n : Int) 57 false (by kernel_rfl) rfl (by simp [cmpZ]; omega) ?_
          refine G.add (i : Int) 1 ((i + 1 : Nat) : Int) (by kernel_rfl) (by omega) (by omega) (by omega) ?_
          exact G.back (by kernel_rfl) (hJ (i + 1) _ _ _ ⟨by kernel_rfl, by kernel_rfl, by kernel_rfl⟩ l2 ⟨by omega, rfl⟩ (by omega))
      · refine G.cmpG .geq .u8 (n : Int) 97 false (by kernel_rfl) rfl (by simp [cmpZ]; omega) ?_
        refine G.eqlF (i : Int) 0 (by kernel_rfl) (by omega) ?_
        by_cases h45 : n = 45
        · refine G.cmpG .neq .u8 (n : Int) 45 false (by kernel_rfl) rfl (by simp [cmpZ]; omega) ?_
          refine G.add (i : Int) 1 ((i + 1 : Nat) : Int) (by kernel_rfl) (by omega) (by omega) (by omega) ?_
          exact G.back (by kernel_rfl) (hJ (i + 1) _ _ _ ⟨by kernel_rfl, by kernel_rfl, by kernel_rfl⟩ l2 ⟨by omega, rfl⟩ (by omega))
        · refine G.cmpG .neq .u8 (n : Int) 45 true (by kernel_rfl) rfl (by simp [cmpZ]; omega) ?_
          refine G.cmpG .lss .u8 (n : Int) 48 false (by kernel_rfl) rfl (by simp [cmpZ]; omega) ?_
          refine G.cmpG .gtr .u8 (n : Int) 57 false (by kernel_rfl) rfl (by simp [cmpZ]; omega) ?_
          refine G.add (i : Int) 1 ((i + 1 : Nat) : Int) (by kernel_rfl) (by omega) (by omega) (by omega) ?_
          exact G.back (by kernel_rfl) (hJ (i + 1) _ _ _ ⟨by kernel_rfl, by kernel_rfl, by kernel_rfl⟩ l2 ⟨by omega, rfl⟩ (by omega))
  · obtain rfl : i = s.length := by omega
    refine G.lssF (s.length : Int) (s.length : Int) (by kernel_rfl) (by omega) ?_
    have hq : ∀ x : Int, x = (s.length : Int) → 1 ≤ x ∧ x ≤ 12 := fun x hx => by omega
    refine G.geqT (s.length : Int) 1 (by kernel_rfl) (by omega) ?_
    refine G.leqT (s.length : Int) 12 (by kernel_rfl) (by omega) ?_
    exact G.ret (.bool true) (by kernel_rfl) ⟨rfl, rfl⟩
theorem param0 {u : PH} {p : Par} (h : PV p) : Fn0 Tryz.prog 64 [parV p] u fun v _ => v = .bool true := by
  refine Fn0.of Tryz.func64 (by kernel_rfl) (by kernel_rfl) ?_
  refine G.geqT p.1 (-1) (by kernel_rfl) (by have := h.lo; omega) ?_
  by_cases hc : p.2 = []
  · refine G.eqST p.2 [] (by kernel_rfl) hc ?_
    exact G.ret (.bool true) (by kernel_rfl) ⟨rfl, rfl⟩
  · refine G.eqSF p.2 [] (by kernel_rfl) hc ?_
    refine G.call0 _ _ (by kernel_rfl) Tryz.call80 (word0 (h.cat.resolve_left hc)) ?_
    rintro v1 u1 l1 rfl
    exact G.ret (.bool true) (by kernel_rfl) ⟨rfl, rfl⟩
theorem bad1 {u : PH} {x : Par × Rat} (h : PV x.1) (hx : Tx x.2) (h0 : x.2 ≠ 0) : Fn0 Tryz.prog 63 [termV x] u fun v _ => v = .bool false := by
  refine Fn0.of Tryz.func63 (by kernel_rfl) (by kernel_rfl) ?_
  refine G.call0 _ _ (by kernel_rfl) Tryz.call64 (param0 h) ?_
  rintro v1 u1 l1 rfl
  refine G.call0 _ _ (by kernel_rfl) Tryz.call65 (entry0 hx h0) ?_
  rintro v2 u2 l2 rfl
  exact G.ret (.bool false) (by kernel_rfl) ⟨rfl, rfl⟩
theorem bad2 {u : PH} {x : (Par × Par) × Rat} (h : PV x.1.1) (h' : PV x.1.2) (ho : ¬ 0 < cmpP x.1.1 x.1.2) (hx : Tx x.2) (h0 : x.2 ≠ 0) : Fn0 Tryz.prog 67 [prtV x] u fun v _ => v = .bool false := by
  refine Fn0.of Tryz.func67 (by kernel_rfl) (by kernel_rfl) ?_
  refine G.call0 _ _ (by kernel_rfl) Tryz.call64 (param0 h) ?_
  rintro v1 u1 l1 rfl
  refine G.call0 _ _ (by kernel_rfl) Tryz.call64 (param0 h') ?_
  rintro v2 u2 l2 rfl
  refine G.call0 _ _ (by kernel_rfl) Tryz.call35 (less0 x.1.2 x.1.1 false (decide_eq_false fun e => ho ((ordP.sym _ _).1 e))) ?_
  rintro v3 u3 l3 rfl
  refine G.call0 _ _ (by kernel_rfl) Tryz.call65 (entry0 hx h0) ?_
  rintro v4 u4 l4 rfl
  exact G.ret (.bool false) (by kernel_rfl) ⟨rfl, rfl⟩
theorem lessT0 {u : PH} {x y : Par × Rat} (h : cmpP x.1 y.1 < 0) : Fn0 Tryz.prog 69 [termV x, termV y] u fun v _ => v = .bool true := by
  refine Fn0.of Tryz.func69 (by kernel_rfl) (by kernel_rfl) ?_
  refine G.call0 _ _ (by kernel_rfl) Tryz.call35 (less0 x.1 y.1 true (decide_eq_true h)) ?_
  rintro v1 u1 l1 rfl
  exact G.ret (.bool true) (by kernel_rfl) ⟨rfl, rfl⟩
theorem lessQ0 {u : PH} {x y : (Par × Par) × Rat} (h : cmpQ x.1 y.1 < 0) : Fn0 Tryz.prog 71 [prtV x, prtV y] u fun v _ => v = .bool true := by
  refine Fn0.of Tryz.func71 (by kernel_rfl) (by kernel_rfl) ?_
  by_cases h1 : cmpP x.1.1 y.1.1 < 0
  · refine G.call0 _ _ (by kernel_rfl) Tryz.call35 (less0 x.1.1 y.1.1 true (decide_eq_true h1)) ?_
    rintro v1 u1 l1 rfl
    exact G.ret (.bool true) (by kernel_rfl) ⟨rfl, rfl⟩
  · have h2 : cmpP x.1.1 y.1.1 = 0 ∧ cmpP x.1.2 y.1.2 < 0 := by
      unfold cmpQ at h
      split at h
      · exact absurd h h1
      · rename_i e; exact ⟨by simpa using e, h⟩
    have he := ordP.eq _ _ h2.1
    refine G.call0 _ _ (by kernel_rfl) Tryz.call35 (less0 x.1.1 y.1.1 false (decide_eq_false h1)) ?_
    rintro v1 u1 l1 rfl
    refine G.eqAgg 43 #[.int .i64 x.1.1.1, .string (mkS x.1.1.2)] #[.int .i64 y.1.1.1, .string (mkS y.1.1.2)] true (by kernel_rfl) (by kernel_rfl) (by kernel_rfl) (fun w => by rw [← decide_eq_true he]; exact keyPar.eq x.1.1 y.1.1 w) ?_
    refine G.call0 _ _ (by kernel_rfl) Tryz.call35 (less0 x.1.2 y.1.2 true (decide_eq_true h2.2)) ?_
    rintro v2 u2 l2 rfl
    exact G.ret (.bool true) (by kernel_rfl) ⟨rfl, rfl⟩
theorem tIndex0 {u : PH} {v : Value} {T : List (Par × Rat)} {fid : Nat} (h : ListP u v 3 (T.map termV)) (hl : T.length ≤ 1000000)
    (hcall : ∀ args w, (callFunc fid args).run Tryz.prog w = .ok (.enter fid args) w) (hf : ∀ p ∈ T, ∀ u', PH.le u u' → Fn0 Tryz.prog fid [termV p] u' fun v _ => v = .bool false) :
    Fn0 Tryz.prog 116 [v, .func (.func fid) #[] #[]] u fun v' _ => v' = .int .i64 (-1) := by
  obtain ⟨a, c, rfl⟩ := h.opn
  rw [List.length_map] at h ⊢
  refine Fn0.of Tryz.func116 (by kernel_rfl) (by kernel_rfl) ?_
  refine G.loop (ι := Nat) (fun i => [(0, .v (.slice a T.length c)), (1, .v (.func (.func fid) #[] #[])), (7, .v (.int .i64 (T.length : Int))), (8, .v (.int .i64 (i : Int)))]) (fun _ => [])
    (fun i u' m' => i ≤ T.length ∧ m' = PH.mt) (fun i => T.length - i) 0 (by kernel_rfl) (fun _ => by kernel_rfl) ⟨by kernel_rfl, by kernel_rfl, by kernel_rfl⟩ ⟨by omega, rfl⟩ ?_
  rintro J i hJ u1 m1 l1 ⟨hi, rfl⟩
  by_cases hlt : i < T.length
  · refine G.lssT (i : Int) (T.length : Int) (by kernel_rfl) (by omega) ?_
    have hTi : T[i]? = some T[i] := List.getElem?_eq_getElem hlt
    obtain ⟨ba, oa, rfl, ea⟩ := ListP.at' (h.mono l1) (j := i) (e := termV T[i]) (by simp [hTi])
    refine G.addr ba oa T.length c i 3 (by kernel_rfl) (by omega) ?_
    refine G.loadU (some 3) ba (oa + i * 3) (termV T[i]) (by kernel_rfl) (by kernel_rfl) ea ?_
    refine G.call0 fid [termV T[i]] (by kernel_rfl) hcall (hf T[i] (List.getElem_mem hlt) u1 l1) ?_
    rintro v2 u2 l2 rfl
    refine G.add (i : Int) 1 ((i + 1 : Nat) : Int) (by kernel_rfl) (by omega) (by omega) (by omega) ?_
    exact G.back (by kernel_rfl) (hJ (i + 1) _ _ _ ⟨by kernel_rfl, by kernel_rfl, by kernel_rfl⟩ (l1.trans l2) ⟨by omega, rfl⟩ (by omega))
  · obtain rfl : i = T.length := by omega
    refine G.lssF (T.length : Int) (T.length : Int) (by kernel_rfl) (by omega) ?_
    exact G.ret (.int .i64 (-1)) (by kernel_rfl) ⟨rfl, rfl⟩
theorem tContains0 {u : PH} {v : Value} {T : List (Par × Rat)} {fid : Nat} (h : ListP u v 3 (T.map termV)) (hl : T.length ≤ 1000000)
    (hcall : ∀ args w, (callFunc fid args).run Tryz.prog w = .ok (.enter fid args) w) (hf : ∀ p ∈ T, ∀ u', PH.le u u' → Fn0 Tryz.prog fid [termV p] u' fun v _ => v = .bool false) :
    Fn0 Tryz.prog 62 [v, .func (.func fid) #[] #[]] u fun v' _ => v' = .bool false := by
  obtain ⟨a, c, rfl⟩ := h.opn
  refine Fn0.of Tryz.func62 (by kernel_rfl) (by kernel_rfl) ?_
  refine G.call0 _ _ (by kernel_rfl) Tryz.call116 (tIndex0 h hl hcall hf) ?_
  rintro v1 u1 l1 rfl
  refine G.geqF (-1) 0 (by kernel_rfl) (by omega) ?_
  exact G.ret (.bool false) (by kernel_rfl) ⟨rfl, rfl⟩
theorem tAscending0 {u : PH} {v : Value} {T : List (Par × Rat)} {fid : Nat} (h : ListP u v 3 (T.map termV)) (hl : T.length ≤ 1000000)
    (hcall : ∀ args w, (callFunc fid args).run Tryz.prog w = .ok (.enter fid args) w) (hf : ∀ (i : Nat) x y, T[i]? = some x → T[i + 1]? = some y → ∀ u', Fn0 Tryz.prog fid [termV x, termV y] u' fun v _ => v = .bool true) :
    Fn0 Tryz.prog 68 [v, .func (.func fid) #[] #[]] u fun v' _ => v' = .bool true := by
  obtain ⟨a, c, rfl⟩ := h.opn
  rw [List.length_map] at h ⊢
  refine Fn0.of Tryz.func68 (by kernel_rfl) (by kernel_rfl) ?_
  refine G.loop (ι := Nat) (fun i => [(0, .v (.slice a T.length c)), (1, .v (.func (.func fid) #[] #[])), (5, .v (.int .i64 ((i + 1 : Nat) : Int)))]) (fun _ => [])
    (fun i u' m' => i ≤ T.length ∧ m' = PH.mt) (fun i => T.length - i) 0 (by kernel_rfl) (fun _ => by kernel_rfl) ⟨by kernel_rfl, by kernel_rfl, by kernel_rfl⟩ ⟨by omega, rfl⟩ ?_
  rintro J i hJ u1 m1 l1 ⟨hi, rfl⟩
  by_cases hlt : i + 1 < T.length
  · refine G.lssT ((i + 1 : Nat) : Int) (T.length : Int) (by kernel_rfl) (by omega) ?_
    have hTi : T[i]? = some T[i] := List.getElem?_eq_getElem (by omega)
    have hTj : T[i + 1]? = some T[i + 1] := List.getElem?_eq_getElem hlt
    obtain ⟨ba, oa, rfl, ea⟩ := ListP.at' (h.mono l1) (j := i) (e := termV T[i]) (by simp [hTi])
    obtain ⟨_, _, e', eb⟩ := ListP.at' (h.mono l1) (j := i + 1) (e := termV T[i + 1]) (by simp [hTj])
    cases e'
    refine G.sub ((i + 1 : Nat) : Int) 1 (i : Int) (by kernel_rfl) (by omega) (by omega) (by omega) ?_
    refine G.addr ba oa T.length c i 3 (by kernel_rfl) (by omega) ?_
    refine G.loadU (some 3) ba (oa + i * 3) (termV T[i]) (by kernel_rfl) (by kernel_rfl) ea ?_
    refine G.addr ba oa T.length c (i + 1) 3 (by kernel_rfl) (by omega) ?_
    refine G.loadU (some 3) ba (oa + (i + 1) * 3) (termV T[i + 1]) (by kernel_rfl) (by kernel_rfl) eb ?_
    refine G.call0 fid [termV T[i], termV T[i + 1]] (by kernel_rfl) hcall (hf i _ _ hTi hTj u1) ?_
    rintro v2 u2 l2 rfl
    refine G.add ((i + 1 : Nat) : Int) 1 ((i + 1 + 1 : Nat) : Int) (by kernel_rfl) (by omega) (by omega) (by omega) ?_
    exact G.back (by kernel_rfl) (hJ (i + 1) _ _ _ ⟨by kernel_rfl, by kernel_rfl, by kernel_rfl⟩ (l1.trans l2) ⟨by omega, rfl⟩ (by omega))
  · refine G.lssF ((i + 1 : Nat) : Int) (T.length : Int) (by kernel_rfl) (by omega) ?_
    exact G.ret (.bool true) (by kernel_rfl) ⟨rfl, rfl⟩
theorem qIndex0 {u : PH} {v : Value} {T : List ((Par × Par) × Rat)} {fid : Nat} (h : ListP u v 5 (T.map prtV)) (hl : T.length ≤ 1000000)
    (hcall : ∀ args w, (callFunc fid args).run Tryz.prog w = .ok (.enter fid args) w) (hf : ∀ p ∈ T, ∀ u', PH.le u u' → Fn0 Tryz.prog fid [prtV p] u' fun v _ => v = .bool false) :
    Fn0 Tryz.prog 117 [v, .func (.func fid) #[] #[]] u fun v' _ => v' = .int .i64 (-1) := by
  obtain ⟨a, c, rfl⟩ := h.opn
  rw [List.length_map] at h ⊢
  refine Fn0.of Tryz.func117 (by kernel_rfl) (by kernel_rfl) ?_
  refine G.loop (ι := Nat) (fun i => [(0, .v (.slice a T.length c)), (1, .v (.func (.func fid) #[] #[])), (7, .v (.int .i64 (T.length : Int))), (8, .v (.int .i64 (i : Int)))]) (fun _ => [])
    (fun i u' m' => i ≤ T.length ∧ m' = PH.mt) (fun i => T.length - i) 0 (by kernel_rfl) (fun _ => by kernel_rfl) ⟨by kernel_rfl, by kernel_rfl, by kernel_rfl⟩ ⟨by omega, rfl⟩ ?_
  rintro J i hJ u1 m1 l1 ⟨hi, rfl⟩
  by_cases hlt : i < T.length
  · refine G.lssT (i : Int) (T.length : Int) (by kernel_rfl) (by omega) ?_
    have hTi : T[i]? = some T[i] := List.getElem?_eq_getElem hlt
    obtain ⟨ba, oa, rfl, ea⟩ := ListP.at' (h.mono l1) (j := i) (e := prtV T[i]) (by simp [hTi])
    refine G.addr ba oa T.length c i 5 (by kernel_rfl) (by omega) ?_
    refine G.loadU (some 5) ba (oa + i * 5) (prtV T[i]) (by kernel_rfl) (by kernel_rfl) ea ?_
    refine G.call0 fid [prtV T[i]] (by kernel_rfl) hcall (hf T[i] (List.getElem_mem hlt) u1 l1) ?_
    rintro v2 u2 l2 rfl
    refine G.add (i : Int) 1 ((i + 1 : Nat) : Int) (by kernel_rfl) (by omega) (by omega) (by omega) ?_
    exact G.back (by kernel_rfl) (hJ (i + 1) _ _ _ ⟨by kernel_rfl, by kernel_rfl, by kernel_rfl⟩ (l1.trans l2) ⟨by omega, rfl⟩ (by omega))
  · obtain rfl : i = T.length := by omega
    refine G.lssF (T.length : Int) (T.length : Int) (by kernel_rfl) (by omega) ?_
    exact G.ret (.int .i64 (-1)) (by kernel_rfl) ⟨rfl, rfl⟩
theorem qContains0 {u : PH} {v : Value} {T : List ((Par × Par) × Rat)} {fid : Nat} (h : ListP u v 5 (T.map prtV)) (hl : T.length ≤ 1000000)
    (hcall : ∀ args w, (callFunc fid args).run Tryz.prog w = .ok (.enter fid args) w) (hf : ∀ p ∈ T, ∀ u', PH.le u u' → Fn0 Tryz.prog fid [prtV p] u' fun v _ => v = .bool false) :
    Fn0 Tryz.prog 66 [v, .func (.func fid) #[] #[]] u fun v' _ => v' = .bool false := by
  obtain ⟨a, c, rfl⟩ := h.opn
  refine Fn0.of Tryz.func66 (by kernel_rfl) (by kernel_rfl) ?_
  refine G.call0 _ _ (by kernel_rfl) Tryz.call117 (qIndex0 h hl hcall hf) ?_
  rintro v1 u1 l1 rfl
  refine G.geqF (-1) 0 (by kernel_rfl) (by omega) ?_
  exact G.ret (.bool false) (by kernel_rfl) ⟨rfl, rfl⟩
theorem qAscending0 {u : PH} {v : Value} {T : List ((Par × Par) × Rat)} {fid : Nat} (h : ListP u v 5 (T.map prtV)) (hl : T.length ≤ 1000000)
    (hcall : ∀ args w, (callFunc fid args).run Tryz.prog w = .ok (.enter fid args) w) (hf : ∀ (i : Nat) x y, T[i]? = some x → T[i + 1]? = some y → ∀ u', Fn0 Tryz.prog fid [prtV x, prtV y] u' fun v _ => v = .bool true) :
    Fn0 Tryz.prog 70 [v, .func (.func fid) #[] #[]] u fun v' _ => v' = .bool true := by
  obtain ⟨a, c, rfl⟩ := h.opn
  rw [List.length_map] at h ⊢
  refine Fn0.of Tryz.func70 (by kernel_rfl) (by kernel_rfl) ?_
  refine G.loop (ι := Nat) (fun i => [(0, .v (.slice a T.length c)), (1, .v (.func (.func fid) #[] #[])), (5, .v (.int .i64 ((i + 1 : Nat) : Int)))]) (fun _ => [])
    (fun i u' m' => i ≤ T.length ∧ m' = PH.mt) (fun i => T.length - i) 0 (by kernel_rfl) (fun _ => by kernel_rfl) ⟨by kernel_rfl, by kernel_rfl, by kernel_rfl⟩ ⟨by omega, rfl⟩ ?_
  rintro J i hJ u1 m1 l1 ⟨hi, rfl⟩
  by_cases hlt : i + 1 < T.length
  · refine G.lssT ((i + 1 : Nat) : Int) (T.length : Int) (by kernel_rfl) (by omega) ?_
    have hTi : T[i]? = some T[i] := List.getElem?_eq_getElem (by omega)
    have hTj : T[i + 1]? = some T[i + 1] := List.getElem?_eq_getElem hlt
    obtain ⟨ba, oa, rfl, ea⟩ := ListP.at' (h.mono l1) (j := i) (e := prtV T[i]) (by simp [hTi])
    obtain ⟨_, _, e', eb⟩ := ListP.at' (h.mono l1) (j := i + 1) (e := prtV T[i + 1]) (by simp [hTj])
    cases e'
    refine G.sub ((i + 1 : Nat) : Int) 1 (i : Int) (by kernel_rfl) (by omega) (by omega) (by omega) ?_
    refine G.addr ba oa T.length c i 5 (by kernel_rfl) (by omega) ?_
    refine G.loadU (some 5) ba (oa + i * 5) (prtV T[i]) (by kernel_rfl) (by kernel_rfl) ea ?_
    refine G.addr ba oa T.length c (i + 1) 5 (by kernel_rfl) (by omega) ?_
    refine G.loadU (some 5) ba (oa + (i + 1) * 5) (prtV T[i + 1]) (by kernel_rfl) (by kernel_rfl) eb ?_
    refine G.call0 fid [prtV T[i], prtV T[i + 1]] (by kernel_rfl) hcall (hf i _ _ hTi hTj u1) ?_
    rintro v2 u2 l2 rfl
    refine G.add ((i + 1 : Nat) : Int) 1 ((i + 1 + 1 : Nat) : Int) (by kernel_rfl) (by omega) (by omega) (by omega) ?_
    exact G.back (by kernel_rfl) (hJ (i + 1) _ _ _ ⟨by kernel_rfl, by kernel_rfl, by kernel_rfl⟩ (l1.trans l2) ⟨by omega, rfl⟩ (by omega))
  · refine G.lssF ((i + 1 : Nat) : Int) (T.length : Int) (by kernel_rfl) (by omega) ?_
    exact G.ret (.bool true) (by kernel_rfl) ⟨rfl, rfl⟩
theorem sort_step {κ : Type} {c : κ → κ → Int} {T : List (κ × Rat)} (h : SortK c (T.map (·.1))) {i : Nat} {x y : κ × Rat} (hx : T[i]? = some x) (hy : T[i + 1]? = some y) : c x.1 y.1 < 0 := by
  obtain ⟨h1, rfl⟩ := List.getElem?_eq_some_iff.1 hx
  obtain ⟨h2, rfl⟩ := List.getElem?_eq_some_iff.1 hy
  have := List.pairwise_iff_getElem.1 h i (i + 1) (by simpa using h1) (by simpa using h2) (by omega)
  simpa using this
theorem valid0 {u : PH} {v : Value} {F : CF} {K : Nat} (hv : CofP u v F K) (sF : CFS F) (vF : CFV F) (hK : K ≤ 1000000) : Fn0 Tryz.prog 33 [v] u fun v' _ => v' = .bool true := by
  obtain ⟨T, Q, a1, c1, a2, c2, rfl, hT, hQ, cT, cQ, kT, kQ⟩ := hv
  refine Fn0.of Tryz.func33 (by kernel_rfl) (by kernel_rfl) ?_
  refine G.call0 _ _ (by kernel_rfl) Tryz.call52 (ratValid0 (SB.tx sF.c)) ?_
  rintro v1 u1 l1 rfl
  refine G.call0 _ _ (by kernel_rfl) Tryz.call62 (tContains0 (fid := 63) (hT.mono l1) (by omega) Tryz.call63 (fun p hp u' _ => by
    obtain ⟨e1, e2⟩ := cT.val p hp
    exact bad1 (vF.s _ (by rw [← e1]; exact e2)) (SB.tx (by rw [e1]; exact sF.s _)) e2)) ?_
  rintro v2 u2 l2 rfl
  refine G.call0 _ _ (by kernel_rfl) Tryz.call66 (qContains0 (fid := 67) (hQ.mono (l1.trans l2)) (by omega) Tryz.call67 (fun p hp u' _ => by
    obtain ⟨e1, e2⟩ := cQ.val p hp
    obtain ⟨f1, f2, f3⟩ := vF.t p.1 (by rw [← e1]; exact e2)
    exact bad2 f1 f2 f3 (SB.tx (by rw [e1]; exact sF.t _)) e2)) ?_
  rintro v3 u3 l3 rfl
  refine G.call0 _ _ (by kernel_rfl) Tryz.call68 (tAscending0 (fid := 69) (hT.mono ((l1.trans l2).trans l3)) (by omega) Tryz.call69 (fun i x y hx hy u' => lessT0 (sort_step cT.srt hx hy))) ?_
  rintro v4 u4 l4 rfl
  refine G.call0 _ _ (by kernel_rfl) Tryz.call70 (qAscending0 (fid := 71) (hQ.mono (((l1.trans l2).trans l3).trans l4)) (by omega) Tryz.call71 (fun i x y hx hy u' => lessQ0 (sort_step cQ.srt hx hy))) ?_
  rintro v5 u5 l5 rfl
  exact G.ret (.bool true) (by kernel_rfl) ⟨rfl, rfl⟩
end Go.Proofs.YtikfmknnbjocmaaGreatDoor
end
section
set_option linter.unusedSectionVars false
set_option linter.unusedVariables false
namespace Go.Proofs.YtikfmknnbjocmaaGreatDoor
open Go.RowKit Go.MapKept
section
variable {P : Program}
theorem threeList {A B : Type} {h : A → B} {fs : List A} {x y z : B} (hf : fs.map h = [x, y, z]) : ∃ f g k, fs = [f, g, k] := by
  have h0 := congrArg List.length hf
  simp only [List.length_map, List.length_cons, List.length_nil] at h0
  match fs, h0 with
  | [f, g, k], _ => exact ⟨f, g, k, rfl⟩
theorem run_eq_leaf {t : TypeId} (h : P.underlying t = some .string) (d : Nat) (s : List UInt8) (w : World) : (Op.equalIn (d + 1) t (.string (mkS s)) (.string (mkS s))).run P w = .ok true w := by
  rw [run_equalIn_string w d _ _ _ h, mkS_beq]; simp
theorem run_eq_tm {t tp ti ts tr : TypeId} {k : IntKind} (hf : (P.fieldsOf t).toList.map fldOf = [(true, tp, 0), (true, tr, 2)]) (ht : P.underlying t = some (.struct (P.fieldsOf t))) (hp : P.stoodInHeld t = false)
    (hf' : (P.fieldsOf tp).toList.map fldOf = [(true, ti, 0), (true, ts, 1)]) (ht' : P.underlying tp = some (.struct (P.fieldsOf tp))) (hp' : P.stoodInHeld tp = false) (hsz : szB P tp = some 2) (hi : P.underlying ti = some (.int k)) (hs : P.underlying ts = some .string) (hr : P.underlying tr = some .string) (d : Nat) (x : Par × Rat) (w : World) :
    (Op.equalIn (d + 3) t (termV x) (termV x)).run P w = .ok true w := by
  have hag : aggB P tp = some true := by unfold aggB; rw [ht']
  unfold termV
  rw [run_equalIn_struct w (d + 2) t _ _ ht hp]
  generalize (P.fieldsOf t).toList = fs at hf
  obtain ⟨f, g, hfs⟩ := twoList hf
  subst hfs
  simp only [List.map_cons, List.map_nil, List.cons.injEq, fldOf, Prod.mk.injEq, bne_iff_ne, ne_eq, and_true] at hf
  obtain ⟨⟨n1, e1, o1⟩, n2, e2, o2⟩ := hf
  obtain ⟨⟨a1, a2⟩, a3⟩ := x
  simp only [Op.eqFields, ne_eq, n1, n2, not_false_eq_true, if_true, Sem.run_bind, e1, e2, o1, o2]
  rw [run_partN hag hsz, Result.andThen_ok, run_partN hag hsz, Result.andThen_ok]
  have q1 := run_eq_par hf' ht' hp' hi hs d (a1, a2) (a1, a2) w
  unfold parV at q1
  have x1 : (#[Value.int .i64 a1, .string (mkS a2), .string (mkS (ratT a3))].extract 0 (0 + 2)) = #[.int .i64 a1, .string (mkS a2)] := rfl
  simp only [x1, q1, Result.andThen_ok, decide_true, Bool.not_true, Bool.false_eq_true, if_false, Sem.run_bind]
  rw [run_part1 (und_of_str hr) (v := .string (mkS (ratT a3))) rfl, Result.andThen_ok, run_part1 (und_of_str hr) (v := .string (mkS (ratT a3))) rfl, Result.andThen_ok, run_eq_leaf hr]
  simp
theorem run_eq_pt {t tp ti ts tr : TypeId} {k : IntKind} (hf : (P.fieldsOf t).toList.map fldOf = [(true, tp, 0), (true, tp, 2), (true, tr, 4)]) (ht : P.underlying t = some (.struct (P.fieldsOf t))) (hp : P.stoodInHeld t = false)
    (hf' : (P.fieldsOf tp).toList.map fldOf = [(true, ti, 0), (true, ts, 1)]) (ht' : P.underlying tp = some (.struct (P.fieldsOf tp))) (hp' : P.stoodInHeld tp = false) (hsz : szB P tp = some 2) (hi : P.underlying ti = some (.int k)) (hs : P.underlying ts = some .string) (hr : P.underlying tr = some .string) (d : Nat) (x : (Par × Par) × Rat) (w : World) :
    (Op.equalIn (d + 3) t (prtV x) (prtV x)).run P w = .ok true w := by
  have hag : aggB P tp = some true := by unfold aggB; rw [ht']
  unfold prtV
  rw [run_equalIn_struct w (d + 2) t _ _ ht hp]
  generalize (P.fieldsOf t).toList = fs at hf
  obtain ⟨f, g, g', hfs⟩ := threeList hf
  subst hfs
  simp only [List.map_cons, List.map_nil, List.cons.injEq, fldOf, Prod.mk.injEq, bne_iff_ne, ne_eq, and_true] at hf
  obtain ⟨⟨n1, e1, o1⟩, ⟨n2, e2, o2⟩, n3, e3, o3⟩ := hf
  obtain ⟨⟨⟨a1, a2⟩, ⟨b1, b2⟩⟩, a3⟩ := x
  simp only [Op.eqFields, ne_eq, n1, n2, n3, not_false_eq_true, if_true, Sem.run_bind, e1, e2, e3, o1, o2, o3]
  rw [run_partN hag hsz, Result.andThen_ok, run_partN hag hsz, Result.andThen_ok]
  have q1 := run_eq_par hf' ht' hp' hi hs d (a1, a2) (a1, a2) w
  have q2 := run_eq_par hf' ht' hp' hi hs d (b1, b2) (b1, b2) w
  unfold parV at q1 q2
  have x1 : (#[Value.int .i64 a1, .string (mkS a2), .int .i64 b1, .string (mkS b2), .string (mkS (ratT a3))].extract 0 (0 + 2)) = #[.int .i64 a1, .string (mkS a2)] := rfl
  have x2 : (#[Value.int .i64 a1, .string (mkS a2), .int .i64 b1, .string (mkS b2), .string (mkS (ratT a3))].extract 2 (2 + 2)) = #[.int .i64 b1, .string (mkS b2)] := rfl
  simp only [x1, q1, Result.andThen_ok, decide_true, Bool.not_true, Bool.false_eq_true, if_false, Sem.run_bind]
  rw [run_partN hag hsz, Result.andThen_ok, run_partN hag hsz, Result.andThen_ok]
  simp only [x2, q2, Result.andThen_ok, decide_true, Bool.not_true, Bool.false_eq_true, if_false, Sem.run_bind]
  rw [run_part1 (und_of_str hr) (v := .string (mkS (ratT a3))) rfl, Result.andThen_ok, run_part1 (und_of_str hr) (v := .string (mkS (ratT a3))) rfl, Result.andThen_ok, run_eq_leaf hr]
  simp
end
theorem eqTerm (x : Par × Rat) (w : World) : (Op.equal 99 (termV x) (termV x)).run Tryz.prog w = .ok true w :=
  run_eq_tm (P := Tryz.prog) (t := 99) (tp := 43) (ti := 3) (ts := 9) (tr := 34) (k := .i64) (by kernel_rfl) (by kernel_rfl) (by kernel_rfl) (by kernel_rfl) (by kernel_rfl) (by kernel_rfl) (by kernel_rfl) (by kernel_rfl) (by kernel_rfl) (by kernel_rfl) 9997 x w
theorem eqPairT (x : (Par × Par) × Rat) (w : World) : (Op.equal 102 (prtV x) (prtV x)).run Tryz.prog w = .ok true w :=
  run_eq_pt (P := Tryz.prog) (t := 102) (tp := 43) (ti := 3) (ts := 9) (tr := 34) (k := .i64) (by kernel_rfl) (by kernel_rfl) (by kernel_rfl) (by kernel_rfl) (by kernel_rfl) (by kernel_rfl) (by kernel_rfl) (by kernel_rfl) (by kernel_rfl) (by kernel_rfl) 9997 x w
set_option maxHeartbeats 1000000 in
theorem tEqual0 {u : PH} {v v' : Value} {T : List (Par × Rat)} (h : ListP u v 3 (T.map termV)) (h' : ListP u v' 3 (T.map termV)) (hl : T.length ≤ 1000000) :
    Fn0 Tryz.prog 47 [v, v'] u fun r _ => r = .bool true := by
  obtain ⟨a, c, rfl⟩ := h.opn
  obtain ⟨a', c', rfl⟩ := h'.opn
  rw [List.length_map] at h h' ⊢
  refine Fn0.of Tryz.func47 (by kernel_rfl) (by kernel_rfl) ?_
  refine G.neqF (T.length : Int) (T.length : Int) (by kernel_rfl) (by omega) ?_
  refine G.loop (ι := Nat) (fun i => [(0, .v (.slice a T.length c)), (1, .v (.slice a' T.length c')), (12, .v (.int .i64 (T.length : Int))), (13, .v (.int .i64 (i : Int)))]) (fun _ => [])
    (fun i u' m' => i ≤ T.length ∧ m' = PH.mt) (fun i => T.length - i) 0 (by kernel_rfl) (fun _ => by kernel_rfl) ⟨by kernel_rfl, by kernel_rfl, by kernel_rfl⟩ ⟨by omega, rfl⟩ ?_
  rintro J i hJ u1 m1 l1 ⟨hi, rfl⟩
  by_cases hlt : i < T.length
  · refine G.lssT (i : Int) (T.length : Int) (by kernel_rfl) (by omega) ?_
    have hTi : T[i]? = some T[i] := List.getElem?_eq_getElem hlt
    obtain ⟨ba, oa, rfl, ea⟩ := ListP.at' (h.mono l1) (j := i) (e := termV T[i]) (by simp [hTi])
    obtain ⟨bb, ob, rfl, eb⟩ := ListP.at' (h'.mono l1) (j := i) (e := termV T[i]) (by simp [hTi])
    refine G.addr ba oa T.length c i 3 (by kernel_rfl) (by omega) ?_
    refine G.loadU (some 3) ba (oa + i * 3) (termV T[i]) (by kernel_rfl) (by kernel_rfl) ea ?_
    refine G.addr bb ob T.length c' i 3 (by kernel_rfl) (by omega) ?_
    refine G.loadU (some 3) bb (ob + i * 3) (termV T[i]) (by kernel_rfl) (by kernel_rfl) eb ?_
    refine G.neAgg 99 #[.int .i64 T[i].1.1, .string (mkS T[i].1.2), .string (mkS (ratT T[i].2))] #[.int .i64 T[i].1.1, .string (mkS T[i].1.2), .string (mkS (ratT T[i].2))] true (by kernel_rfl) (by kernel_rfl) (by kernel_rfl) (eqTerm T[i]) ?_
    refine G.add (i : Int) 1 ((i + 1 : Nat) : Int) (by kernel_rfl) (by omega) (by omega) (by omega) ?_
    exact G.back (by kernel_rfl) (hJ (i + 1) _ _ _ ⟨by kernel_rfl, by kernel_rfl, by kernel_rfl⟩ l1 ⟨by omega, rfl⟩ (by omega))
  · obtain rfl : i = T.length := by omega
    refine G.lssF (T.length : Int) (T.length : Int) (by kernel_rfl) (by omega) ?_
    exact G.ret (.bool true) (by kernel_rfl) ⟨rfl, rfl⟩
set_option maxHeartbeats 1000000 in
theorem qEqual0 {u : PH} {v v' : Value} {T : List ((Par × Par) × Rat)} (h : ListP u v 5 (T.map prtV)) (h' : ListP u v' 5 (T.map prtV)) (hl : T.length ≤ 1000000) :
    Fn0 Tryz.prog 48 [v, v'] u fun r _ => r = .bool true := by
  obtain ⟨a, c, rfl⟩ := h.opn
  obtain ⟨a', c', rfl⟩ := h'.opn
  rw [List.length_map] at h h' ⊢
  refine Fn0.of Tryz.func48 (by kernel_rfl) (by kernel_rfl) ?_
  refine G.neqF (T.length : Int) (T.length : Int) (by kernel_rfl) (by omega) ?_
  refine G.loop (ι := Nat) (fun i => [(0, .v (.slice a T.length c)), (1, .v (.slice a' T.length c')), (12, .v (.int .i64 (T.length : Int))), (13, .v (.int .i64 (i : Int)))]) (fun _ => [])
    (fun i u' m' => i ≤ T.length ∧ m' = PH.mt) (fun i => T.length - i) 0 (by kernel_rfl) (fun _ => by kernel_rfl) ⟨by kernel_rfl, by kernel_rfl, by kernel_rfl⟩ ⟨by omega, rfl⟩ ?_
  rintro J i hJ u1 m1 l1 ⟨hi, rfl⟩
  by_cases hlt : i < T.length
  · refine G.lssT (i : Int) (T.length : Int) (by kernel_rfl) (by omega) ?_
    have hTi : T[i]? = some T[i] := List.getElem?_eq_getElem hlt
    obtain ⟨ba, oa, rfl, ea⟩ := ListP.at' (h.mono l1) (j := i) (e := prtV T[i]) (by simp [hTi])
    obtain ⟨bb, ob, rfl, eb⟩ := ListP.at' (h'.mono l1) (j := i) (e := prtV T[i]) (by simp [hTi])
    refine G.addr ba oa T.length c i 5 (by kernel_rfl) (by omega) ?_
    refine G.loadU (some 5) ba (oa + i * 5) (prtV T[i]) (by kernel_rfl) (by kernel_rfl) ea ?_
    refine G.addr bb ob T.length c' i 5 (by kernel_rfl) (by omega) ?_
    refine G.loadU (some 5) bb (ob + i * 5) (prtV T[i]) (by kernel_rfl) (by kernel_rfl) eb ?_
    refine G.neAgg 102 #[.int .i64 T[i].1.1.1, .string (mkS T[i].1.1.2), .int .i64 T[i].1.2.1, .string (mkS T[i].1.2.2), .string (mkS (ratT T[i].2))] #[.int .i64 T[i].1.1.1, .string (mkS T[i].1.1.2), .int .i64 T[i].1.2.1, .string (mkS T[i].1.2.2), .string (mkS (ratT T[i].2))] true (by kernel_rfl) (by kernel_rfl) (by kernel_rfl) (eqPairT T[i]) ?_
    refine G.add (i : Int) 1 ((i + 1 : Nat) : Int) (by kernel_rfl) (by omega) (by omega) (by omega) ?_
    exact G.back (by kernel_rfl) (hJ (i + 1) _ _ _ ⟨by kernel_rfl, by kernel_rfl, by kernel_rfl⟩ l1 ⟨by omega, rfl⟩ (by omega))
  · obtain rfl : i = T.length := by omega
    refine G.lssF (T.length : Int) (T.length : Int) (by kernel_rfl) (by omega) ?_
    exact G.ret (.bool true) (by kernel_rfl) ⟨rfl, rfl⟩
theorem same0 {u : PH} {v v' : Value} {F : CF} {K K' : Nat} (h : CofP u v F K) (h' : CofP u v' F K') (hK : K ≤ 1000000) : Fn0 Tryz.prog 16 [v, v'] u fun r _ => r = .bool true := by
  obtain ⟨T, Q, a1, c1, a2, c2, rfl, hT, hQ, cT, cQ, kT, kQ⟩ := h
  obtain ⟨T', Q', b1, d1, b2, d2, rfl, hT', hQ', cT', cQ', kT', kQ'⟩ := h'
  obtain rfl : T' = T := cT'.ext ordP cT
  obtain rfl : Q' = Q := cQ'.ext ordQ cQ
  refine Fn0.of Tryz.func16 (by kernel_rfl) (by kernel_rfl) ?_
  refine G.eqST (ratT F.c) (ratT F.c) (by kernel_rfl) rfl ?_
  refine G.call0 _ _ (by kernel_rfl) Tryz.call47 (tEqual0 hT hT' (by omega)) ?_
  rintro v1 u1 l1 rfl
  refine G.call0 _ _ (by kernel_rfl) Tryz.call48 (qEqual0 (hQ.mono l1) (hQ'.mono l1) (by omega)) ?_
  rintro v2 u2 l2 rfl
  exact G.ret (.bool true) (by kernel_rfl) ⟨rfl, rfl⟩
def RngP (u : PH) (v : Value) (F : CF) (K : Nat) : Prop := ∃ r, v = .tuple #[r, .int .i64 0] ∧ CofP u r F K
theorem CofP.opn {u : PH} {v : Value} {F : CF} {K : Nat} (h : CofP u v F K) : ∃ a1 n1 c1 a2 n2 c2, v = .agg #[.string (mkS (ratT F.c)), .slice a1 n1 c1, .slice a2 n2 c2] := by
  obtain ⟨T, Q, a1, c1, a2, c2, rfl, _⟩ := h
  exact ⟨_, _, _, _, _, _, rfl⟩
theorem momP_opn {u : PH} {v : Value} {F : CF} {N : Nat} (h : MomP u v F N) : ∃ b a n c b' a' n' c' g1 g2, v = .agg #[.bool b, .slice a n c, .bool b', .slice a' n' c', .map (some g1), .map (some g2)] := by
  obtain ⟨b, a, n, c, b', a', n', c', g1, g2, o1, o2, e, _⟩ := h
  exact ⟨_, _, _, _, _, _, _, _, _, _, e⟩
theorem ofP0 {u : PH} {F : CF} {K : Nat} {v : Value} (hv : CofP u v F K) (sF : CFS F) (hK : K ≤ 1000000) : Fn0 Tryz.prog 45 [v] u fun v' u' => MomP u' v' F K :=
  Fn0.weak (Contract.giveAll (of0 hv sF hK)) fun v u' ⟨u1, m1, l1, l2, h⟩ => h.give l1 l2
theorem mulP0 {u : PH} {F H : CF} {N M : Nat} {v w : Value} (hv : MomP u v F N) (hw : MomP u w H M) (ok : MulOK F H) : Fn0 Tryz.prog 46 [v, w] u fun v' u' => MomP u' v' (F.mul H) (M + N + N * M) :=
  Fn0.weak (Contract.giveAll (mulM0 hv hw ok)) fun v u' ⟨u1, m1, l1, l2, h⟩ => h.give l1 l2
set_option maxHeartbeats 1000000 in
theorem ringMul0 {u : PH} {v w : Value} {F H : CF} {N M : Nat} (ht : TabU u) (hv : CofP u v F N) (hw : CofP u w H M) (vF : CFV F) (vH : CFV H) (ok : MulOK F H) (sR : CFS (F.mul H)) (hN : N ≤ 900) (hM : M ≤ 900) : Fn0 Tryz.prog 15 [v, w] u fun r u' => RngP u' r (F.mul H) (M + N + N * M) := by
  have hb : M + N + N * M ≤ 1000000 := by have := Nat.mul_le_mul hN hM; omega
  obtain ⟨a1, n1, c1, a2, n2, c2, rfl⟩ := hv.opn
  obtain ⟨b1, p1, d1, b2, p2, d2, rfl⟩ := hw.opn
  refine Fn0.of Tryz.func15 (by kernel_rfl) (by kernel_rfl) ?_
  refine G.call0 _ _ (by kernel_rfl) Tryz.call33 (valid0 hv ok.a vF (by omega)) ?_
  rintro v1 u1 l1 rfl
  refine G.call0 _ _ (by kernel_rfl) Tryz.call33 (valid0 (hw.mono l1) ok.b vH (by omega)) ?_
  rintro v2 u2 l2 rfl
  refine G.call0 _ _ (by kernel_rfl) Tryz.call45 (ofP0 (hv.mono (l1.trans l2)) ok.a (by omega)) ?_
  intro v3 u3 l3 k3
  obtain ⟨_, _, _, _, _, _, _, _, _, _, rfl⟩ := momP_opn k3
  refine G.call0 _ _ (by kernel_rfl) Tryz.call45 (ofP0 (hw.mono ((l1.trans l2).trans l3)) ok.b (by omega)) ?_
  intro v4 u4 l4 k4
  obtain ⟨_, _, _, _, _, _, _, _, _, _, rfl⟩ := momP_opn k4
  refine G.call0 _ _ (by kernel_rfl) Tryz.call46 (mulP0 (k3.mono l4) k4 ok) ?_
  intro v5 u5 l5 k5
  obtain ⟨_, _, _, _, _, _, _, _, _, _, rfl⟩ := momP_opn k5
  refine G.call0 _ _ (by kernel_rfl) Tryz.call44 (cofactor0 (ht.mono ((((l1.trans l2).trans l3).trans l4).trans l5)) k5 sR hb) ?_
  rintro v6 u6 l6 ⟨r, rfl, k6⟩
  obtain ⟨e1, f1, g1, e2, f2, g2, rfl⟩ := k6.opn
  exact G.ret _ (by kernel_rfl) ⟨rfl, _, rfl, k6⟩
def CF.num (k : Rat) : CF := ⟨k, fun _ => 0, fun _ => 0⟩
theorem cofP_num (u : PH) (k : Rat) : CofP u (.agg #[.string (mkS (ratT k)), .slice none 0 0, .slice none 0 0]) (CF.num k) 0 :=
  ⟨[], [], none, 0, none, 0, rfl, ListP.nil _ _ _ _, ListP.nil _ _ _ _, ⟨List.Pairwise.nil, fun p hp => by simp at hp, fun _ _ => rfl⟩, ⟨List.Pairwise.nil, fun p hp => by simp at hp, fun _ _ => rfl⟩, Nat.le_refl _, Nat.le_refl _⟩
theorem ringZero0 {u : PH} : Fn0 Tryz.prog 17 [] u fun r u' => r = .agg #[.string (mkS (ratT 0)), .slice none 0 0, .slice none 0 0] := by
  refine Fn0.of Tryz.func17 (by kernel_rfl) (by kernel_rfl) ?_
  rw [ratT_zero]
  exact G.ret _ (by kernel_rfl) ⟨rfl, rfl⟩
theorem ringOne0 {u : PH} : Fn0 Tryz.prog 12 [] u fun r u' => r = .agg #[.string (mkS (ratT 1)), .slice none 0 0, .slice none 0 0] := by
  refine Fn0.of Tryz.func12 (by kernel_rfl) (by kernel_rfl) ?_
  rw [ratT_one]
  exact G.ret _ (by kernel_rfl) ⟨rfl, rfl⟩
end Go.Proofs.YtikfmknnbjocmaaGreatDoor
end
section
set_option linter.unusedSectionVars false
set_option linter.unusedVariables false
namespace Go.Proofs.YtikfmknnbjocmaaGreatDoor
open Go.RowKit Go.MapKept
section rules
variable [Flag] {P : Program} [Mixed P] {fn : Func} {Post : Spec} {st : List KI × S} {u m : PH}
def FnK (P : Program) (f : FuncId) (args : List Value) (u m : PH) (R : Value → PH → Prop) : Prop := Contract P f args u m fun v u' m' => m' = m ∧ R v u'
theorem FnK.of {R : Value → PH → Prop} {f : FuncId} {args : List Value} (hf : P.funcs[f]? = some fn) (hb : fn.body.isSome = true) (hn : Nat.ble args.length fn.ntmps = true) (h : G P fn ⟨fun v u' m' => m' = m ∧ R v u', m⟩ (st0 fn args) u m) : FnK P f args u m R := Contract.of hf hb hn h
theorem G.callK (f : Nat) (args : List Value) {R : Value → PH → Prop} (h : stopV P (adv P st) = .call f args) (hc : ∀ args w, (callFunc f args).run P w = .ok (.enter f args) w) (c : FnK P f args u m R)
    (k : ∀ v u', PH.le u u' → R v u' → G P fn Post (nx (adv P st) v) u' m) : G P fn Post st u m := by
  refine G.big (K := fun v u' m' => m' = m ∧ R v u') h (by simp) view_call_free (.inl fun v u' m' hK => by rw [hK.1]; exact fun g o hg => hg) (fun env o hview w hgd => ?_) (fun v u' m' h1 h2 => ?_)
  · refine does_call hview hc w _ (Calls.mono (c w hgd) fun e w' he => ?_)
    obtain ⟨v, u', m', e1, e2, e3, e4⟩ := he
    exact ⟨v, e1, u', m', e2, e3, e4⟩
  · obtain ⟨rfl, hR⟩ := h2; exact k v u' h1 hR
end rules
section
theorem sIndex0 {u m : PH} {b n c : Nat} {x : List UInt8} (L : List (List UInt8)) (hn : n ≤ L.length) (hl : n ≤ 1000000) (hE : ∀ j s, L[j]? = some s → ElP m b (0 + j * 1) (.string (mkS s))) (hx : ∀ j s, j < n → L[j]? = some s → s ≠ x) :
    FnK Tryz.prog 178 [.slice (some ⟨b, 0, none⟩) n c, .string (mkS x)] u m fun v _ => v = .int .i64 (-1) := by
  refine FnK.of Tryz.func178 (by kernel_rfl) (by kernel_rfl) ?_
  refine G.loop (ι := Nat) (fun i => [(0, .v (.slice (some ⟨b, 0, none⟩) n c)), (1, .v (.string (mkS x))), (7, .v (.int .i64 (n : Int))), (8, .v (.int .i64 (i : Int)))]) (fun _ => [])
    (fun i u' m' => i ≤ n ∧ m' = m) (fun i => n - i) 0 (by kernel_rfl) (fun _ => by kernel_rfl) ⟨by kernel_rfl, by kernel_rfl, by kernel_rfl⟩ ⟨by omega, rfl⟩ ?_
  rintro J i hJ u1 m1 l1 ⟨hi, rfl⟩
  by_cases hlt : i < n
  · refine G.lssT (i : Int) (n : Int) (by kernel_rfl) (by omega) ?_
    have hTi : L[i]? = some L[i] := List.getElem?_eq_getElem (by omega)
    refine G.addr b 0 n c i 1 (by kernel_rfl) hlt ?_
    refine G.loadM none b (0 + i * 1) (.string (mkS L[i])) (by kernel_rfl) (by kernel_rfl) (hE i _ hTi) ?_
    refine G.eqSF x L[i] (by kernel_rfl) (fun e => hx i _ hlt hTi e.symm) ?_
    refine G.add (i : Int) 1 ((i + 1 : Nat) : Int) (by kernel_rfl) (by omega) (by omega) (by omega) ?_
    exact G.back (by kernel_rfl) (hJ (i + 1) _ _ _ ⟨by kernel_rfl, by kernel_rfl, by kernel_rfl⟩ l1 ⟨by omega, rfl⟩ (by omega))
  · obtain rfl : i = n := by omega
    refine G.lssF (i : Int) (i : Int) (by kernel_rfl) (by omega) ?_
    exact G.ret (.int .i64 (-1)) (by kernel_rfl) ⟨rfl, rfl⟩
theorem sContains0 {u m : PH} {b n c : Nat} {x : List UInt8} (L : List (List UInt8)) (hn : n ≤ L.length) (hl : n ≤ 1000000) (hE : ∀ j s, L[j]? = some s → ElP m b (0 + j * 1) (.string (mkS s))) (hx : ∀ j s, j < n → L[j]? = some s → s ≠ x) :
    FnK Tryz.prog 155 [.slice (some ⟨b, 0, none⟩) n c, .string (mkS x)] u m fun v _ => v = .bool false := by
  refine FnK.of Tryz.func155 (by kernel_rfl) (by kernel_rfl) ?_
  refine G.callK _ _ (by kernel_rfl) Tryz.call178 (sIndex0 (c := c) L hn hl hE hx) ?_
  rintro v1 u1 l1 rfl
  refine G.geqF (-1) 0 (by kernel_rfl) (by omega) ?_
  exact G.ret (.bool false) (by kernel_rfl) ⟨rfl, rfl⟩
structure Names (L : List (List UInt8)) : Prop where
  word : ∀ s ∈ L, wordB s = true
  nodup : L.Nodup
theorem named0 {u m : PH} {b k c : Nat} {x : List UInt8} {L : List (List UInt8)} (h : Names L) (hl : L.length ≤ 1000) (hc : L.length ≤ c) (hk : L[k]? = some x) (hE : ∀ j s, L[j]? = some s → ElP m b (0 + j * 1) (.string (mkS s))) :
    FnK Tryz.prog 121 [.slice (some ⟨b, 0, none⟩) L.length c, .int .i64 (k : Int)] u m fun v _ => v = .int .i64 0 := by
  obtain ⟨hkl, hkx⟩ := List.getElem?_eq_some_iff.1 hk
  refine FnK.of Tryz.func121 (by kernel_rfl) (by kernel_rfl) ?_
  refine G.addr b 0 L.length c k 1 (by kernel_rfl) hkl ?_
  refine G.loadM none b (0 + k * 1) (.string (mkS x)) (by kernel_rfl) (by kernel_rfl) (hE k x hk) ?_
  refine G.call0 _ _ (by kernel_rfl) Tryz.call80 (word0 (h.word x (List.mem_of_getElem? hk))) ?_
  rintro v1 u1 l1 rfl
  refine G.sliceTo 1 (some ⟨b, 0, none⟩) L.length c k (by kernel_rfl) (by omega) ?_
  refine G.addr b 0 L.length c k 1 (by kernel_rfl) hkl ?_
  refine G.loadM none b (0 + k * 1) (.string (mkS x)) (by kernel_rfl) (by kernel_rfl) (hE k x hk) ?_
  refine G.callK _ _ (by kernel_rfl) Tryz.call155 (sContains0 (n := k) (c := c) (x := x) L (by omega) (by omega) hE fun j s hj hs e => ?_) ?_
  · obtain ⟨hjl, hjx⟩ := List.getElem?_eq_some_iff.1 hs
    have := (List.getElem_inj (h₀ := hjl) (h₁ := hkl) h.nodup).1 (by rw [hjx, hkx, e])
    omega
  rintro v2 u2 l2 rfl
  exact G.ret (.int .i64 0) (by kernel_rfl) ⟨rfl, rfl⟩
def attV (a : List UInt8 × Nat) : Value := .agg #[.string (mkS a.1), .int .i64 (a.2 : Int)]
def nmV (s : List UInt8) : Value := .string (mkS s)
theorem nmV_ok (L : List (List UInt8)) : ElsOK 1 (L.map nmV) := by
  intro e he
  obtain ⟨s, _, rfl⟩ := List.mem_map.1 he
  exact ⟨rfl, List.all_eq_true.1 rfl⟩
end
end Go.Proofs.YtikfmknnbjocmaaGreatDoor
end
section
set_option linter.unusedSectionVars false
set_option linter.unusedVariables false
namespace Go.Proofs.YtikfmknnbjocmaaGreatDoor
open Go.RowKit Go.MapKept
structure AttOK (T : List (List UInt8 × Nat)) : Prop where
  names : Names (T.map (·.1))
  kind : ∀ a ∈ T, 1 ≤ a.2 ∧ a.2 ≤ 3
theorem Names.take {L : List (List UInt8)} (h : Names L) (k : Nat) : Names (L.take k) := ⟨fun s hs => h.word s (List.mem_of_mem_take hs), h.nodup.sublist (List.take_sublist _ _)⟩
theorem getElem?_snoc_last {α : Type} (l : List α) (x : α) : (l ++ [x])[l.length]? = some x := by simp
set_option maxHeartbeats 1000000 in
theorem attributes0 {u : PH} {v w x y : Value} {T : List (List UInt8 × Nat)} (h : ListP u v 2 (T.map attV)) (ok : AttOK T) (hl : T.length ≤ 1000) (hw : ∃ a n c, w = .slice a n c) (hx : ∃ a n c, x = .slice a n c) (hy : ∃ z : Int, y = .int .i64 z) :
    Fn0 Tryz.prog 74 [.agg #[v, w, x, y]] u fun r _ => r = .int .i64 0 := by
  obtain ⟨a, c, rfl⟩ := h.opn
  obtain ⟨wa, wn, wc, rfl⟩ := hw
  obtain ⟨xa, xn, xc, rfl⟩ := hx
  obtain ⟨z, rfl⟩ := hy
  rw [List.length_map] at h ⊢
  refine Fn0.of Tryz.func74 (by kernel_rfl) (by kernel_rfl) ?_
  refine G.loop (ι := Nat × (Option Addr × Nat × Nat)) (fun i => [(3, .v (.slice i.2.1 i.2.2.1 i.2.2.2)), (8, .v (.slice a T.length c)), (9, .v (.int .i64 (T.length : Int))), (10, .v (.int .i64 (i.1 : Int)))]) (fun _ => [])
    (fun i u' m' => i.1 ≤ T.length ∧ ArrAt PH.mt m' (.slice i.2.1 i.2.2.1 i.2.2.2) 9 1 (((T.map (·.1)).take i.1).map nmV)) (fun i => T.length - i.1) (0, (none, 0, 0)) (by kernel_rfl) (fun _ => by kernel_rfl) ⟨by kernel_rfl, by kernel_rfl, by kernel_rfl⟩ ⟨by simp, ArrAt.nil _ _ _⟩ ?_
  rintro J ⟨i, na, nn, nc⟩ hJ u1 m1 l1 ⟨hi, hA⟩
  simp only at hi hA hJ
  by_cases hlt : i < T.length
  · refine G.lssT (i : Int) (T.length : Int) (by kernel_rfl) (by omega) ?_
    have hTi : T[i]? = some T[i] := List.getElem?_eq_getElem hlt
    have hki := ok.kind T[i] (List.getElem_mem hlt)
    have htk : ((T.map (·.1)).take (i + 1)) = (T.map (·.1)).take i ++ [T[i].1] := by
      rw [List.take_add_one, List.getElem?_map, hTi]; rfl
    have hnames := ok.names.take (i + 1)
    rw [htk] at hnames
    have hlen : ((T.map (·.1)).take i).length = i := by simp; omega
    generalize hL : (T.map (·.1)).take i = L at hA htk hnames hlen
    obtain ⟨ba, oa, rfl, ea⟩ := ListP.at' (h.mono l1) (j := i) (e := attV T[i]) (by simp [hTi])
    generalize T[i] = q at ea hki htk hnames
    refine G.addr ba oa T.length c i 2 (by kernel_rfl) hlt ?_
    refine G.loadU (some 2) ba (oa + i * 2) (.agg #[.string (mkS q.1), .int .i64 (q.2 : Int)]) (by kernel_rfl) (by kernel_rfl) ea ?_
    refine G.buildU 9 1 16 (.string (mkS [])) [.string (mkS q.1)] (by kernel_rfl) (nmV_ok [q.1]) rfl (by omega) (by simp) (by simp) ?_
    intro g2 u2 l2 e2
    refine G.append 9 1 16 (.string (mkS [])) PH.mt (L.map nmV) [.string (mkS q.1)] (.slice na nn nc) g2 0 1 1 (by kernel_rfl) rfl rfl (by omega) hA e2 (nmV_ok [q.1]) rfl (by omega) (by simp; omega) (by simp; omega) ?_
    intro v3 m3 hA3
    rw [show L.map nmV ++ [.string (mkS q.1)] = (L ++ [q.1]).map nmV by rw [List.map_append]; rfl] at hA3
    obtain ⟨b3, c3, rfl⟩ := hA3.ptr (by simp)
    have hcap := hA3.cap
    rw [List.length_map] at hA3 hcap ⊢
    refine G.callK _ _ (by kernel_rfl) Tryz.call121 (named0 (b := b3) (k := i) (c := c3) (x := q.1) (L := L ++ [q.1]) hnames (by simp; omega) hcap (by rw [← hlen]; exact getElem?_snoc_last L q.1) fun j s hs => hA3.el (by rw [List.getElem?_map, hs]; rfl)) ?_
    rintro v4 u4 l4 rfl
    refine G.neqF 0 0 (by kernel_rfl) (by omega) ?_
    refine G.lssF (q.2 : Int) 1 (by kernel_rfl) (by omega) ?_
    refine G.gtrF (q.2 : Int) 3 (by kernel_rfl) (by omega) ?_
    refine G.add (i : Int) 1 ((i + 1 : Nat) : Int) (by kernel_rfl) (by omega) (by omega) (by omega) ?_
    exact G.back (by kernel_rfl) (hJ (i + 1, (some ⟨b3, 0, none⟩, (L ++ [q.1]).length, c3)) _ _ _ ⟨by kernel_rfl, by kernel_rfl, by kernel_rfl⟩ ((l1.trans l2).trans l4) ⟨by dsimp only; omega, by dsimp only; rw [htk]; exact hA3⟩ (by dsimp only; omega))
  · obtain rfl : i = T.length := by omega
    refine G.lssF (T.length : Int) (T.length : Int) (by kernel_rfl) (by omega) ?_
    refine G.pastI ?_
    refine G.drop PH.mt (by kernel_rfl) (PH.mt_le _) ?_
    exact G.ret (.int .i64 0) (by kernel_rfl) ⟨rfl, rfl⟩
end Go.Proofs.YtikfmknnbjocmaaGreatDoor
end
section
set_option linter.unusedSectionVars false
set_option linter.unusedVariables false
namespace Go.Proofs.YtikfmknnbjocmaaGreatDoor
open Go.RowKit Go.MapKept
abbrev Feat : Type := Nat × Nat × Nat
def featV (f : Feat) : Value := .agg #[.int .i64 (f.1 : Int), .int .i64 (f.2.1 : Int), .int .i64 (f.2.2 : Int)]
def idxF {α : Type} (p : α → Bool) (T : List α) : Int := match T.findIdx? p with | some k => (k : Int) | none => -1
theorem idxF_at {α : Type} {p : α → Bool} {T : List α} {i : Nat} (hi : i < T.length) (h : p T[i] = true) (h0 : ∀ j (hj : j < i), p (T[j]'(by omega)) = false) : idxF p T = (i : Int) := by
  have : T.findIdx? p = some i := List.findIdx?_eq_some_iff_getElem.2 ⟨hi, h, fun j hj => by simp [h0 j hj]⟩
  unfold idxF; rw [this]
theorem idxF_no {α : Type} {p : α → Bool} {T : List α} (h0 : ∀ x ∈ T, p x = false) : idxF p T = -1 := by
  have : T.findIdx? p = none := List.findIdx?_eq_none_iff.2 h0
  unfold idxF; rw [this]
theorem fIndex0 {u m : PH} {v cap : Value} {T : List Feat} {fid : Nat} (p : Feat → Bool) (h : ListP u v 3 (T.map featV)) (hl : T.length ≤ 1000000)
    (hcall : ∀ args w, (callFunc fid args).run Tryz.prog w = .ok (.enter fid args) w) (hf : ∀ f ∈ T, ∀ u', PH.le u u' → FnK Tryz.prog fid [featV f, cap] u' m fun v _ => v = .bool (p f)) :
    FnK Tryz.prog 81 [v, .func (.func fid) #[] #[cap]] u m fun v' _ => v' = .int .i64 (idxF p T) := by
  obtain ⟨a, c, rfl⟩ := h.opn
  rw [List.length_map] at h ⊢
  refine FnK.of Tryz.func81 (by kernel_rfl) (by kernel_rfl) ?_
  refine G.loop (ι := Nat) (fun i => [(0, .v (.slice a T.length c)), (1, .v (.func (.func fid) #[] #[cap])), (7, .v (.int .i64 (T.length : Int))), (8, .v (.int .i64 (i : Int)))]) (fun _ => [])
    (fun i u' m' => i ≤ T.length ∧ (∀ j (hj : j < T.length), j < i → p (T[j]'hj) = false) ∧ m' = m) (fun i => T.length - i) 0 (by kernel_rfl) (fun _ => by kernel_rfl) ⟨by kernel_rfl, by kernel_rfl, by kernel_rfl⟩ ⟨by omega, fun j hj h => by omega, rfl⟩ ?_
  rintro J i hJ u1 m1 l1 ⟨hi, h0, rfl⟩
  by_cases hlt : i < T.length
  · refine G.lssT (i : Int) (T.length : Int) (by kernel_rfl) (by omega) ?_
    have hTi : T[i]? = some T[i] := List.getElem?_eq_getElem hlt
    obtain ⟨ba, oa, rfl, ea⟩ := ListP.at' (h.mono l1) (j := i) (e := featV T[i]) (by simp [hTi])
    refine G.addr ba oa T.length c i 3 (by kernel_rfl) (by omega) ?_
    refine G.loadU (some 3) ba (oa + i * 3) (featV T[i]) (by kernel_rfl) (by kernel_rfl) ea ?_
    refine G.callK fid [featV T[i], cap] (by kernel_rfl) hcall (hf T[i] (List.getElem_mem hlt) u1 l1) ?_
    rintro v2 u2 l2 rfl
    cases hp : p T[i] with
    | true =>
      rw [idxF_at hlt hp fun j hj => h0 j (by omega) hj]
      exact G.ret (.int .i64 (i : Int)) (by kernel_rfl) ⟨rfl, rfl⟩
    | false =>
      refine G.add (i : Int) 1 ((i + 1 : Nat) : Int) (by kernel_rfl) (by omega) (by omega) (by omega) ?_
      exact G.back (by kernel_rfl) (hJ (i + 1) _ _ _ ⟨by kernel_rfl, by kernel_rfl, by kernel_rfl⟩ (l1.trans l2) ⟨by omega, fun j hj h => by
        rcases (by omega : j < i ∨ j = i) with e | rfl
        · exact h0 j hj e
        · exact hp, rfl⟩ (by omega))
  · obtain rfl : i = T.length := by omega
    refine G.lssF (T.length : Int) (T.length : Int) (by kernel_rfl) (by omega) ?_
    rw [idxF_no fun x hx => by obtain ⟨j, hj, rfl⟩ := List.getElem_of_mem hx; exact h0 j hj hj]
    exact G.ret (.int .i64 (-1)) (by kernel_rfl) ⟨rfl, rfl⟩
theorem fContainsNo0 {u m : PH} {v cap : Value} {T : List Feat} {fid : Nat} (h : ListP u v 3 (T.map featV)) (hl : T.length ≤ 1000000)
    (hcall : ∀ args w, (callFunc fid args).run Tryz.prog w = .ok (.enter fid args) w) (hf : ∀ f ∈ T, ∀ u', PH.le u u' → FnK Tryz.prog fid [featV f, cap] u' m fun v _ => v = .bool false) :
    FnK Tryz.prog 123 [v, .func (.func fid) #[] #[cap]] u m fun v' _ => v' = .bool false := by
  obtain ⟨a, c, rfl⟩ := h.opn
  refine FnK.of Tryz.func123 (by kernel_rfl) (by kernel_rfl) ?_
  refine G.callK _ _ (by kernel_rfl) Tryz.call81 (fIndex0 (cap := cap) (fun _ => false) h hl hcall hf) ?_
  rintro v1 u1 l1 rfl
  rw [idxF_no fun x _ => rfl]
  refine G.geqF (-1) 0 (by kernel_rfl) (by omega) ?_
  exact G.ret (.bool false) (by kernel_rfl) ⟨rfl, rfl⟩
theorem sameAtt0 {u m : PH} {f g : Feat} {b : Nat} (hb : ElP m b 0 (featV g)) (hne : f.1 ≠ g.1) : FnK Tryz.prog 124 [featV f, .pointer (some ⟨b, 0, none⟩)] u m fun v _ => v = .bool false := by
  refine FnK.of Tryz.func124 (by kernel_rfl) (by kernel_rfl) ?_
  refine G.fieldA 50 b 0 0 0 (by kernel_rfl) (by kernel_rfl) ?_
  refine G.loadM none b (0 + 0) (.int .i64 (g.1 : Int)) (by kernel_rfl) (by kernel_rfl) (fun i x hx => ?_) ?_
  · have : i = 0 ∧ x = .int .i64 (g.1 : Int) := by
      match i, hx with
      | 0, hx => exact ⟨rfl, by simpa [Value.cells] using hx.symm⟩
      | i + 1, hx => simp [Value.cells] at hx
    obtain ⟨rfl, rfl⟩ := this
    exact hb 0 _ rfl
  refine G.eqlF (f.1 : Int) (g.1 : Int) (by kernel_rfl) (by omega) ?_
  exact G.ret (.bool false) (by kernel_rfl) ⟨rfl, rfl⟩
structure FeatOK (T : List (List UInt8 × Nat)) (F : List Feat) (lab : Int) : Prop where
  ok : ∀ f ∈ F, ∃ n k, T[f.1]? = some (n, k) ∧ ((f.2.1 = 1 ∧ k = 2 ∧ f.2.2 ≤ 1) ∨ (f.2.1 = 2 ∧ k = 3 ∧ f.2.2 = 0)) ∧ (f.1 : Int) ≠ lab
  nodup : (F.map (·.1)).Nodup
end Go.Proofs.YtikfmknnbjocmaaGreatDoor
end
section
set_option linter.unusedSectionVars false
set_option linter.unusedVariables false
namespace Go.Proofs.YtikfmknnbjocmaaGreatDoor
open Go.RowKit Go.MapKept
theorem ListP.cap {u : PH} {a : Option Addr} {n c sz : Nat} {es : List Value} (h : ListP u (.slice a n c) sz es) : es.length ≤ c := by
  obtain ⟨_, _, e, hc, _⟩ := h
  cases e; exact hc
theorem elP_att2 {u : PH} {b off : Nat} {q : List UInt8 × Nat} (h : ElP u b off (attV q)) : ElP u b (off + 1) (.int .i64 (q.2 : Int)) := fun i x hx => by
  match i, hx with
  | 0, hx =>
    have : x = .int .i64 (q.2 : Int) := by simpa [Value.cells] using hx.symm
    subst this
    exact h 1 _ rfl
  | i + 1, hx => simp [Value.cells] at hx
theorem elP_upd {m : PH} {b : Nat} {t : TypeId} {xs : List Value} {e : Value} (he : e.cells = xs.toArray) : ElP (m.upd b (.cells xs.toArray t (0, 0))) b 0 e := fun i x hx => by
  refine ⟨_, _, _, upd_same _ _ _, ?_⟩
  rw [he] at hx
  simpa using hx
theorem elP_f0 {m : PH} {b : Nat} {g : Feat} (hb : ElP m b 0 (featV g)) : ElP m b (0 + 0) (.int .i64 (g.1 : Int)) := fun i x hx => by
  match i, hx with
  | 0, hx =>
    have : x = .int .i64 (g.1 : Int) := by simpa [Value.cells] using hx.symm
    subst this
    exact hb 0 _ rfl
  | i + 1, hx => simp [Value.cells] at hx
set_option maxHeartbeats 2000000 in
theorem features0 {u : PH} {v w x : Value} {T : List (List UInt8 × Nat)} {F : List Feat} {lab : Int} (h : ListP u v 2 (T.map attV)) (hF : ListP u x 3 (F.map featV)) (ok : FeatOK T F lab) (hl : T.length ≤ 1000) (hl2 : F.length ≤ 1000) (hw : ∃ a n c, w = .slice a n c) :
    Fn0 Tryz.prog 76 [.agg #[v, w, x, .int .i64 lab]] u fun r _ => r = .int .i64 0 := by
  obtain ⟨a, c, rfl⟩ := h.opn
  obtain ⟨a', c', rfl⟩ := hF.opn
  obtain ⟨wa, wn, wc, rfl⟩ := hw
  have hcap := hF.cap
  rw [List.length_map] at h hF hcap ⊢
  rw [List.length_map]
  refine Fn0.of Tryz.func76 (by kernel_rfl) (by kernel_rfl) ?_
  refine G.loop (ι := Nat) (fun i => [(1, .p 0 0), (9, .v (.slice a' F.length c')), (10, .v (.int .i64 (F.length : Int))), (11, .v (.int .i64 (i : Int)))]) (fun _ => [(0, ⟨30, [.v (.slice a T.length c), .v (.slice wa wn wc), .v (.slice a' F.length c'), .v (.int .i64 lab)]⟩)])
    (fun i u' m' => i ≤ F.length ∧ m' = PH.mt) (fun i => F.length - i) 0 (by kernel_rfl) (fun _ => by kernel_rfl) ⟨by kernel_rfl, by kernel_rfl, by kernel_rfl⟩ ⟨by omega, rfl⟩ ?_
  rintro J i hJ u1 m1 l1 ⟨hi, rfl⟩
  by_cases hlt : i < F.length
  · refine G.lssT (i : Int) (F.length : Int) (by kernel_rfl) (by omega) ?_
    have hTi : F[i]? = some F[i] := List.getElem?_eq_getElem hlt
    obtain ⟨n, k, hk, hkind, hlab⟩ := ok.ok F[i] (List.getElem_mem hlt)
    have hdiff : ∀ f ∈ F.take i, f.1 ≠ (F[i]).1 := by
      intro f hf
      obtain ⟨j, hj, rfl⟩ := List.getElem_of_mem hf
      rw [List.length_take] at hj
      rw [List.getElem_take]
      intro e
      have := (List.getElem_inj (xs := F.map (·.1)) (h₀ := by rw [List.length_map]; omega) (h₁ := by rw [List.length_map]; omega) (i := j) (j := i) ok.nodup).1 (by rw [List.getElem_map, List.getElem_map]; exact e)
      omega
    obtain ⟨ba, oa, rfl, ea⟩ := ListP.at' (hF.mono l1) (j := i) (e := featV F[i]) (by simp [hTi])
    have hTk := (hF.mono l1).take' i (by rw [List.length_map]; omega)
    rw [← List.map_take] at hTk
    have htl : (F.take i).length = i := by rw [List.length_take]; omega
    generalize F[i] = f at ea hk hkind hlab hdiff
    obtain ⟨hkl, hkx⟩ := List.getElem?_eq_some_iff.1 hk
    obtain ⟨bb, ob, rfl, eb⟩ := ListP.at' (h.mono l1) (j := f.1) (e := attV (n, k)) (by simp [hk])
    refine G.addr ba oa F.length c' i 3 (by kernel_rfl) hlt ?_
    refine G.loadU (some 3) ba (oa + i * 3) (.agg #[.int .i64 (f.1 : Int), .int .i64 (f.2.1 : Int), .int .i64 (f.2.2 : Int)]) (by kernel_rfl) (by kernel_rfl) ea ?_
    refine G.lssF (f.1 : Int) 0 (by kernel_rfl) (by omega) ?_
    refine G.geqF (f.1 : Int) (T.length : Int) (by kernel_rfl) (by omega) ?_
    refine G.addr bb ob T.length c f.1 2 (by kernel_rfl) hkl ?_
    refine G.fieldA 77 bb (ob + f.1 * 2) 1 1 (by kernel_rfl) (by kernel_rfl) ?_
    refine G.loadU none bb (ob + f.1 * 2 + 1) (.int .i64 (k : Int)) (by kernel_rfl) (by kernel_rfl) (elP_att2 eb) ?_
    rcases hkind with ⟨k1, k2, k3⟩ | ⟨k1, k2, k3⟩
    · refine G.eqlT (f.2.1 : Int) 1 (by kernel_rfl) (by omega) ?_
      refine G.eqlT (k : Int) 2 (by kernel_rfl) (by omega) ?_
      by_cases k0 : f.2.2 = 0
      · refine G.eqlT (f.2.2 : Int) 0 (by kernel_rfl) (by omega) ?_
        refine G.eqlF (f.2.1 : Int) 2 (by kernel_rfl) (by omega) ?_
        refine G.pastI ?_
        refine G.pub 3003 50 [.int .i64 (f.1 : Int), .int .i64 (f.2.1 : Int), .int .i64 (f.2.2 : Int)] (by kernel_rfl) (by kernel_rfl) ?_
        intro e2 hu2 hm2
        refine G.fieldA 50 e2 0 0 0 (by kernel_rfl) (by kernel_rfl) ?_
        refine G.loadM none e2 (0 + 0) (.int .i64 (f.1 : Int)) (by kernel_rfl) (by kernel_rfl) (elP_f0 (g := f) (elP_upd rfl)) ?_
        refine G.eqlF (f.1 : Int) lab (by kernel_rfl) hlab ?_
        refine G.sliceTo 3 (some ⟨ba, oa, none⟩) F.length c' i (by kernel_rfl) (by omega) ?_
        refine G.callK _ _ (by kernel_rfl) Tryz.call123 (fContainsNo0 hTk (by rw [List.length_take]; omega) Tryz.call124 fun f' hf' u' _ => sameAtt0 (g := f) (elP_upd rfl) (hdiff f' hf')) ?_
        rintro v2 u2 l2 rfl
        refine G.drop PH.mt (by kernel_rfl) (PH.mt_le _) ?_
        refine G.add (i : Int) 1 ((i + 1 : Nat) : Int) (by kernel_rfl) (by omega) (by omega) (by omega) ?_
        exact G.back (by kernel_rfl) (hJ (i + 1) _ _ _ ⟨by kernel_rfl, by kernel_rfl, by kernel_rfl⟩ (l1.trans l2) ⟨by omega, rfl⟩ (by omega))
      · refine G.eqlF (f.2.2 : Int) 0 (by kernel_rfl) (by omega) ?_
        refine G.eqlT (f.2.2 : Int) 1 (by kernel_rfl) (by omega) ?_
        refine G.eqlF (f.2.1 : Int) 2 (by kernel_rfl) (by omega) ?_
        refine G.pastI ?_
        refine G.pub 3003 50 [.int .i64 (f.1 : Int), .int .i64 (f.2.1 : Int), .int .i64 (f.2.2 : Int)] (by kernel_rfl) (by kernel_rfl) ?_
        intro e2 hu2 hm2
        refine G.fieldA 50 e2 0 0 0 (by kernel_rfl) (by kernel_rfl) ?_
        refine G.loadM none e2 (0 + 0) (.int .i64 (f.1 : Int)) (by kernel_rfl) (by kernel_rfl) (elP_f0 (g := f) (elP_upd rfl)) ?_
        refine G.eqlF (f.1 : Int) lab (by kernel_rfl) hlab ?_
        refine G.sliceTo 3 (some ⟨ba, oa, none⟩) F.length c' i (by kernel_rfl) (by omega) ?_
        refine G.callK _ _ (by kernel_rfl) Tryz.call123 (fContainsNo0 hTk (by rw [List.length_take]; omega) Tryz.call124 fun f' hf' u' _ => sameAtt0 (g := f) (elP_upd rfl) (hdiff f' hf')) ?_
        rintro v2 u2 l2 rfl
        refine G.drop PH.mt (by kernel_rfl) (PH.mt_le _) ?_
        refine G.add (i : Int) 1 ((i + 1 : Nat) : Int) (by kernel_rfl) (by omega) (by omega) (by omega) ?_
        exact G.back (by kernel_rfl) (hJ (i + 1) _ _ _ ⟨by kernel_rfl, by kernel_rfl, by kernel_rfl⟩ (l1.trans l2) ⟨by omega, rfl⟩ (by omega))
    · refine G.eqlF (f.2.1 : Int) 1 (by kernel_rfl) (by omega) ?_
      refine G.eqlT (f.2.1 : Int) 2 (by kernel_rfl) (by omega) ?_
      refine G.eqlT (k : Int) 3 (by kernel_rfl) (by omega) ?_
      refine G.eqlT (f.2.2 : Int) 0 (by kernel_rfl) (by omega) ?_
      refine G.pastI ?_
      refine G.pub 3003 50 [.int .i64 (f.1 : Int), .int .i64 (f.2.1 : Int), .int .i64 (f.2.2 : Int)] (by kernel_rfl) (by kernel_rfl) ?_
      intro e2 hu2 hm2
      refine G.fieldA 50 e2 0 0 0 (by kernel_rfl) (by kernel_rfl) ?_
      refine G.loadM none e2 (0 + 0) (.int .i64 (f.1 : Int)) (by kernel_rfl) (by kernel_rfl) (elP_f0 (g := f) (elP_upd rfl)) ?_
      refine G.eqlF (f.1 : Int) lab (by kernel_rfl) hlab ?_
      refine G.sliceTo 3 (some ⟨ba, oa, none⟩) F.length c' i (by kernel_rfl) (by omega) ?_
      refine G.callK _ _ (by kernel_rfl) Tryz.call123 (fContainsNo0 hTk (by rw [List.length_take]; omega) Tryz.call124 fun f' hf' u' _ => sameAtt0 (g := f) (elP_upd rfl) (hdiff f' hf')) ?_
      rintro v2 u2 l2 rfl
      refine G.drop PH.mt (by kernel_rfl) (PH.mt_le _) ?_
      refine G.add (i : Int) 1 ((i + 1 : Nat) : Int) (by kernel_rfl) (by omega) (by omega) (by omega) ?_
      exact G.back (by kernel_rfl) (hJ (i + 1) _ _ _ ⟨by kernel_rfl, by kernel_rfl, by kernel_rfl⟩ (l1.trans l2) ⟨by omega, rfl⟩ (by omega))
  · obtain rfl : i = F.length := by omega
    refine G.lssF (F.length : Int) (F.length : Int) (by kernel_rfl) (by omega) ?_
    exact G.ret (.int .i64 0) (by kernel_rfl) ⟨rfl, rfl⟩
end Go.Proofs.YtikfmknnbjocmaaGreatDoor
end
