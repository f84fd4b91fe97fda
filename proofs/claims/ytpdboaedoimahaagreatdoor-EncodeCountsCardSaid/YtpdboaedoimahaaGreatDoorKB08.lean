/- Joined out of parts of one proof by a program: contracts of the functions that the statement reaches, and the plain facts behind them. -/
import Derived.Test.YtpdboaedoimahaaGreatDoorKB07
import Derived.Shelf.SlSortCmp.WholeK
import Derived.Ground.SlsfProg
import Derived.Test.YtpdboaedoimahaaGreatDoorProg
import Derived.Shelf.SlSortCmp.NoneTotal
set_option linter.unusedVariables false
set_option linter.unusedSimpArgs false
set_option linter.unusedSectionVars false
section
namespace Go.Proofs
open Go.Shelf
def Tryz.sortPar_ren : Go.Shelf.Ren := ⟨fun | 6 => 37 | 15 => 78 | 14 => 77 | 28 => 141 | 29 => 142 | 20 => 133 | 21 => 134 | 22 => 135 | 23 => 136 | 24 => 137 | 25 => 138 | 26 => 139 | 27 => 140 | 46 => 185 | 47 => 186 | 48 => 187 | 49 => 188 | 50 => 189 | 57 => 216 | n => n, fun | 22 => 41 | 24 => 55 | 25 => 93 | 3 => 3 | 39 => 149 | 0 => 0 | 53 => 213 | 55 => 215 | 4 => 4 | 46 => 206 | 45 => 205 | 50 => 210 | 5 => 5 | 9 => 9 | 66 => 252 | 70 => 256 | 76 => 275 | 77 => 276 | n => n, fun | n => n⟩
theorem Tryz.sortPar : Go.Proofs.SlLaysF0.n6 Tryz.prog Tryz.sortPar_ren := {
  mixed := by kernel_rfl
  f6 := ⟨Tryz.f37.name, by decide, Tryz.func37.trans (congrArg some (by kernel_rfl))⟩
  f14 := ⟨Tryz.f77.name, by decide, Tryz.func77.trans (congrArg some (by kernel_rfl))⟩
  f15 := Tryz.func78.trans (congrArg some (by kernel_rfl))
  f20 := ⟨Tryz.f133.name, by decide, Tryz.func133.trans (congrArg some (by kernel_rfl))⟩
  f21 := ⟨Tryz.f134.name, by decide, Tryz.func134.trans (congrArg some (by kernel_rfl))⟩
  f22 := ⟨Tryz.f135.name, by decide, Tryz.func135.trans (congrArg some (by kernel_rfl))⟩
  f23 := ⟨Tryz.f136.name, by decide, Tryz.func136.trans (congrArg some (by kernel_rfl))⟩
  f24 := ⟨Tryz.f137.name, by decide, Tryz.func137.trans (congrArg some (by kernel_rfl))⟩
  f25 := ⟨Tryz.f138.name, by decide, Tryz.func138.trans (congrArg some (by kernel_rfl))⟩
  f26 := ⟨Tryz.f139.name, by decide, Tryz.func139.trans (congrArg some (by kernel_rfl))⟩
  f27 := ⟨Tryz.f140.name, by decide, Tryz.func140.trans (congrArg some (by kernel_rfl))⟩
  f28 := Tryz.func141.trans (congrArg some (by kernel_rfl))
  f29 := Tryz.func142.trans (congrArg some (by kernel_rfl))
  f46 := ⟨Tryz.f185.name, by decide, Tryz.func185.trans (congrArg some (by kernel_rfl))⟩
  f47 := Tryz.func186.trans (congrArg some (by kernel_rfl))
  f48 := Tryz.func187.trans (congrArg some (by kernel_rfl))
  f49 := ⟨Tryz.f188.name, by decide, Tryz.func188.trans (congrArg some (by kernel_rfl))⟩
  f50 := ⟨Tryz.f189.name, by decide, Tryz.func189.trans (congrArg some (by kernel_rfl))⟩
  f57 := ⟨Tryz.f216.name, by decide, Tryz.func216.trans (congrArg some (by kernel_rfl))⟩
  t0 := Tryz.underlying0
  a0 := Tryz.isAgg0
  z0 := Tryz.sizeOf0
  v0 := Tryz.zeroValue0
  t3 := Tryz.underlying3
  a3 := Tryz.isAgg3
  z3 := Tryz.sizeOf3
  v3 := Tryz.zeroValue3
  t4 := Tryz.underlying4
  a4 := Tryz.isAgg4
  z4 := Tryz.sizeOf4
  v4 := Tryz.zeroValue4
  t5 := Tryz.underlying5
  a5 := Tryz.isAgg5
  z5 := Tryz.sizeOf5
  v5 := Tryz.zeroValue5
  t9 := Tryz.underlying9
  a9 := Tryz.isAgg9
  z9 := Tryz.sizeOf9
  v9 := Tryz.zeroValue9
  t22 := Tryz.underlying41
  a22 := Tryz.isAgg41
  z22 := Tryz.sizeOf41
  v22 := Tryz.zeroValue41
  t25 := Tryz.underlying93
  a25 := Tryz.isAgg93
  z25 := Tryz.sizeOf93
  v25 := Tryz.zeroValue93
  t39 := Tryz.underlying149
  a39 := Tryz.isAgg149
  z39 := Tryz.sizeOf149
  v39 := Tryz.zeroValue149
  t45 := Tryz.underlying205
  a45 := Tryz.isAgg205
  z45 := Tryz.sizeOf205
  v45 := Tryz.zeroValue205
  t46 := Tryz.underlying206
  a46 := Tryz.isAgg206
  z46 := Tryz.sizeOf206
  v46 := Tryz.zeroValue206
  t50 := Tryz.underlying210
  a50 := Tryz.isAgg210
  z50 := Tryz.sizeOf210
  v50 := Tryz.zeroValue210
  t53 := Tryz.underlying213
  a53 := Tryz.isAgg213
  z53 := Tryz.sizeOf213
  v53 := Tryz.zeroValue213
  t55 := Tryz.underlying215
  a55 := Tryz.isAgg215
  z55 := Tryz.sizeOf215
  v55 := Tryz.zeroValue215
  t66 := Tryz.underlying252
  a66 := Tryz.isAgg252
  z66 := Tryz.sizeOf252
  v66 := Tryz.zeroValue252
  t70 := Tryz.underlying256
  a70 := Tryz.isAgg256
  z70 := Tryz.sizeOf256
  v70 := Tryz.zeroValue256
  t76 := Tryz.underlying275
  a76 := Tryz.isAgg275
  z76 := Tryz.sizeOf275
  v76 := Tryz.zeroValue275
  t77 := Tryz.underlying276
  a77 := Tryz.isAgg276
  z77 := Tryz.sizeOf276
  v77 := Tryz.zeroValue276 }
def Tryz.sortPr_ren : Go.Shelf.Ren := ⟨fun | 6 => 162 | 15 => 78 | 14 => 201 | 28 => 141 | 29 => 142 | 20 => 223 | 21 => 224 | 22 => 225 | 23 => 226 | 24 => 227 | 25 => 228 | 26 => 229 | 27 => 230 | 46 => 253 | 47 => 186 | 48 => 187 | 49 => 254 | 50 => 255 | 57 => 267 | n => n, fun | 22 => 174 | 24 => 163 | 25 => 179 | 3 => 3 | 39 => 149 | 0 => 0 | 53 => 213 | 55 => 215 | 4 => 4 | 46 => 206 | 45 => 205 | 50 => 210 | 5 => 5 | 9 => 9 | 66 => 252 | 70 => 256 | 76 => 275 | 77 => 276 | n => n, fun | n => n⟩
theorem Tryz.sortPr : Go.Proofs.SlLaysF0.n6 Tryz.prog Tryz.sortPr_ren := {
  mixed := by kernel_rfl
  f6 := ⟨Tryz.f162.name, by decide, Tryz.func162.trans (congrArg some (by kernel_rfl))⟩
  f14 := ⟨Tryz.f201.name, by decide, Tryz.func201.trans (congrArg some (by kernel_rfl))⟩
  f15 := Tryz.func78.trans (congrArg some (by kernel_rfl))
  f20 := ⟨Tryz.f223.name, by decide, Tryz.func223.trans (congrArg some (by kernel_rfl))⟩
  f21 := ⟨Tryz.f224.name, by decide, Tryz.func224.trans (congrArg some (by kernel_rfl))⟩
  f22 := ⟨Tryz.f225.name, by decide, Tryz.func225.trans (congrArg some (by kernel_rfl))⟩
  f23 := ⟨Tryz.f226.name, by decide, Tryz.func226.trans (congrArg some (by kernel_rfl))⟩
  f24 := ⟨Tryz.f227.name, by decide, Tryz.func227.trans (congrArg some (by kernel_rfl))⟩
  f25 := ⟨Tryz.f228.name, by decide, Tryz.func228.trans (congrArg some (by kernel_rfl))⟩
  f26 := ⟨Tryz.f229.name, by decide, Tryz.func229.trans (congrArg some (by kernel_rfl))⟩
  f27 := ⟨Tryz.f230.name, by decide, Tryz.func230.trans (congrArg some (by kernel_rfl))⟩
  f28 := Tryz.func141.trans (congrArg some (by kernel_rfl))
  f29 := Tryz.func142.trans (congrArg some (by kernel_rfl))
  f46 := ⟨Tryz.f253.name, by decide, Tryz.func253.trans (congrArg some (by kernel_rfl))⟩
  f47 := Tryz.func186.trans (congrArg some (by kernel_rfl))
  f48 := Tryz.func187.trans (congrArg some (by kernel_rfl))
  f49 := ⟨Tryz.f254.name, by decide, Tryz.func254.trans (congrArg some (by kernel_rfl))⟩
  f50 := ⟨Tryz.f255.name, by decide, Tryz.func255.trans (congrArg some (by kernel_rfl))⟩
  f57 := ⟨Tryz.f267.name, by decide, Tryz.func267.trans (congrArg some (by kernel_rfl))⟩
  t0 := Tryz.underlying0
  a0 := Tryz.isAgg0
  z0 := Tryz.sizeOf0
  v0 := Tryz.zeroValue0
  t3 := Tryz.underlying3
  a3 := Tryz.isAgg3
  z3 := Tryz.sizeOf3
  v3 := Tryz.zeroValue3
  t4 := Tryz.underlying4
  a4 := Tryz.isAgg4
  z4 := Tryz.sizeOf4
  v4 := Tryz.zeroValue4
  t5 := Tryz.underlying5
  a5 := Tryz.isAgg5
  z5 := Tryz.sizeOf5
  v5 := Tryz.zeroValue5
  t9 := Tryz.underlying9
  a9 := Tryz.isAgg9
  z9 := Tryz.sizeOf9
  v9 := Tryz.zeroValue9
  t22 := Tryz.underlying174
  a22 := Tryz.isAgg174
  z22 := Tryz.sizeOf174
  v22 := Tryz.zeroValue174
  t25 := Tryz.underlying179
  a25 := Tryz.isAgg179
  z25 := Tryz.sizeOf179
  v25 := Tryz.zeroValue179
  t39 := Tryz.underlying149
  a39 := Tryz.isAgg149
  z39 := Tryz.sizeOf149
  v39 := Tryz.zeroValue149
  t45 := Tryz.underlying205
  a45 := Tryz.isAgg205
  z45 := Tryz.sizeOf205
  v45 := Tryz.zeroValue205
  t46 := Tryz.underlying206
  a46 := Tryz.isAgg206
  z46 := Tryz.sizeOf206
  v46 := Tryz.zeroValue206
  t50 := Tryz.underlying210
  a50 := Tryz.isAgg210
  z50 := Tryz.sizeOf210
  v50 := Tryz.zeroValue210
  t53 := Tryz.underlying213
  a53 := Tryz.isAgg213
  z53 := Tryz.sizeOf213
  v53 := Tryz.zeroValue213
  t55 := Tryz.underlying215
  a55 := Tryz.isAgg215
  z55 := Tryz.sizeOf215
  v55 := Tryz.zeroValue215
  t66 := Tryz.underlying252
  a66 := Tryz.isAgg252
  z66 := Tryz.sizeOf252
  v66 := Tryz.zeroValue252
  t70 := Tryz.underlying256
  a70 := Tryz.isAgg256
  z70 := Tryz.sizeOf256
  v70 := Tryz.zeroValue256
  t76 := Tryz.underlying275
  a76 := Tryz.isAgg275
  z76 := Tryz.sizeOf275
  v76 := Tryz.zeroValue275
  t77 := Tryz.underlying276
  a77 := Tryz.isAgg276
  z77 := Tryz.sizeOf276
  v77 := Tryz.zeroValue276 }
end Go.Proofs
end
section
set_option linter.unusedSectionVars false
set_option linter.unusedVariables false
namespace Go.Proofs.YtpdboaedoimahaaGreatDoor
open Go.RowKit Go.Sort
def allH (w : World) : PH := fun g => w.heap[g]?
theorem goodH (w : World) : Good (allH w) PH.mt w := ⟨fun _ _ h => h, Part.mt w, fun _ => .inr rfl, fun _ _ _ _ _ _ h _ => h⟩
@[reducible] def Flag.yes : Flag := ⟨True⟩
theorem grown_exact [Fl : Flag] (hF : Fl.on) {w w' : World} {u' : PH} (h : Grown (allH w) PH.mt w u' PH.mt w') : ∃ n os, w' = grow (w.drewN n) os := by
  have hd := h.dr hF
  refine ⟨w'.drawn - w.drawn, w'.heap.extract w.heap.size w'.heap.size, ?_⟩
  obtain ⟨hp, tp, dr, os, out⟩ := w
  obtain ⟨hp', tp', dr', os', out'⟩ := w'
  have h1 := hd.tape
  have h2 := hd.dr
  have h3 := h.io.1
  have h4 := h.io.2
  have h5 := h.sz
  have h6 := fun g hg => h.old g hg rfl
  simp only at h1 h2 h3 h4 h5 h6
  subst h1 h3 h4
  unfold grow World.drewN
  simp only [World.mk.injEq, and_true, true_and]
  refine ⟨?_, by omega⟩
  apply Array.ext_getElem?
  intro i
  by_cases hi : i < hp.size
  · rw [Array.getElem?_append_left hi]; exact h6 i hi
  · rw [Array.getElem?_append_right (by omega), Array.getElem?_extract]
    by_cases hi' : i < hp'.size
    · rw [if_pos (by omega)]; congr 1; omega
    · rw [if_neg (by omega), Array.getElem?_eq_none (by omega)]
theorem Fn0.exact [Fl : Flag] (hF : Fl.on) {P : Program} {f : FuncId} {args : List Value} {r : Value} (h : ∀ u, Fn0 P f args u (fun v _ => v = r)) (w : World) : Calls P f args.toArray w fun e w' => e = .returned r ∧ ∃ n os, w' = grow (w.drewN n) os := by
  refine Calls.mono (h (allH w) w (goodH w)) fun e w' he => ?_
  obtain ⟨v, u', m', e1, _, e3, e4, e5⟩ := he
  subst e4 e5
  exact ⟨e1, grown_exact hF e3⟩
theorem cmpLaysPar (blk off size : Nat) (w : World) : Go.Proofs.CmpLays Tryz.prog 38 #[] (fun p : Par => [.int .i64 p.1, .string (mkS p.2)]) 2 cmpP blk off size w :=
  fun m os dk _ x y => @Fn0.exact Flag.yes trivial _ _ _ _ (fun u => @compare0 Flag.yes u x y) _
theorem cmpLaysPr (blk off size : Nat) (w : World) : Go.Proofs.CmpLays Tryz.prog 102 #[] (fun p : Par × Par => [.int .i64 p.1.1, .string (mkS p.1.2), .int .i64 p.2.1, .string (mkS p.2.2)]) 4 cmpQ blk off size w :=
  fun m os dk _ x y => @Fn0.exact Flag.yes trivial _ _ _ _ (fun u => @comparePairs0 Flag.yes u x y) _
end Go.Proofs.YtpdboaedoimahaaGreatDoor
end
section
set_option linter.unusedSectionVars false
set_option linter.unusedVariables false
namespace Go.Proofs.YtpdboaedoimahaaGreatDoor
open Go.RowKit Go.Sort
section
variable {κ : Type} {c : κ → κ → Int}
theorem Ord.swo (h : Ord c) : SWO (ltOf c) where
  irrefl x := by simp [ltOf, h.irr x]
  trans x y z h1 h2 := by
    simp only [ltOf, decide_eq_true_eq] at *
    exact h.trans x y z h1 h2
  ntrans x y z h1 h2 := by
    simp only [ltOf, decide_eq_false_iff_not] at *
    intro h3
    rcases Int.lt_trichotomy (c x y) 0 with e | e | e
    · exact h1 e
    · rw [h.eq x y e] at h3; exact h2 h3
    · exact h2 (h.trans y x z ((h.sym y x).2 e) h3)
theorem Ord.tot (h : Ord c) (x y : κ) (h1 : ltOf c x y = false) (h2 : ltOf c y x = false) : x = y := by
  simp only [ltOf, decide_eq_false_iff_not] at *
  rcases Int.lt_trichotomy (c x y) 0 with e | e | e
  · exact absurd e h1
  · exact h.eq x y e
  · exact absurd ((h.sym y x).2 e) h2
def sorted (c : κ → κ → Int) (l : List κ) : List κ := l.mergeSort fun x y => !(ltOf c) y x
theorem sorted_perm (l : List κ) : (sorted c l).Perm l := List.mergeSort_perm _ _
theorem sorted_sort (h : Ord c) {l : List κ} (hn : l.Nodup) : SortK c (sorted c l) := by
  have h1 : (sorted c l).Pairwise fun a b => (!(ltOf c) b a) = true := by
    refine List.pairwise_mergeSort (fun a b d h1 h2 => ?_) (fun a b => ?_) l
    · simp only [Bool.not_eq_true'] at h1 h2 ⊢
      exact h.swo.ntrans d b a h2 h1
    · simp only [Bool.or_eq_true, Bool.not_eq_true']
      cases e : ltOf c b a with
      | false => exact .inl rfl
      | true =>
        right
        simp only [ltOf, decide_eq_true_eq, decide_eq_false_iff_not] at *
        have := (h.sym b a).1 e
        omega
  have h2 : (sorted c l).Nodup := (sorted_perm l).nodup_iff.2 hn
  refine (h1.and h2).imp fun {a b} ⟨e1, e2⟩ => ?_
  simp only [Bool.not_eq_true', ltOf, decide_eq_false_iff_not] at e1
  rcases Int.lt_trichotomy (c a b) 0 with e | e | e
  · exact e
  · exact absurd (h.eq a b e) e2
  · exact absurd ((h.sym b a).2 e) e1
end
section
variable {κ : Type} [Inhabited κ] {enc : κ → List Value} {k : Nat}
theorem flatMap_at (hk : ∀ x, (enc x).length = k) : ∀ (ss : List κ) (t : Nat), t < ss.length * k → (ss.flatMap enc)[t]? = some ((enc ss.toArray[t / k]!)[t % k]!)
  | [], t, h => by simp at h
  | x :: ss, t, h => by
    have hk0 : 0 < k := by
      rcases Nat.eq_zero_or_pos k with h0 | h0
      · rw [h0] at h; simp at h
      · exact h0
    rw [List.flatMap_cons]
    by_cases ht : t < k
    · rw [List.getElem?_append_left (by rw [hk]; exact ht), Nat.div_eq_of_lt ht, Nat.mod_eq_of_lt ht]
      have : t < (enc x).length := by rw [hk]; exact ht
      simp [getElem!_pos, this]
    · rw [List.getElem?_append_right (by rw [hk]; omega), hk, flatMap_at hk ss (t - k) (by simp only [List.length_cons, Nat.add_mul] at h; omega)]
      have e1 : t / k = (t - k) / k + 1 := by rw [Nat.div_eq_sub_div hk0 (by omega)]
      have e2 : t % k = (t - k) % k := Nat.mod_eq_sub_mod (by omega)
      rw [e1, e2]
      simp
theorem holds_row (hk : ∀ x, (enc x).length = k) {W : World} {gb : Nat} {e : TypeId} {cur : Array Value} {ss : List κ} (hgb : W.heap[gb]? = some (.cells cur e (0, 0))) (hcur : cur.toList.take (ss.length * k) = ss.flatMap enc) : HoldsK enc k W gb 0 ss.toArray := by
  intro t ht
  rw [size_flatK] at ht
  have ht' : t < ss.length * k := by simpa using ht
  have h1 : cur[t]? = some ((flatK enc k ss.toArray)[t]!) := by
    rw [get_flatK enc k _ t ht, ← flatMap_at hk ss t ht', ← hcur, List.getElem?_take, if_pos ht', Array.getElem?_toList]
  constructor
  · simp [World.cell?, hgb, h1]
  · simp [World.frozen?, hgb]
theorem row_at (hk : ∀ x, (enc x).length = k) {W : World} {gb : Nat} {ts : List κ} (h : HoldsK enc k W gb 0 ts.toArray) {j i : Nat} {p : κ} {x : Value} (hj : ts[j]? = some p) (hi : (enc p)[i]? = some x) : W.cell? ⟨gb, j * k + i, none⟩ = some x := by
  obtain ⟨hjl, rfl⟩ := List.getElem?_eq_some_iff.1 hj
  obtain ⟨hil, rfl⟩ := List.getElem?_eq_some_iff.1 hi
  rw [hk] at hil
  have hlt : j * k + i < ts.toArray.size * k := by
    have : (j + 1) * k ≤ ts.length * k := Nat.mul_le_mul_right k hjl
    rw [Nat.add_mul] at this
    simp; omega
  have h1 := (h (j * k + i) (by rw [size_flatK]; exact hlt)).1
  rw [Nat.zero_add, get_flatK enc k _ _ hlt] at h1
  rw [h1]
  have e1 : (j * k + i) / k = j := by rw [Nat.add_comm, Nat.add_mul_div_right _ _ (by omega), Nat.div_eq_of_lt hil]; omega
  have e2 : (j * k + i) % k = i := by rw [Nat.add_comm, Nat.add_mul_mod_self_right, Nat.mod_eq_of_lt hil]
  rw [e1, e2]
  simp [getElem!_pos, hjl, hil, hk]
theorem sortWorld_below {w0 w : World} {blk off m : Nat} {dk : Array κ} {os : Array Obj} (h : Below w0.heap.size w0 w) (hb : w0.heap.size ≤ blk) : Below w0.heap.size w0 (sortWorldK enc k w blk off m dk os) := by
  refine ⟨h.os, h.tape, h.output, Nat.le_trans h.size (size_sortWorldK_c enc k w blk off m dk os), fun j hj => ?_⟩
  rw [← h.block j hj]
  have hjw : j < w.heap.size := Nat.lt_of_lt_of_le hj h.size
  unfold sortWorldK grow putRowK putRow mapBlock Sort.ahead
  simp only
  rw [Array.getElem?_append_left (by rw [Array.size_modify]; exact hjw), Array.getElem?_modify, if_neg (by omega)]
end
theorem Fn0.ofB {P : Program} {f : FuncId} {args : List Value} {u : PH} {R : Value → PH → Prop} (Q : Value → World → World → Prop) (h : ∀ w, Part u w → Calls P f args.toArray w fun e w' => ∃ v, e = .returned v ∧ Q v w w' ∧ Below w.heap.size w w')
    (hq : ∀ v w w' u', Q v w w' → PH.le u u' → (∀ g o, w.heap.size ≤ g → w'.heap[g]? = some o → u' g = some o) → R v u') : Fn0 P f args u R := by
  intro w hg
  refine Calls.mono (h w hg.pu) fun e w' he => ?_
  obtain ⟨v, e1, e2, e3⟩ := he
  have hsz : w.heap.size ≤ w'.heap.size := e3.size
  have hold : ∀ g, g < w.heap.size → w'.heap[g]? = w.heap[g]? := fun g hg => Below.block e3 g hg
  have g1 : Part (fun g => if g < w.heap.size then u g else w'.heap[g]?) w' := by
    intro g o hgo
    simp only at hgo
    split at hgo
    · rename_i hlt; rw [hold g hlt]; exact hg.pu g o hgo
    · exact hgo
  have g2 : Clean (fun g => if g < w.heap.size then u g else w'.heap[g]?) w' := by
    intro g cs t fr j z hgo hj
    simp only
    split
    · rename_i hlt; rw [hold g hlt] at hgo; exact hg.cl g cs t fr j z hgo hj
    · exact hgo
  have g3 : PH.le u (fun g => if g < w.heap.size then u g else w'.heap[g]?) := fun g o hgo => by simp only; rw [if_pos (hg.pu.lt hgo)]; exact hgo
  refine ⟨v, _, PH.mt, e1, ⟨g1, Part.mt _, fun _ => .inr rfl, g2⟩, ⟨hsz, fun g hg _ => hold g hg, fun g hg => by simp only; rw [if_pos hg], fun _ _ h => h, ⟨e3.os, e3.output⟩, fun f => f.elim⟩, rfl, hq v w w' _ e2 g3 (fun g o hgs hgo => by show (if g < w.heap.size then u g else w'.heap[g]?) = some o; rw [if_neg (by omega)]; exact hgo)⟩
end Go.Proofs.YtpdboaedoimahaaGreatDoor
end
section
set_option linter.unusedSectionVars false
set_option linter.unusedVariables false
namespace Go.Proofs.YtpdboaedoimahaaGreatDoor
open Go.RowKit Go.MapKept Go.Shelf Go.Sort
def SortedW {κ : Type} (c : κ → κ → Int) (enc : κ → List Value) (k : Nat) (keys : List κ) (v : Value) (w w' : World) : Prop :=
  ∃ (ts : List κ) (a : Option Addr) (cap : Nat), v = .slice a ts.length cap ∧ ts.length ≤ cap ∧ SortK c ts ∧ (∀ x, x ∈ ts ↔ x ∈ keys) ∧ ∀ (j : Nat) (p : κ), ts[j]? = some p → ∃ b, a = some ⟨b, 0, none⟩ ∧ w.heap.size ≤ b ∧ ∀ (i : Nat) (x : Value), (enc p)[i]? = some x → w'.cell? ⟨b, j * k + i, none⟩ = some x
theorem SortedW.list {κ : Type} {c : κ → κ → Int} {enc : κ → List Value} {k : Nat} {keys : List κ} {v : Value} {w w' : World} {u' : PH} (val : κ → Value) (hval : ∀ p, (val p).cells.toList = enc p) (h : SortedW c enc k keys v w w') (hu : ∀ g o, w.heap.size ≤ g → w'.heap[g]? = some o → u' g = some o) :
    ∃ ts : List κ, ListP u' v k (ts.map val) ∧ SortK c ts ∧ ∀ x, x ∈ ts ↔ x ∈ keys := by
  obtain ⟨ts, a, cap, rfl, hc, hs, hm, hcell⟩ := h
  refine ⟨ts, ⟨a, cap, by rw [List.length_map], by rw [List.length_map]; exact hc, fun j e hj => ?_⟩, hs, hm⟩
  rw [List.getElem?_map] at hj
  obtain ⟨p, hp, rfl⟩ := Option.map_eq_some_iff.1 hj
  obtain ⟨b, e, hb, hx⟩ := hcell j p hp
  refine ⟨b, 0, e, fun i x hi => ?_⟩
  rw [← Array.getElem?_toList, hval] at hi
  have h1 := hx i x hi
  unfold World.cell? at h1
  simp only at h1
  split at h1
  · rename_i cs t fr hh
    exact ⟨cs, t, fr, hu b _ hb hh, by rw [Nat.zero_add]; simpa using h1⟩
  · cases h1
theorem cellsPar_len (x : Par) : (cellsPar x).length = 2 := rfl
def pastI (P : Program) (st : List KI × S) : List KI × S := match one P (meet P 200 st).1 (meet P 200 st).2 with | some st' => st' | none => st
section
variable {P : Program} [Mixed P] {fn : Func} {Post : Spec} {st : List KI × S} {u m : PH}
theorem G.pastI (h : G P fn Post (pastI P st) u m) : G P fn Post st u m := by
  unfold Go.Proofs.YtpdboaedoimahaaGreatDoor.pastI at h
  split at h
  · rename_i st' he
    exact ⟨meet_sound 200 st (one_sound Mixed.mx he h.out)⟩
  · exact h
theorem Fn0.weak {f : FuncId} {args : List Value} {R R' : Value → PH → Prop} (h : Fn0 P f args u R) (hr : ∀ v u', R v u' → R' v u') : Fn0 P f args u R' := fun w hg => Calls.mono (h w hg) fun e w' ⟨v, u', m', e1, e2, e3, e4, e5⟩ => ⟨v, u', m', e1, e2, e3, e4, hr _ _ e5⟩
end
set_option maxHeartbeats 4000000 in
theorem sortedParW (Bm g : Nat) (es : Array MapEntry) (clock : Nat) (lk : List (Par × Value)) (hs : Stamped es clock) (hkv : es.toList.map (fun e => (e.key, e.val)) = lk.map (fun p => (parV p.1, p.2))) (hnd : (lk.map (·.1)).Nodup) (hN : lk.length ≤ 1000000) (w : World) (hm : w.cell? ⟨Bm, 0, none⟩ = some (.map (some g))) (hg : w.heap[g]? = some (.map es clock)) :
    Calls Tryz.prog 98 #[.func (.func 160) #[] #[.pointer (some ⟨Bm, 0, none⟩)], .func (.func 38) #[] #[]] w fun e w' => ∃ v, e = .returned v ∧ SortedW cmpP cellsPar 2 (lk.map (·.1)) v w w' ∧ Below w.heap.size w w' := by
  have mixed : Tryz.prog.follows .mixedOrders = true := by kernel_rfl
  have hBm : Bm < w.heap.size := by
    unfold World.cell? at hm
    split at hm
    · rename_i h; exact lt_of_at h
    · cases hm
  have c1 := collectPar _ _ Tryz.call160 (KeysS lk) lk.length hN w (keysGivesPar 0 Bm g es clock lk hs hkv hnd w hm hBm hg)
  have c2 : ∀ (v : Value) (ss : List Par) (W : World), KeysS lk ss → W.ownsRow w.heap.size 55 2 v ss.length (ss.flatMap cellsPar) → Below w.heap.size w W → Calls Tryz.prog 37 #[v, .func (.func 38) #[] #[]] W fun e w' => e = .returned (.tuple #[]) ∧ SortedW cmpP cellsPar 2 (lk.map (·.1)) v w w' ∧ Below w.heap.size w w' := by
    intro v ss W hS hrow hb
    rcases hrow.2 with ⟨rfl, hz⟩ | ⟨gb, cap, cur, rfl, hbase, hgb, r1, r2, r3, r4⟩
    · have hss : ss = [] := List.eq_nil_of_length_eq_zero hz
      subst hss
      refine (AnyF.slices_SortFunc_none Tryz.sortPar none 0 _ W).mono ?_
      rintro e w' ⟨rfl, rfl⟩
      exact ⟨rfl, ⟨[], none, 0, rfl, Nat.le_refl _, List.Pairwise.nil, hS.2, fun j p hj => by simp at hj⟩, hb⟩
    · have hH : HoldsK cellsPar 2 W gb 0 ss.toArray := holds_row (enc := cellsPar) (k := 2) cellsPar_len hgb r4
      have hgl : gb < W.heap.size := lt_of_at hgb
      have hsz : ss.toArray.size < 4611686018427387904 := by
        have := len_of_sub (fun x : Par => x) (L := ss) (l := lk.map (·.1)) (by simpa using hS.1) (fun p hp => (hS.2 p).1 hp)
        simp at this
        simp
        omega
      have hcon := AnyQ.slices_SortFunc_total Tryz.sortPar 2 (fun w => by kernel_rfl) (fun w => by kernel_rfl) cellsPar (fun _ => rfl) (fun x v hv => by simp at hv; rcases hv with rfl | rfl <;> rfl) cmpP ordP.swo 38 #[] gb 0 cap ss.toArray W Tryz.call38 (cmpLaysPar gb 0 _ W) hH hgl hsz ordP.tot
      change Calls Tryz.prog 37 _ _ _ at hcon
      simp only [List.size_toArray] at hcon
      refine Calls.mono hcon ?_
      rintro e w' ⟨rfl, nn, os, rfl⟩
      have hp := sorted_perm (c := cmpP) ss
      refine ⟨rfl, ⟨sorted cmpP ss, some ⟨gb, 0, none⟩, cap, by rw [hp.length_eq], by rw [hp.length_eq]; exact r1, sorted_sort ordP hS.1, fun x => (hp.mem_iff).trans (hS.2 x), fun j p hj => ⟨gb, rfl, hbase, fun i x hi => ?_⟩⟩, sortWorld_below hb hbase⟩
      have h2 := holdsK_sortWorldK_c cellsPar 2 W gb 0 ss.toArray (sorted cmpP ss).toArray nn os hH hgl (by simp [hp.length_eq])
      exact row_at (enc := cellsPar) (k := 2) cellsPar_len h2 hj hi
  clear hm hg hs hkv hnd
  go_enter Tryz.func98, Tryz.ntmps98
  go_wp2_with (go_at_call 159; refine c1.mono ?_; rintro e w' ⟨v, ss, rfl, hS, hrow, hnil, hb⟩)
  have c3 := c2 v ss w' hS hrow hb
  clear hS hrow hnil hb c2 c1
  go_wp2_with (go_at_call 37; refine c3.mono ?_; rintro e w' ⟨rfl, hSo, hbo⟩)
  go_ret
  exact ⟨v, rfl, hSo, hbo⟩
theorem sortedPar0 {u : PH} {Bm g : Nat} {o : Obj} {lk : List (Par × Value)} (hm : CellP u Bm 0 (.map (some g))) (hg : u g = some o) (ho : MapO parV o lk) (hN : lk.length ≤ 1000000) :
    Fn0 Tryz.prog 98 [.func (.func 160) #[] #[.pointer (some ⟨Bm, 0, none⟩)], .func (.func 38) #[] #[]] u fun v u' => ∃ ts : List Par, ListP u' v 2 (ts.map parV) ∧ SortK cmpP ts ∧ ∀ x, x ∈ ts ↔ x ∈ lk.map (·.1) := by
  have hnd := ho.nodup
  obtain ⟨es, clock, rfl, hkv, hs⟩ := ho
  refine Fn0.ofB (fun v w w' => SortedW cmpP cellsPar 2 (lk.map (·.1)) v w w') (fun w hp => ?_) (fun v w w' u' h _ hu => SortedW.list (enc := cellsPar) parV (fun _ => rfl) h hu)
  exact sortedParW Bm g es clock lk hs hkv hnd hN w (hm.cell hp) (hp g _ hg)
theorem keysPar0 {u : PH} {g : Nat} : Fn0 Tryz.prog 99 [.map (some g)] u fun v u' => ∃ b, v = .func (.func 160) #[] #[.pointer (some ⟨b, 0, none⟩)] ∧ CellP u' b 0 (.map (some g)) := by
  have h : Contract Tryz.prog 99 [.map (some g)] u PH.mt (fun v u' m' => ∃ b, v = .func (.func 160) #[] #[.pointer (some ⟨b, 0, none⟩)] ∧ CellP m' b 0 (.map (some g))) := by
    refine Contract.of Tryz.func99 (by kernel_rfl) (by kernel_rfl) ?_
    refine G.pastI ?_
    refine G.pub 0 110 [.map (some g)] (by kernel_rfl) (by kernel_rfl) ?_
    intro b hu hm
    exact G.ret (.func (.func 160) #[] #[.pointer (some ⟨b, 0, none⟩)]) (by kernel_rfl) ⟨b, rfl, _, _, _, upd_same _ _ _, rfl⟩
  refine Fn0.weak h.giveAll ?_
  rintro v u' ⟨u1, m1, _, l2, b, e, hc⟩
  exact ⟨b, e, hc.mono l2⟩
end Go.Proofs.YtpdboaedoimahaaGreatDoor
end
section
set_option linter.unusedSectionVars false
set_option linter.unusedVariables false
namespace Go.Proofs.YtpdboaedoimahaaGreatDoor
open Go.RowKit Go.MapKept Go.Shelf Go.Sort
theorem cellsPr_len (x : Par × Par) : (cellsPr x).length = 4 := rfl
set_option maxHeartbeats 4000000 in
theorem sortedPrW (Bm g : Nat) (es : Array MapEntry) (clock : Nat) (lk : List ((Par × Par) × Value)) (hs : Stamped es clock) (hkv : es.toList.map (fun e => (e.key, e.val)) = lk.map (fun p => (prV p.1, p.2))) (hnd : (lk.map (·.1)).Nodup) (hN : lk.length ≤ 1000000) (w : World) (hm : w.cell? ⟨Bm, 0, none⟩ = some (.map (some g))) (hg : w.heap[g]? = some (.map es clock)) :
    Calls Tryz.prog 100 #[.func (.func 163) #[] #[.pointer (some ⟨Bm, 0, none⟩)], .func (.func 102) #[] #[]] w fun e w' => ∃ v, e = .returned v ∧ SortedW cmpQ cellsPr 4 (lk.map (·.1)) v w w' ∧ Below w.heap.size w w' := by
  have mixed : Tryz.prog.follows .mixedOrders = true := by kernel_rfl
  have hBm : Bm < w.heap.size := by
    unfold World.cell? at hm
    split at hm
    · rename_i h; exact lt_of_at h
    · cases hm
  have c1 := collectPr _ _ Tryz.call163 (KeysQ lk) lk.length hN w (keysGivesPr 0 Bm g es clock lk hs hkv hnd w hm hBm hg)
  have c2 : ∀ (v : Value) (ss : List (Par × Par)) (W : World), KeysQ lk ss → W.ownsRow w.heap.size 163 4 v ss.length (ss.flatMap cellsPr) → Below w.heap.size w W → Calls Tryz.prog 162 #[v, .func (.func 102) #[] #[]] W fun e w' => e = .returned (.tuple #[]) ∧ SortedW cmpQ cellsPr 4 (lk.map (·.1)) v w w' ∧ Below w.heap.size w w' := by
    intro v ss W hS hrow hb
    rcases hrow.2 with ⟨rfl, hz⟩ | ⟨gb, cap, cur, rfl, hbase, hgb, r1, r2, r3, r4⟩
    · have hss : ss = [] := List.eq_nil_of_length_eq_zero hz
      subst hss
      refine (AnyF.slices_SortFunc_none Tryz.sortPr none 0 _ W).mono ?_
      rintro e w' ⟨rfl, rfl⟩
      exact ⟨rfl, ⟨[], none, 0, rfl, Nat.le_refl _, List.Pairwise.nil, hS.2, fun j p hj => by simp at hj⟩, hb⟩
    · have hH : HoldsK cellsPr 4 W gb 0 ss.toArray := holds_row (enc := cellsPr) (k := 4) cellsPr_len hgb r4
      have hgl : gb < W.heap.size := lt_of_at hgb
      have hsz : ss.toArray.size < 4611686018427387904 := by
        have := len_of_sub (fun x : Par × Par => x) (L := ss) (l := lk.map (·.1)) (by simpa using hS.1) (fun p hp => (hS.2 p).1 hp)
        simp at this
        simp
        omega
      have hcon := AnyQ.slices_SortFunc_total Tryz.sortPr 4 (fun w => by kernel_rfl) (fun w => by kernel_rfl) cellsPr (fun _ => rfl) (fun x v hv => by simp at hv; rcases hv with rfl | rfl | rfl | rfl <;> rfl) cmpQ ordQ.swo 102 #[] gb 0 cap ss.toArray W Tryz.call102 (cmpLaysPr gb 0 _ W) hH hgl hsz ordQ.tot
      change Calls Tryz.prog 162 _ _ _ at hcon
      simp only [List.size_toArray] at hcon
      refine Calls.mono hcon ?_
      rintro e w' ⟨rfl, nn, os, rfl⟩
      have hp := sorted_perm (c := cmpQ) ss
      refine ⟨rfl, ⟨sorted cmpQ ss, some ⟨gb, 0, none⟩, cap, by rw [hp.length_eq], by rw [hp.length_eq]; exact r1, sorted_sort ordQ hS.1, fun x => (hp.mem_iff).trans (hS.2 x), fun j p hj => ⟨gb, rfl, hbase, fun i x hi => ?_⟩⟩, sortWorld_below hb hbase⟩
      have h2 := holdsK_sortWorldK_c cellsPr 4 W gb 0 ss.toArray (sorted cmpQ ss).toArray nn os hH hgl (by simp [hp.length_eq])
      exact row_at (enc := cellsPr) (k := 4) cellsPr_len h2 hj hi
  clear hm hg hs hkv hnd
  go_enter Tryz.func100, Tryz.ntmps100
  go_wp2_with (go_at_call 161; refine c1.mono ?_; rintro e w' ⟨v, ss, rfl, hS, hrow, hnil, hb⟩)
  have c3 := c2 v ss w' hS hrow hb
  clear hS hrow hnil hb c2 c1
  go_wp2_with (go_at_call 162; refine c3.mono ?_; rintro e w' ⟨rfl, hSo, hbo⟩)
  go_ret
  exact ⟨v, rfl, hSo, hbo⟩
theorem sortedPr0 {u : PH} {Bm g : Nat} {o : Obj} {lk : List ((Par × Par) × Value)} (hm : CellP u Bm 0 (.map (some g))) (hg : u g = some o) (ho : MapO prV o lk) (hN : lk.length ≤ 1000000) :
    Fn0 Tryz.prog 100 [.func (.func 163) #[] #[.pointer (some ⟨Bm, 0, none⟩)], .func (.func 102) #[] #[]] u fun v u' => ∃ ts : List (Par × Par), ListP u' v 4 (ts.map prV) ∧ SortK cmpQ ts ∧ ∀ x, x ∈ ts ↔ x ∈ lk.map (·.1) := by
  have hnd := ho.nodup
  obtain ⟨es, clock, rfl, hkv, hs⟩ := ho
  refine Fn0.ofB (fun v w w' => SortedW cmpQ cellsPr 4 (lk.map (·.1)) v w w') (fun w hp => ?_) (fun v w w' u' h _ hu => SortedW.list (enc := cellsPr) prV (fun _ => rfl) h hu)
  exact sortedPrW Bm g es clock lk hs hkv hnd hN w (hm.cell hp) (hp g _ hg)
theorem keysPr0 {u : PH} {g : Nat} : Fn0 Tryz.prog 101 [.map (some g)] u fun v u' => ∃ b, v = .func (.func 163) #[] #[.pointer (some ⟨b, 0, none⟩)] ∧ CellP u' b 0 (.map (some g)) := by
  have h : Contract Tryz.prog 101 [.map (some g)] u PH.mt (fun v u' m' => ∃ b, v = .func (.func 163) #[] #[.pointer (some ⟨b, 0, none⟩)] ∧ CellP m' b 0 (.map (some g))) := by
    refine Contract.of Tryz.func101 (by kernel_rfl) (by kernel_rfl) ?_
    refine G.pastI ?_
    refine G.pub 0 111 [.map (some g)] (by kernel_rfl) (by kernel_rfl) ?_
    intro b hu hm
    exact G.ret (.func (.func 163) #[] #[.pointer (some ⟨b, 0, none⟩)]) (by kernel_rfl) ⟨b, rfl, _, _, _, upd_same _ _ _, rfl⟩
  refine Fn0.weak h.giveAll ?_
  rintro v u' ⟨u1, m1, _, l2, b, e, hc⟩
  exact ⟨b, e, hc.mono l2⟩
end Go.Proofs.YtpdboaedoimahaaGreatDoor
end
section
set_option linter.unusedSectionVars false
set_option linter.unusedVariables false
namespace Go.Proofs.YtpdboaedoimahaaGreatDoor
open Go.RowKit Go.MapKept
theorem ArrAt.le {m0 m : PH} {v : Value} {t : TypeId} {sz : Nat} {es : List Value} (h : ArrAt m0 m v t sz es) : PH.le m0 m := by
  rcases h.2 with ⟨_, _, rfl⟩ | ⟨g, cap, rest, hg0, rfl, _⟩
  · exact PH.le_refl _
  · exact le_upd _ hg0
theorem text0 {u : PH} {x p : Value} {q : Rat} (ht : TabU u) (h : FracP u x q) (hq : Tx q) : Fn0 Tryz.prog 96 [x, p] u fun v _ => v = .string (mkS (ratT q)) := by
  obtain ⟨b, a, n, c, b', a', n', c', rfl⟩ := h.opn
  refine Fn0.of Tryz.func96 (by kernel_rfl) (by kernel_rfl) ?_
  refine G.call0 _ _ (by kernel_rfl) Tryz.call97 (fracFits0 ht h hq) ?_
  rintro v1 u1 l1 rfl
  refine G.neqF 0 0 (by kernel_rfl) (by omega) ?_
  exact G.ret _ (by kernel_rfl) ⟨rfl, rfl⟩
theorem termV_ok (p : Par × Rat) : ElsOK 3 [termV p] := fun e he => by
  simp at he; subst he
  exact ⟨rfl, fun y hy => by simp [termV, Value.cells] at hy; rcases hy with rfl | rfl | rfl <;> rfl⟩
theorem prtV_ok (p : (Par × Par) × Rat) : ElsOK 5 [prtV p] := fun e he => by
  simp at he; subst he
  exact ⟨rfl, fun y hy => by simp [prtV, Value.cells] at hy; rcases hy with rfl | rfl | rfl | rfl | rfl <;> rfl⟩
theorem can_keys {κ : Type} {c : κ → κ → Int} {f : κ → Rat} {ts keys : List κ} (hs : SortK c ts) (hm : ∀ x, x ∈ ts ↔ x ∈ keys) (h0 : ∀ p ∈ keys, f p ≠ 0) (h1 : ∀ k, k ∉ keys → f k = 0) : Can c f (ts.map fun p => (p, f p)) := by
  have e : (ts.map fun p => (p, f p)).map (·.1) = ts := by rw [List.map_map]; simp [Function.comp_def]
  refine ⟨by rw [e]; exact hs, fun p hp => ?_, fun k hk => h1 k fun h => hk (by rw [e]; exact (hm k).2 h)⟩
  obtain ⟨x, hx, rfl⟩ := List.mem_map.1 hp
  exact ⟨rfl, h0 x ((hm x).1 hx)⟩
set_option maxHeartbeats 8000000 in
theorem cofactor0 {u : PH} {F : CF} {N : Nat} {v : Value} (ht : TabU u) (hv : MomP u v F N) (sF : CFS F) (hN : N ≤ 1000000) :
    Fn0 Tryz.prog 50 [v] u fun v' u' => ∃ r, v' = .tuple #[r, .int .i64 0] ∧ CofP u' r F N := by
  obtain ⟨b, a, n, c, b', a', n', c', g1, g2, o1, o2, rfl, hc, e1, e2, h1, h2⟩ := hv
  obtain ⟨k1, ho1, q1, z1, n1⟩ := h1.at
  obtain ⟨k2, ho2, q2, z2, n2⟩ := h2.at
  refine Fn0.of Tryz.func50 (by kernel_rfl) (by kernel_rfl) ?_
  refine G.pastI ?_
  refine G.pastI ?_
  refine G.pub 1000 42 [.int .i64 0] (by kernel_rfl) (by kernel_rfl) ?_
  intro e hu hm
  refine G.call0 _ _ (by kernel_rfl) Tryz.call96 (text0 (p := .pointer (some ⟨e, 0, none⟩)) ht hc (SB.tx sF.c)) ?_
  rintro v1 u1 l1 rfl
  refine G.call0 _ _ (by kernel_rfl) Tryz.call99 (keysPar0 (g := g1)) ?_
  rintro v2 u2 l2 ⟨b2, rfl, hb2⟩
  refine G.call0 _ _ (by kernel_rfl) Tryz.call98 (sortedPar0 hb2 ((l1.trans l2) _ _ e1) ho1 (by omega)) ?_
  rintro v3 u3 l3 ⟨ts, hts, hss, hsm⟩
  have le3 := (l1.trans l2).trans l3
  obtain ⟨ta, tc, rfl⟩ := ListP.opn hts
  rw [List.length_map] at hts ⊢
  have hlen : ts.length ≤ N := by
    have := len_of_sub (fun x : Par => x) (L := ts) (l := k1.map (·.1)) (by simpa using hss.nodup ordP) (fun p hp => (hsm p).1 hp)
    simp at this; omega
  obtain ⟨m0, hm0⟩ : ∃ m0 : PH, m0 = PH.mt.upd e (.cells [Value.int .i64 0].toArray 42 (0, 0)) := ⟨_, rfl⟩
  rw [← hm0]
  refine G.loop (ι := Nat × (Option Addr × Nat × Nat)) (fun i => [(1, .p 0 0), (2, .p 1 0), (4, .v (.pointer (some ⟨e, 0, none⟩))), (5, .v (.func (.func 96) #[] #[.pointer (some ⟨e, 0, none⟩)])), (6, .p 3005 0), (20, .v (.slice ta ts.length tc)), (21, .v (.int .i64 (ts.length : Int))), (22, .v (.int .i64 (i.1 : Int)))])
    (fun i => [(0, ⟨113, [.v (.bool b), .v (.slice a n c), .v (.bool b'), .v (.slice a' n' c'), .v (.map (some g1)), .v (.map (some g2))]⟩), (1, ⟨38, [.v (.string (mkS [])), .v (.slice none 0 0), .v (.slice none 0 0)]⟩), (3005, ⟨38, [.v (.string (mkS (ratT F.c))), .v (.slice i.2.1 i.2.2.1 i.2.2.2), .v (.slice none 0 0)]⟩)])
    (fun i u' m' => i.1 ≤ ts.length ∧ ArrAt m0 m' (.slice i.2.1 i.2.2.1 i.2.2.2) 57 3 ((ts.take i.1).map fun p => termV (p, F.s p)))
    (fun i => ts.length - i.1) (0, (none, 0, 0)) (by kernel_rfl) (fun _ => by kernel_rfl) ⟨by kernel_rfl, by kernel_rfl, by kernel_rfl⟩ ⟨by simp, ArrAt.nil _ _ _⟩ ?_
  rintro J ⟨i, ⟨xa, xn, xc⟩⟩ hJ u4 m4 l4 ⟨hi, hA⟩
  simp only at hi hA hJ
  have le4 := le3.trans l4
  by_cases hlt : i < ts.length
  · refine G.lssT (i : Int) (ts.length : Int) (by kernel_rfl) (by omega) ?_
    have hTi : ts[i]? = some ts[i] := List.getElem?_eq_getElem hlt
    obtain ⟨ba, oa, rfl, ea⟩ := ListP.at' (hts.mono l4) (j := i) (e := parV ts[i]) (by simp [hTi])
    obtain ⟨y, hy, hye⟩ := List.mem_map.1 ((hsm ts[i]).1 (List.getElem_mem hlt))
    obtain ⟨hfy, hy0, _⟩ := q1 y hy
    have has := assoc_of_mem ho1.nodup (show (y.1, y.2) ∈ k1 from hy)
    rw [hye] at has hfy
    obtain ⟨w1, w2, w3, w4, w5, w6, w7, w8, hwe⟩ := hfy.opn
    rw [hwe] at has hfy
    refine G.addr ba oa ts.length tc i 2 (by kernel_rfl) (by omega) ?_
    refine G.loadU (some 2) ba (oa + i * 2) (.agg #[.int .i64 ts[i].1, .string (mkS ts[i].2)]) (by kernel_rfl) (by kernel_rfl) ea ?_
    refine G.mapIs (et := 109) keyPar fz g1 o1 k1 ts[i] (.agg #[.bool w1, .slice w2 w3 w4, .bool w5, .slice w6 w7 w8]) (by kernel_rfl) (by kernel_rfl) (.inl (le4 _ _ e1)) ho1 has ?_
    refine G.call0 _ _ (by kernel_rfl) Tryz.call96 (text0 (p := .pointer (some ⟨e, 0, none⟩)) (ht.mono le4) (hfy.mono le4) (SB.tx (sF.s _))) ?_
    rintro v5 u5 l5 rfl
    refine G.buildU 57 3 40 (.agg #[.int .i64 0, .string (mkS []), .string (mkS [])]) [.agg #[.int .i64 ts[i].1, .string (mkS ts[i].2), .string (mkS (ratT (F.s ts[i])))]] (by kernel_rfl) (termV_ok (ts[i], F.s ts[i])) rfl (by omega) (by simp) (by simp) ?_
    intro g6 u6 l6 e6
    have hel : ((ts.take i).map fun p => termV (p, F.s p)).length = i := by simp; omega
    refine G.append 57 3 40 (.agg #[.int .i64 0, .string (mkS []), .string (mkS [])]) m0 ((ts.take i).map fun p => termV (p, F.s p)) [.agg #[.int .i64 ts[i].1, .string (mkS ts[i].2), .string (mkS (ratT (F.s ts[i])))]] (.slice xa xn xc) g6 0 1 1 (by kernel_rfl) rfl rfl (by omega) hA e6 (termV_ok (ts[i], F.s ts[i])) rfl (by omega) (by omega) (by omega) ?_
    intro v7 m7 hA7
    rw [show ((ts.take i).map fun p => termV (p, F.s p)) ++ [.agg #[.int .i64 ts[i].1, .string (mkS ts[i].2), .string (mkS (ratT (F.s ts[i])))]] = (ts.take (i + 1)).map fun p => termV (p, F.s p) by rw [List.take_add_one, hTi, List.map_append]; rfl] at hA7
    obtain ⟨a7, c7, rfl⟩ := hA7.shape
    refine G.add (i : Int) 1 ((i + 1 : Nat) : Int) (by kernel_rfl) (by omega) (by omega) (by omega) ?_
    exact G.back (by kernel_rfl) (hJ (i + 1, (a7, ((ts.take (i + 1)).map fun p => termV (p, F.s p)).length, c7)) _ _ _ ⟨by kernel_rfl, by kernel_rfl, by kernel_rfl⟩ ((l4.trans l5).trans l6) ⟨by dsimp only; omega, hA7⟩ (by dsimp only; omega))
  obtain rfl : i = ts.length := by omega
  refine G.lssF (ts.length : Int) (ts.length : Int) (by kernel_rfl) (by omega) ?_
  rw [List.take_length] at hA
  have hxn : xn = ts.length := by have := hA.len; simpa using this
  subst hxn
  refine G.call0 _ _ (by kernel_rfl) Tryz.call101 (keysPr0 (g := g2)) ?_
  rintro v5 u5 l5 ⟨b5, rfl, hb5⟩
  refine G.call0 _ _ (by kernel_rfl) Tryz.call100 (sortedPr0 hb5 ((le4.trans l5) _ _ e2) ho2 (by omega)) ?_
  rintro v6 u6 l6 ⟨qs, hqs, hqss, hqsm⟩
  have le6 := (le4.trans l5).trans l6
  obtain ⟨qa, qc, rfl⟩ := ListP.opn hqs
  rw [List.length_map] at hqs ⊢
  have hlen2 : qs.length ≤ N := by
    have := len_of_sub (fun x : Par × Par => x) (L := qs) (l := k2.map (·.1)) (by simpa using hqss.nodup ordQ) (fun p hp => (hqsm p).1 hp)
    simp at this; omega
  refine G.loop (ι := Nat × (Option Addr × Nat × Nat)) (fun i => [(1, .p 0 0), (2, .p 1 0), (4, .v (.pointer (some ⟨e, 0, none⟩))), (5, .v (.func (.func 96) #[] #[.pointer (some ⟨e, 0, none⟩)])), (6, .p 3005 0), (43, .v (.slice qa qs.length qc)), (44, .v (.int .i64 (qs.length : Int))), (45, .v (.int .i64 (i.1 : Int)))])
    (fun i => [(0, ⟨113, [.v (.bool b), .v (.slice a n c), .v (.bool b'), .v (.slice a' n' c'), .v (.map (some g1)), .v (.map (some g2))]⟩), (1, ⟨38, [.v (.string (mkS [])), .v (.slice none 0 0), .v (.slice none 0 0)]⟩), (3005, ⟨38, [.v (.string (mkS (ratT F.c))), .v (.slice xa ts.length xc), .v (.slice i.2.1 i.2.2.1 i.2.2.2)]⟩)])
    (fun i u' m' => i.1 ≤ qs.length ∧ ArrAt m4 m' (.slice i.2.1 i.2.2.1 i.2.2.2) 119 5 ((qs.take i.1).map fun p => prtV (p, F.t p)))
    (fun i => qs.length - i.1) (0, (none, 0, 0)) (by kernel_rfl) (fun _ => by kernel_rfl) ⟨by kernel_rfl, by kernel_rfl, by kernel_rfl⟩ ⟨by simp, ArrAt.nil _ _ _⟩ ?_
  rintro J2 ⟨i, ⟨ya, yn, yc⟩⟩ hJ2 u7 m7 l7 ⟨hi2, hB⟩
  simp only at hi2 hB hJ2
  have le7 := le6.trans l7
  by_cases hlt : i < qs.length
  · refine G.lssT (i : Int) (qs.length : Int) (by kernel_rfl) (by omega) ?_
    have hTi : qs[i]? = some qs[i] := List.getElem?_eq_getElem hlt
    obtain ⟨ba, oa, rfl, ea⟩ := ListP.at' (hqs.mono l7) (j := i) (e := prV qs[i]) (by simp [hTi])
    obtain ⟨y, hy, hye⟩ := List.mem_map.1 ((hqsm qs[i]).1 (List.getElem_mem hlt))
    obtain ⟨hfy, hy0, _⟩ := q2 y hy
    have has := assoc_of_mem ho2.nodup (show (y.1, y.2) ∈ k2 from hy)
    rw [hye] at has hfy
    obtain ⟨w1, w2, w3, w4, w5, w6, w7, w8, hwe⟩ := hfy.opn
    rw [hwe] at has hfy
    refine G.addr ba oa qs.length qc i 4 (by kernel_rfl) (by omega) ?_
    refine G.loadU (some 4) ba (oa + i * 4) (.agg #[.int .i64 qs[i].1.1, .string (mkS qs[i].1.2), .int .i64 qs[i].2.1, .string (mkS qs[i].2.2)]) (by kernel_rfl) (by kernel_rfl) ea ?_
    refine G.mapIs (et := 109) keyPr fz g2 o2 k2 qs[i] (.agg #[.bool w1, .slice w2 w3 w4, .bool w5, .slice w6 w7 w8]) (by kernel_rfl) (by kernel_rfl) (.inl (le7 _ _ e2)) ho2 has ?_
    refine G.call0 _ _ (by kernel_rfl) Tryz.call96 (text0 (p := .pointer (some ⟨e, 0, none⟩)) (ht.mono le7) (hfy.mono le7) (SB.tx (sF.t _))) ?_
    rintro v8 u8 l8 rfl
    refine G.buildU 119 5 64 (.agg #[.int .i64 0, .string (mkS []), .int .i64 0, .string (mkS []), .string (mkS [])]) [.agg #[.int .i64 qs[i].1.1, .string (mkS qs[i].1.2), .int .i64 qs[i].2.1, .string (mkS qs[i].2.2), .string (mkS (ratT (F.t qs[i])))]] (by kernel_rfl) (prtV_ok (qs[i], F.t qs[i])) rfl (by omega) (by simp) (by simp) ?_
    intro g9 u9 l9 e9
    have hel : ((qs.take i).map fun p => prtV (p, F.t p)).length = i := by simp; omega
    refine G.append 119 5 64 (.agg #[.int .i64 0, .string (mkS []), .int .i64 0, .string (mkS []), .string (mkS [])]) m4 ((qs.take i).map fun p => prtV (p, F.t p)) [.agg #[.int .i64 qs[i].1.1, .string (mkS qs[i].1.2), .int .i64 qs[i].2.1, .string (mkS qs[i].2.2), .string (mkS (ratT (F.t qs[i])))]] (.slice ya yn yc) g9 0 1 1 (by kernel_rfl) rfl rfl (by omega) hB e9 (prtV_ok (qs[i], F.t qs[i])) rfl (by omega) (by omega) (by omega) ?_
    intro v10 m10 hB10
    rw [show ((qs.take i).map fun p => prtV (p, F.t p)) ++ [.agg #[.int .i64 qs[i].1.1, .string (mkS qs[i].1.2), .int .i64 qs[i].2.1, .string (mkS qs[i].2.2), .string (mkS (ratT (F.t qs[i])))]] = (qs.take (i + 1)).map fun p => prtV (p, F.t p) by rw [List.take_add_one, hTi, List.map_append]; rfl] at hB10
    obtain ⟨a10, c10, rfl⟩ := hB10.shape
    refine G.add (i : Int) 1 ((i + 1 : Nat) : Int) (by kernel_rfl) (by omega) (by omega) (by omega) ?_
    exact G.back (by kernel_rfl) (hJ2 (i + 1, (a10, ((qs.take (i + 1)).map fun p => prtV (p, F.t p)).length, c10)) _ _ _ ⟨by kernel_rfl, by kernel_rfl, by kernel_rfl⟩ ((l7.trans l8).trans l9) ⟨by dsimp only; omega, hB10⟩ (by dsimp only; omega))
  obtain rfl : i = qs.length := by omega
  refine G.lssF (qs.length : Int) (qs.length : Int) (by kernel_rfl) (by omega) ?_
  rw [List.take_length] at hB
  have hyn : yn = qs.length := by have := hB.len; simpa using this
  subst hyn
  have hme : m7 e = some (.cells [Value.int .i64 0].toArray 42 (0, 0)) := hB.le _ _ (hA.le _ _ (by rw [hm0]; exact upd_same _ _ _))
  refine G.loadM none e 0 (.int .i64 0) (by kernel_rfl) (by kernel_rfl) (fun i y hy => by
    match i, hy with
    | 0, hy => simp [Value.cells] at hy; subst hy; exact ⟨_, _, _, hme, rfl⟩
    | k + 1, hy => simp [Value.cells] at hy) ?_
  refine G.neqF 0 0 (by kernel_rfl) (by omega) ?_
  refine G.give m4 _ _ (by kernel_rfl) hB (fun _ => .inl rfl) ?_
  intro u8 l8 hLq
  refine G.give m0 _ _ (by kernel_rfl) hA (fun _ => .inl rfl) ?_
  intro u9 l9 hLt
  refine G.drop PH.mt (by kernel_rfl) (PH.mt_le _) ?_
  refine G.ret (.tuple #[.agg #[.string (mkS (ratT F.c)), .slice xa ts.length xc, .slice ya qs.length yc], .int .i64 0]) (by kernel_rfl) ⟨rfl, _, rfl, ts.map (fun p => (p, F.s p)), qs.map (fun p => (p, F.t p)), xa, xc, ya, yc, by rw [List.length_map, List.length_map], ?_, ?_, can_keys hss hsm (fun p hp => ?_) z1, can_keys hqss hqsm (fun p hp => ?_) z2, by rw [List.length_map]; exact hlen, by rw [List.length_map]; exact hlen2⟩
  · rw [List.length_map, List.map_map]; exact hLt
  · rw [List.length_map, List.map_map]; exact hLq.mono l9
  · obtain ⟨y, hy, rfl⟩ := List.mem_map.1 hp
    exact (q1 y hy).2.1 rfl
  · obtain ⟨y, hy, rfl⟩ := List.mem_map.1 hp
    exact (q2 y hy).2.1 rfl
end Go.Proofs.YtpdboaedoimahaaGreatDoor
end
section
set_option linter.unusedSectionVars false
set_option linter.unusedVariables false
namespace Go.Proofs.YtpdboaedoimahaaGreatDoor
open Go.RowKit Go.MapKept
theorem ratT_ne0 {q : Rat} (h : q ≠ 0) : ratT q ≠ [48] := by
  intro e
  unfold ratT at e
  split at e
  · have := itoa_inj (e.trans itoa_zero.symm)
    exact h (Rat.num_eq_zero.1 this)
  · have : (47 : UInt8) ∈ Lib.itoa q.num ++ 47 :: Lib.itoa (q.den : Int) := by simp
    rw [e] at this
    simp at this
theorem less0 {u : PH} (p q : Par) (r : Bool) (h : decide (cmpP p q < 0) = r) : Fn0 Tryz.prog 42 [parV p, parV q] u fun v _ => v = .bool r := by
  refine Fn0.of Tryz.func42 (by kernel_rfl) (by kernel_rfl) ?_
  refine G.call0 _ _ (by kernel_rfl) Tryz.call38 (compare0 p q) ?_
  rintro v1 u1 l1 rfl
  cases r with
  | true =>
    refine G.lssT (cmpP p q) 0 (by kernel_rfl) (of_decide_eq_true h) ?_
    exact G.ret (.bool true) (by kernel_rfl) ⟨rfl, rfl⟩
  | false =>
    refine G.lssF (cmpP p q) 0 (by kernel_rfl) (of_decide_eq_false h) ?_
    exact G.ret (.bool false) (by kernel_rfl) ⟨rfl, rfl⟩
theorem wordB_len {s : List UInt8} (h : wordB s = true) : 1 ≤ s.length ∧ s.length ≤ 12 := by
  unfold wordB at h
  split at h
  · cases h
  · simp only [Bool.and_eq_true, decide_eq_true_eq] at h
    exact ⟨by simp, h.2⟩
theorem wordB_at {s : List UInt8} (h : wordB s = true) {i : Nat} {c : UInt8} (hi : s[i]? = some c) : (97 ≤ c.toNat ∧ c.toNat ≤ 122) ∨ (i ≠ 0 ∧ (c.toNat = 45 ∨ (48 ≤ c.toNat ∧ c.toNat ≤ 57))) := by
  unfold wordB at h
  split at h
  · cases h
  · rename_i d l
    simp only [Bool.and_eq_true, decide_eq_true_eq, List.all_eq_true, letB, Bool.or_eq_true] at h
    obtain ⟨⟨h1, h2⟩, _⟩ := h
    match i, hi with
    | 0, hi => simp at hi; subst hi; exact .inl h1
    | i + 1, hi =>
      simp at hi
      rcases h2 c (List.mem_of_getElem? hi) with h | h
      · exact .inl h
      · exact .inr ⟨by omega, h⟩
set_option maxHeartbeats 2000000 in
theorem word0 {u : PH} {s : List UInt8} (h : wordB s = true) : Fn0 Tryz.prog 131 [.string (mkS s)] u fun v _ => v = .bool true := by
  obtain ⟨hl1, hl2⟩ := wordB_len h
  refine Fn0.of Tryz.func131 (by kernel_rfl) (by kernel_rfl) ?_
  refine G.convSB (some .string) 5 s (by kernel_rfl) (by kernel_rfl) (by kernel_rfl) ?_
  intro v1 u1 l1 hb
  obtain ⟨a, c, rfl⟩ := ListP.opn hb
  rw [bytesV_length] at hb ⊢
  refine G.loop (ι := Nat) (fun i => [(0, .v (.string (mkS s))), (7, .v (.slice a s.length c)), (8, .v (.int .i64 (s.length : Int))), (9, .v (.int .i64 (i : Int)))]) (fun _ => [])
    (fun i u' m' => i ≤ s.length ∧ m' = PH.mt) (fun i => s.length - i) 0 (by kernel_rfl) (fun _ => by kernel_rfl) ⟨by kernel_rfl, by kernel_rfl, by kernel_rfl⟩ ⟨by omega, rfl⟩ ?_
  rintro J i hJ u2 m2 l2 ⟨hi, rfl⟩
  by_cases hlt : i < s.length
  · refine G.lssT (i : Int) (s.length : Int) (by kernel_rfl) (by omega) ?_
    have hsi : s[i]? = some s[i] := List.getElem?_eq_getElem hlt
    obtain ⟨b, off, rfl, e⟩ := ListP.at' (hb.mono l2) (j := i) (e := .int .u8 (s[i].toNat : Int)) (by simp [bytesV, hsi])
    have hw := wordB_at h hsi
    generalize s[i].toNat = n at e hw
    refine G.addr b off s.length c i 1 (by kernel_rfl) hlt ?_
    refine G.loadU none b (off + i * 1) (.int .u8 (n : Int)) (by kernel_rfl) (by kernel_rfl) e ?_
    by_cases hle : 97 ≤ n ∧ n ≤ 122
    · refine G.cmpG .geq .u8 (n : Int) 97 true (by kernel_rfl) rfl (by simp [cmpZ]; omega) ?_
      refine G.cmpG .leq .u8 (n : Int) 122 true (by kernel_rfl) rfl (by simp [cmpZ]; omega) ?_
      refine G.add (i : Int) 1 ((i + 1 : Nat) : Int) (by kernel_rfl) (by omega) (by omega) (by omega) ?_
      exact G.back (by kernel_rfl) (hJ (i + 1) _ _ _ ⟨by kernel_rfl, by kernel_rfl, by kernel_rfl⟩ l2 ⟨by omega, rfl⟩ (by omega))
    · obtain ⟨hi0, hd⟩ := hw.resolve_left hle
      by_cases h97 : 97 ≤ n
      · refine G.cmpG .geq .u8 (n : Int) 97 true (by kernel_rfl) rfl (by simp [cmpZ]; omega) ?_
        refine G.cmpG .leq .u8 (n : Int) 122 false (by kernel_rfl) rfl (by simp [cmpZ]; omega) ?_
        refine G.eqlF (i : Int) 0 (by kernel_rfl) (by omega) ?_
        by_cases h45 : n = 45
        · refine G.cmpG .neq .u8 (n : Int) 45 false (by kernel_rfl) rfl (by simp [cmpZ]; omega) ?_
          refine G.add (i : Int) 1 ((i + 1 : Nat) : Int) (by kernel_rfl) (by omega) (by omega) (by omega) ?_
          exact G.back (by kernel_rfl) (hJ (i + 1) _ _ _ ⟨by kernel_rfl, by kernel_rfl, by kernel_rfl⟩ l2 ⟨by omega, rfl⟩ (by omega))
        · refine G.cmpG .neq .u8 (n : Int) 45 true (by kernel_rfl) rfl (by simp [cmpZ]; omega) ?_
          refine G.cmpG .lss .u8 (n : Int) 48 false (by kernel_rfl) rfl (by simp [cmpZ]; omega) ?_
          refine G.cmpG .gtr .u8 (n : Int) 57 false (by kernel_rfl) rfl (by simp [cmpZ]; omega) ?_
          refine G.add (i : Int) 1 ((i + 1 : Nat) : Int) (by kernel_rfl) (by omega) (by omega) (by omega) ?_
          exact G.back (by kernel_rfl) (hJ (i + 1) _ _ _ ⟨by kernel_rfl, by kernel_rfl, by kernel_rfl⟩ l2 ⟨by omega, rfl⟩ (by omega))
      · refine G.cmpG .geq .u8 (n : Int) 97 false (by kernel_rfl) rfl (by simp [cmpZ]; omega) ?_
        refine G.eqlF (i : Int) 0 (by kernel_rfl) (by omega) ?_
        by_cases h45 : n = 45
        · refine G.cmpG .neq .u8 (n : Int) 45 false (by kernel_rfl) rfl (by simp [cmpZ]; omega) ?_
          refine G.add (i : Int) 1 ((i + 1 : Nat) : Int) (by kernel_rfl) (by omega) (by omega) (by omega) ?_
          exact G.back (by kernel_rfl) (hJ (i + 1) _ _ _ ⟨by kernel_rfl, by kernel_rfl, by kernel_rfl⟩ l2 ⟨by omega, rfl⟩ (by omega))
        · refine G.cmpG .neq .u8 (n : Int) 45 true (by kernel_rfl) rfl (by simp [cmpZ]; omega) ?_
          refine G.cmpG .lss .u8 (n : Int) 48 false (by kernel_rfl) rfl (by simp [cmpZ]; omega) ?_
          refine G.cmpG .gtr .u8 (n : Int) 57 false (by kernel_rfl) rfl (by simp [cmpZ]; omega) ?_
          refine G.add (i : Int) 1 ((i + 1 : Nat) : Int) (by kernel_rfl) (by omega) (by omega) (by omega) ?_
          exact G.back (by kernel_rfl) (hJ (i + 1) _ _ _ ⟨by kernel_rfl, by kernel_rfl, by kernel_rfl⟩ l2 ⟨by omega, rfl⟩ (by omega))
  · obtain rfl : i = s.length := by omega
    refine G.lssF (s.length : Int) (s.length : Int) (by kernel_rfl) (by omega) ?_
    have hq : ∀ x : Int, x = (s.length : Int) → 1 ≤ x ∧ x ≤ 12 := fun x hx => by omega
    refine G.geqT (s.length : Int) 1 (by kernel_rfl) (by omega) ?_
    refine G.leqT (s.length : Int) 12 (by kernel_rfl) (by omega) ?_
    exact G.ret (.bool true) (by kernel_rfl) ⟨rfl, rfl⟩
end Go.Proofs.YtpdboaedoimahaaGreatDoor
end
section
set_option linter.unusedSectionVars false
set_option linter.unusedVariables false
namespace Go.Proofs.YtpdboaedoimahaaGreatDoor
open Go.RowKit Go.MapKept
section
variable {P : Program}
theorem threeList {A B : Type} {h : A → B} {fs : List A} {x y z : B} (hf : fs.map h = [x, y, z]) : ∃ f g k, fs = [f, g, k] := by
  have h0 := congrArg List.length hf
  simp only [List.length_map, List.length_cons, List.length_nil] at h0
  match fs, h0 with
  | [f, g, k], _ => exact ⟨f, g, k, rfl⟩
theorem run_eq_leaf {t : TypeId} (h : P.underlying t = some .string) (d : Nat) (s : List UInt8) (w : World) : (Op.equalIn (d + 1) t (.string (mkS s)) (.string (mkS s))).run P w = .ok true w := by
  rw [run_equalIn_string w d _ _ _ h, mkS_beq]; simp
theorem run_eq_tm {t tp ti ts tr : TypeId} {k : IntKind} (hf : (P.fieldsOf t).toList.map fldOf = [(true, tp, 0), (true, tr, 2)]) (ht : P.underlying t = some (.struct (P.fieldsOf t))) (hp : P.stoodInHeld t = false)
    (hf' : (P.fieldsOf tp).toList.map fldOf = [(true, ti, 0), (true, ts, 1)]) (ht' : P.underlying tp = some (.struct (P.fieldsOf tp))) (hp' : P.stoodInHeld tp = false) (hsz : szB P tp = some 2) (hi : P.underlying ti = some (.int k)) (hs : P.underlying ts = some .string) (hr : P.underlying tr = some .string) (d : Nat) (x : Par × Rat) (w : World) :
    (Op.equalIn (d + 3) t (termV x) (termV x)).run P w = .ok true w := by
  have hag : aggB P tp = some true := by unfold aggB; rw [ht']
  unfold termV
  rw [run_equalIn_struct w (d + 2) t _ _ ht hp]
  generalize (P.fieldsOf t).toList = fs at hf
  obtain ⟨f, g, hfs⟩ := twoList hf
  subst hfs
  simp only [List.map_cons, List.map_nil, List.cons.injEq, fldOf, Prod.mk.injEq, bne_iff_ne, ne_eq, and_true] at hf
  obtain ⟨⟨n1, e1, o1⟩, n2, e2, o2⟩ := hf
  obtain ⟨⟨a1, a2⟩, a3⟩ := x
  simp only [Op.eqFields, ne_eq, n1, n2, not_false_eq_true, if_true, Sem.run_bind, e1, e2, o1, o2]
  rw [run_partN hag hsz, Result.andThen_ok, run_partN hag hsz, Result.andThen_ok]
  have q1 := run_eq_par hf' ht' hp' hi hs d (a1, a2) (a1, a2) w
  unfold parV at q1
  have x1 : (#[Value.int .i64 a1, .string (mkS a2), .string (mkS (ratT a3))].extract 0 (0 + 2)) = #[.int .i64 a1, .string (mkS a2)] := rfl
  simp only [x1, q1, Result.andThen_ok, decide_true, Bool.not_true, Bool.false_eq_true, if_false, Sem.run_bind]
  rw [run_part1 (und_of_str hr) (v := .string (mkS (ratT a3))) rfl, Result.andThen_ok, run_part1 (und_of_str hr) (v := .string (mkS (ratT a3))) rfl, Result.andThen_ok, run_eq_leaf hr]
  simp
theorem run_eq_pt {t tp ti ts tr : TypeId} {k : IntKind} (hf : (P.fieldsOf t).toList.map fldOf = [(true, tp, 0), (true, tp, 2), (true, tr, 4)]) (ht : P.underlying t = some (.struct (P.fieldsOf t))) (hp : P.stoodInHeld t = false)
    (hf' : (P.fieldsOf tp).toList.map fldOf = [(true, ti, 0), (true, ts, 1)]) (ht' : P.underlying tp = some (.struct (P.fieldsOf tp))) (hp' : P.stoodInHeld tp = false) (hsz : szB P tp = some 2) (hi : P.underlying ti = some (.int k)) (hs : P.underlying ts = some .string) (hr : P.underlying tr = some .string) (d : Nat) (x : (Par × Par) × Rat) (w : World) :
    (Op.equalIn (d + 3) t (prtV x) (prtV x)).run P w = .ok true w := by
  have hag : aggB P tp = some true := by unfold aggB; rw [ht']
  unfold prtV
  rw [run_equalIn_struct w (d + 2) t _ _ ht hp]
  generalize (P.fieldsOf t).toList = fs at hf
  obtain ⟨f, g, g', hfs⟩ := threeList hf
  subst hfs
  simp only [List.map_cons, List.map_nil, List.cons.injEq, fldOf, Prod.mk.injEq, bne_iff_ne, ne_eq, and_true] at hf
  obtain ⟨⟨n1, e1, o1⟩, ⟨n2, e2, o2⟩, n3, e3, o3⟩ := hf
  obtain ⟨⟨⟨a1, a2⟩, ⟨b1, b2⟩⟩, a3⟩ := x
  simp only [Op.eqFields, ne_eq, n1, n2, n3, not_false_eq_true, if_true, Sem.run_bind, e1, e2, e3, o1, o2, o3]
  rw [run_partN hag hsz, Result.andThen_ok, run_partN hag hsz, Result.andThen_ok]
  have q1 := run_eq_par hf' ht' hp' hi hs d (a1, a2) (a1, a2) w
  have q2 := run_eq_par hf' ht' hp' hi hs d (b1, b2) (b1, b2) w
  unfold parV at q1 q2
  have x1 : (#[Value.int .i64 a1, .string (mkS a2), .int .i64 b1, .string (mkS b2), .string (mkS (ratT a3))].extract 0 (0 + 2)) = #[.int .i64 a1, .string (mkS a2)] := rfl
  have x2 : (#[Value.int .i64 a1, .string (mkS a2), .int .i64 b1, .string (mkS b2), .string (mkS (ratT a3))].extract 2 (2 + 2)) = #[.int .i64 b1, .string (mkS b2)] := rfl
  simp only [x1, q1, Result.andThen_ok, decide_true, Bool.not_true, Bool.false_eq_true, if_false, Sem.run_bind]
  rw [run_partN hag hsz, Result.andThen_ok, run_partN hag hsz, Result.andThen_ok]
  simp only [x2, q2, Result.andThen_ok, decide_true, Bool.not_true, Bool.false_eq_true, if_false, Sem.run_bind]
  rw [run_part1 (und_of_str hr) (v := .string (mkS (ratT a3))) rfl, Result.andThen_ok, run_part1 (und_of_str hr) (v := .string (mkS (ratT a3))) rfl, Result.andThen_ok, run_eq_leaf hr]
  simp
end
theorem eqTerm (x : Par × Rat) (w : World) : (Op.equal 57 (termV x) (termV x)).run Tryz.prog w = .ok true w :=
  run_eq_tm (P := Tryz.prog) (t := 57) (tp := 55) (ti := 3) (ts := 9) (tr := 34) (k := .i64) (by kernel_rfl) (by kernel_rfl) (by kernel_rfl) (by kernel_rfl) (by kernel_rfl) (by kernel_rfl) (by kernel_rfl) (by kernel_rfl) (by kernel_rfl) (by kernel_rfl) 9997 x w
theorem eqPairT (x : (Par × Par) × Rat) (w : World) : (Op.equal 119 (prtV x) (prtV x)).run Tryz.prog w = .ok true w :=
  run_eq_pt (P := Tryz.prog) (t := 119) (tp := 55) (ti := 3) (ts := 9) (tr := 34) (k := .i64) (by kernel_rfl) (by kernel_rfl) (by kernel_rfl) (by kernel_rfl) (by kernel_rfl) (by kernel_rfl) (by kernel_rfl) (by kernel_rfl) (by kernel_rfl) (by kernel_rfl) 9997 x w
def RngP (u : PH) (v : Value) (F : CF) (K : Nat) : Prop := ∃ r, v = .tuple #[r, .int .i64 0] ∧ CofP u r F K
theorem CofP.opn {u : PH} {v : Value} {F : CF} {K : Nat} (h : CofP u v F K) : ∃ a1 n1 c1 a2 n2 c2, v = .agg #[.string (mkS (ratT F.c)), .slice a1 n1 c1, .slice a2 n2 c2] := by
  obtain ⟨T, Q, a1, c1, a2, c2, rfl, _⟩ := h
  exact ⟨_, _, _, _, _, _, rfl⟩
theorem momP_opn {u : PH} {v : Value} {F : CF} {N : Nat} (h : MomP u v F N) : ∃ b a n c b' a' n' c' g1 g2, v = .agg #[.bool b, .slice a n c, .bool b', .slice a' n' c', .map (some g1), .map (some g2)] := by
  obtain ⟨b, a, n, c, b', a', n', c', g1, g2, o1, o2, e, _⟩ := h
  exact ⟨_, _, _, _, _, _, _, _, _, _, e⟩
theorem mulP0 {u : PH} {F H : CF} {N M : Nat} {v w : Value} (hv : MomP u v F N) (hw : MomP u w H M) (ok : MulOK F H) : Fn0 Tryz.prog 48 [v, w] u fun v' u' => MomP u' v' (F.mul H) (M + N + N * M) :=
  Fn0.weak (Contract.giveAll (mulM0 hv hw ok)) fun v u' ⟨u1, m1, l1, l2, h⟩ => h.give l1 l2
def CF.num (k : Rat) : CF := ⟨k, fun _ => 0, fun _ => 0⟩
theorem cofP_num (u : PH) (k : Rat) : CofP u (.agg #[.string (mkS (ratT k)), .slice none 0 0, .slice none 0 0]) (CF.num k) 0 :=
  ⟨[], [], none, 0, none, 0, rfl, ListP.nil _ _ _ _, ListP.nil _ _ _ _, ⟨List.Pairwise.nil, fun p hp => by simp at hp, fun _ _ => rfl⟩, ⟨List.Pairwise.nil, fun p hp => by simp at hp, fun _ _ => rfl⟩, Nat.le_refl _, Nat.le_refl _⟩
end Go.Proofs.YtpdboaedoimahaaGreatDoor
end
section
set_option linter.unusedSectionVars false
set_option linter.unusedVariables false
namespace Go.Proofs.YtpdboaedoimahaaGreatDoor
open Go.RowKit Go.MapKept
section rules
variable [Flag] {P : Program} [Mixed P] {fn : Func} {Post : Spec} {st : List KI × S} {u m : PH}
def FnK (P : Program) (f : FuncId) (args : List Value) (u m : PH) (R : Value → PH → Prop) : Prop := Contract P f args u m fun v u' m' => m' = m ∧ R v u'
theorem FnK.of {R : Value → PH → Prop} {f : FuncId} {args : List Value} (hf : P.funcs[f]? = some fn) (hb : fn.body.isSome = true) (hn : Nat.ble args.length fn.ntmps = true) (h : G P fn ⟨fun v u' m' => m' = m ∧ R v u', m⟩ (st0 fn args) u m) : FnK P f args u m R := Contract.of hf hb hn h
theorem G.callK (f : Nat) (args : List Value) {R : Value → PH → Prop} (h : stopV P (adv P st) = .call f args) (hc : ∀ args w, (callFunc f args).run P w = .ok (.enter f args) w) (c : FnK P f args u m R)
    (k : ∀ v u', PH.le u u' → R v u' → G P fn Post (nx (adv P st) v) u' m) : G P fn Post st u m := by
  refine G.big (K := fun v u' m' => m' = m ∧ R v u') h (by simp) view_call_free (.inl fun v u' m' hK => by rw [hK.1]; exact fun g o hg => hg) (fun env o hview w hgd => ?_) (fun v u' m' h1 h2 => ?_)
  · refine does_call hview hc w _ (Calls.mono (c w hgd) fun e w' he => ?_)
    obtain ⟨v, u', m', e1, e2, e3, e4⟩ := he
    exact ⟨v, e1, u', m', e2, e3, e4⟩
  · obtain ⟨rfl, hR⟩ := h2; exact k v u' h1 hR
end rules
section
theorem sIndex0 {u m : PH} {b n c : Nat} {x : List UInt8} (L : List (List UInt8)) (hn : n ≤ L.length) (hl : n ≤ 1000000) (hE : ∀ j s, L[j]? = some s → ElP m b (0 + j * 1) (.string (mkS s))) (hx : ∀ j s, j < n → L[j]? = some s → s ≠ x) :
    FnK Tryz.prog 208 [.slice (some ⟨b, 0, none⟩) n c, .string (mkS x)] u m fun v _ => v = .int .i64 (-1) := by
  refine FnK.of Tryz.func208 (by kernel_rfl) (by kernel_rfl) ?_
  refine G.loop (ι := Nat) (fun i => [(0, .v (.slice (some ⟨b, 0, none⟩) n c)), (1, .v (.string (mkS x))), (7, .v (.int .i64 (n : Int))), (8, .v (.int .i64 (i : Int)))]) (fun _ => [])
    (fun i u' m' => i ≤ n ∧ m' = m) (fun i => n - i) 0 (by kernel_rfl) (fun _ => by kernel_rfl) ⟨by kernel_rfl, by kernel_rfl, by kernel_rfl⟩ ⟨by omega, rfl⟩ ?_
  rintro J i hJ u1 m1 l1 ⟨hi, rfl⟩
  by_cases hlt : i < n
  · refine G.lssT (i : Int) (n : Int) (by kernel_rfl) (by omega) ?_
    have hTi : L[i]? = some L[i] := List.getElem?_eq_getElem (by omega)
    refine G.addr b 0 n c i 1 (by kernel_rfl) hlt ?_
    refine G.loadM none b (0 + i * 1) (.string (mkS L[i])) (by kernel_rfl) (by kernel_rfl) (hE i _ hTi) ?_
    refine G.eqSF x L[i] (by kernel_rfl) (fun e => hx i _ hlt hTi e.symm) ?_
    refine G.add (i : Int) 1 ((i + 1 : Nat) : Int) (by kernel_rfl) (by omega) (by omega) (by omega) ?_
    exact G.back (by kernel_rfl) (hJ (i + 1) _ _ _ ⟨by kernel_rfl, by kernel_rfl, by kernel_rfl⟩ l1 ⟨by omega, rfl⟩ (by omega))
  · obtain rfl : i = n := by omega
    refine G.lssF (i : Int) (i : Int) (by kernel_rfl) (by omega) ?_
    exact G.ret (.int .i64 (-1)) (by kernel_rfl) ⟨rfl, rfl⟩
theorem sContains0 {u m : PH} {b n c : Nat} {x : List UInt8} (L : List (List UInt8)) (hn : n ≤ L.length) (hl : n ≤ 1000000) (hE : ∀ j s, L[j]? = some s → ElP m b (0 + j * 1) (.string (mkS s))) (hx : ∀ j s, j < n → L[j]? = some s → s ≠ x) :
    FnK Tryz.prog 173 [.slice (some ⟨b, 0, none⟩) n c, .string (mkS x)] u m fun v _ => v = .bool false := by
  refine FnK.of Tryz.func173 (by kernel_rfl) (by kernel_rfl) ?_
  refine G.callK _ _ (by kernel_rfl) Tryz.call208 (sIndex0 (c := c) L hn hl hE hx) ?_
  rintro v1 u1 l1 rfl
  refine G.geqF (-1) 0 (by kernel_rfl) (by omega) ?_
  exact G.ret (.bool false) (by kernel_rfl) ⟨rfl, rfl⟩
structure Names (L : List (List UInt8)) : Prop where
  word : ∀ s ∈ L, wordB s = true
  nodup : L.Nodup
theorem named0 {u m : PH} {b k c : Nat} {x : List UInt8} {L : List (List UInt8)} (h : Names L) (hl : L.length ≤ 1000) (hc : L.length ≤ c) (hk : L[k]? = some x) (hE : ∀ j s, L[j]? = some s → ElP m b (0 + j * 1) (.string (mkS s))) :
    FnK Tryz.prog 121 [.slice (some ⟨b, 0, none⟩) L.length c, .int .i64 (k : Int)] u m fun v _ => v = .int .i64 0 := by
  obtain ⟨hkl, hkx⟩ := List.getElem?_eq_some_iff.1 hk
  refine FnK.of Tryz.func121 (by kernel_rfl) (by kernel_rfl) ?_
  refine G.addr b 0 L.length c k 1 (by kernel_rfl) hkl ?_
  refine G.loadM none b (0 + k * 1) (.string (mkS x)) (by kernel_rfl) (by kernel_rfl) (hE k x hk) ?_
  refine G.call0 _ _ (by kernel_rfl) Tryz.call131 (word0 (h.word x (List.mem_of_getElem? hk))) ?_
  rintro v1 u1 l1 rfl
  refine G.sliceTo 1 (some ⟨b, 0, none⟩) L.length c k (by kernel_rfl) (by omega) ?_
  refine G.addr b 0 L.length c k 1 (by kernel_rfl) hkl ?_
  refine G.loadM none b (0 + k * 1) (.string (mkS x)) (by kernel_rfl) (by kernel_rfl) (hE k x hk) ?_
  refine G.callK _ _ (by kernel_rfl) Tryz.call173 (sContains0 (n := k) (c := c) (x := x) L (by omega) (by omega) hE fun j s hj hs e => ?_) ?_
  · obtain ⟨hjl, hjx⟩ := List.getElem?_eq_some_iff.1 hs
    have := (List.getElem_inj (h₀ := hjl) (h₁ := hkl) h.nodup).1 (by rw [hjx, hkx, e])
    omega
  rintro v2 u2 l2 rfl
  exact G.ret (.int .i64 0) (by kernel_rfl) ⟨rfl, rfl⟩
def attV (a : List UInt8 × Nat) : Value := .agg #[.string (mkS a.1), .int .i64 (a.2 : Int)]
def nmV (s : List UInt8) : Value := .string (mkS s)
theorem nmV_ok (L : List (List UInt8)) : ElsOK 1 (L.map nmV) := by
  intro e he
  obtain ⟨s, _, rfl⟩ := List.mem_map.1 he
  exact ⟨rfl, List.all_eq_true.1 rfl⟩
end
end Go.Proofs.YtpdboaedoimahaaGreatDoor
end
section
set_option linter.unusedSectionVars false
set_option linter.unusedVariables false
namespace Go.Proofs.YtpdboaedoimahaaGreatDoor
open Go.RowKit Go.MapKept
structure AttOK (T : List (List UInt8 × Nat)) : Prop where
  names : Names (T.map (·.1))
  kind : ∀ a ∈ T, 1 ≤ a.2 ∧ a.2 ≤ 3
theorem Names.take {L : List (List UInt8)} (h : Names L) (k : Nat) : Names (L.take k) := ⟨fun s hs => h.word s (List.mem_of_mem_take hs), h.nodup.sublist (List.take_sublist _ _)⟩
theorem getElem?_snoc_last {α : Type} (l : List α) (x : α) : (l ++ [x])[l.length]? = some x := by simp
set_option maxHeartbeats 1000000 in
theorem attributes0 {u : PH} {v w x y : Value} {T : List (List UInt8 × Nat)} (h : ListP u v 2 (T.map attV)) (ok : AttOK T) (hl : T.length ≤ 1000) (hw : ∃ a n c, w = .slice a n c) (hx : ∃ a n c, x = .slice a n c) (hy : ∃ z : Int, y = .int .i64 z) :
    Fn0 Tryz.prog 63 [.agg #[v, w, x, y]] u fun r _ => r = .int .i64 0 := by
  obtain ⟨a, c, rfl⟩ := h.opn
  obtain ⟨wa, wn, wc, rfl⟩ := hw
  obtain ⟨xa, xn, xc, rfl⟩ := hx
  obtain ⟨z, rfl⟩ := hy
  rw [List.length_map] at h ⊢
  refine Fn0.of Tryz.func63 (by kernel_rfl) (by kernel_rfl) ?_
  refine G.loop (ι := Nat × (Option Addr × Nat × Nat)) (fun i => [(3, .v (.slice i.2.1 i.2.2.1 i.2.2.2)), (8, .v (.slice a T.length c)), (9, .v (.int .i64 (T.length : Int))), (10, .v (.int .i64 (i.1 : Int)))]) (fun _ => [])
    (fun i u' m' => i.1 ≤ T.length ∧ ArrAt PH.mt m' (.slice i.2.1 i.2.2.1 i.2.2.2) 9 1 (((T.map (·.1)).take i.1).map nmV)) (fun i => T.length - i.1) (0, (none, 0, 0)) (by kernel_rfl) (fun _ => by kernel_rfl) ⟨by kernel_rfl, by kernel_rfl, by kernel_rfl⟩ ⟨by simp, ArrAt.nil _ _ _⟩ ?_
  rintro J ⟨i, na, nn, nc⟩ hJ u1 m1 l1 ⟨hi, hA⟩
  simp only at hi hA hJ
  by_cases hlt : i < T.length
  · refine G.lssT (i : Int) (T.length : Int) (by kernel_rfl) (by omega) ?_
    have hTi : T[i]? = some T[i] := List.getElem?_eq_getElem hlt
    have hki := ok.kind T[i] (List.getElem_mem hlt)
    have htk : ((T.map (·.1)).take (i + 1)) = (T.map (·.1)).take i ++ [T[i].1] := by
      rw [List.take_add_one, List.getElem?_map, hTi]; rfl
    have hnames := ok.names.take (i + 1)
    rw [htk] at hnames
    have hlen : ((T.map (·.1)).take i).length = i := by simp; omega
    generalize hL : (T.map (·.1)).take i = L at hA htk hnames hlen
    obtain ⟨ba, oa, rfl, ea⟩ := ListP.at' (h.mono l1) (j := i) (e := attV T[i]) (by simp [hTi])
    generalize T[i] = q at ea hki htk hnames
    refine G.addr ba oa T.length c i 2 (by kernel_rfl) hlt ?_
    refine G.loadU (some 2) ba (oa + i * 2) (.agg #[.string (mkS q.1), .int .i64 (q.2 : Int)]) (by kernel_rfl) (by kernel_rfl) ea ?_
    refine G.buildU 9 1 16 (.string (mkS [])) [.string (mkS q.1)] (by kernel_rfl) (nmV_ok [q.1]) rfl (by omega) (by simp) (by simp) ?_
    intro g2 u2 l2 e2
    refine G.append 9 1 16 (.string (mkS [])) PH.mt (L.map nmV) [.string (mkS q.1)] (.slice na nn nc) g2 0 1 1 (by kernel_rfl) rfl rfl (by omega) hA e2 (nmV_ok [q.1]) rfl (by omega) (by simp; omega) (by simp; omega) ?_
    intro v3 m3 hA3
    rw [show L.map nmV ++ [.string (mkS q.1)] = (L ++ [q.1]).map nmV by rw [List.map_append]; rfl] at hA3
    obtain ⟨b3, c3, rfl⟩ := hA3.ptr (by simp)
    have hcap := hA3.cap
    rw [List.length_map] at hA3 hcap ⊢
    refine G.callK _ _ (by kernel_rfl) Tryz.call121 (named0 (b := b3) (k := i) (c := c3) (x := q.1) (L := L ++ [q.1]) hnames (by simp; omega) hcap (by rw [← hlen]; exact getElem?_snoc_last L q.1) fun j s hs => hA3.el (by rw [List.getElem?_map, hs]; rfl)) ?_
    rintro v4 u4 l4 rfl
    refine G.neqF 0 0 (by kernel_rfl) (by omega) ?_
    refine G.lssF (q.2 : Int) 1 (by kernel_rfl) (by omega) ?_
    refine G.gtrF (q.2 : Int) 3 (by kernel_rfl) (by omega) ?_
    refine G.add (i : Int) 1 ((i + 1 : Nat) : Int) (by kernel_rfl) (by omega) (by omega) (by omega) ?_
    exact G.back (by kernel_rfl) (hJ (i + 1, (some ⟨b3, 0, none⟩, (L ++ [q.1]).length, c3)) _ _ _ ⟨by kernel_rfl, by kernel_rfl, by kernel_rfl⟩ ((l1.trans l2).trans l4) ⟨by dsimp only; omega, by dsimp only; rw [htk]; exact hA3⟩ (by dsimp only; omega))
  · obtain rfl : i = T.length := by omega
    refine G.lssF (T.length : Int) (T.length : Int) (by kernel_rfl) (by omega) ?_
    refine G.pastI ?_
    refine G.drop PH.mt (by kernel_rfl) (PH.mt_le _) ?_
    exact G.ret (.int .i64 0) (by kernel_rfl) ⟨rfl, rfl⟩
end Go.Proofs.YtpdboaedoimahaaGreatDoor
end
section
set_option linter.unusedSectionVars false
set_option linter.unusedVariables false
namespace Go.Proofs.YtpdboaedoimahaaGreatDoor
open Go.RowKit Go.MapKept
abbrev Feat : Type := Nat × Nat × Nat
def featV (f : Feat) : Value := .agg #[.int .i64 (f.1 : Int), .int .i64 (f.2.1 : Int), .int .i64 (f.2.2 : Int)]
def idxF {α : Type} (p : α → Bool) (T : List α) : Int := match T.findIdx? p with | some k => (k : Int) | none => -1
theorem idxF_at {α : Type} {p : α → Bool} {T : List α} {i : Nat} (hi : i < T.length) (h : p T[i] = true) (h0 : ∀ j (hj : j < i), p (T[j]'(by omega)) = false) : idxF p T = (i : Int) := by
  have : T.findIdx? p = some i := List.findIdx?_eq_some_iff_getElem.2 ⟨hi, h, fun j hj => by simp [h0 j hj]⟩
  unfold idxF; rw [this]
theorem idxF_no {α : Type} {p : α → Bool} {T : List α} (h0 : ∀ x ∈ T, p x = false) : idxF p T = -1 := by
  have : T.findIdx? p = none := List.findIdx?_eq_none_iff.2 h0
  unfold idxF; rw [this]
theorem fIndex0 {u m : PH} {v cap : Value} {T : List Feat} {fid : Nat} (p : Feat → Bool) (h : ListP u v 3 (T.map featV)) (hl : T.length ≤ 1000000)
    (hcall : ∀ args w, (callFunc fid args).run Tryz.prog w = .ok (.enter fid args) w) (hf : ∀ f ∈ T, ∀ u', PH.le u u' → FnK Tryz.prog fid [featV f, cap] u' m fun v _ => v = .bool (p f)) :
    FnK Tryz.prog 83 [v, .func (.func fid) #[] #[cap]] u m fun v' _ => v' = .int .i64 (idxF p T) := by
  obtain ⟨a, c, rfl⟩ := h.opn
  rw [List.length_map] at h ⊢
  refine FnK.of Tryz.func83 (by kernel_rfl) (by kernel_rfl) ?_
  refine G.loop (ι := Nat) (fun i => [(0, .v (.slice a T.length c)), (1, .v (.func (.func fid) #[] #[cap])), (7, .v (.int .i64 (T.length : Int))), (8, .v (.int .i64 (i : Int)))]) (fun _ => [])
    (fun i u' m' => i ≤ T.length ∧ (∀ j (hj : j < T.length), j < i → p (T[j]'hj) = false) ∧ m' = m) (fun i => T.length - i) 0 (by kernel_rfl) (fun _ => by kernel_rfl) ⟨by kernel_rfl, by kernel_rfl, by kernel_rfl⟩ ⟨by omega, fun j hj h => by omega, rfl⟩ ?_
  rintro J i hJ u1 m1 l1 ⟨hi, h0, rfl⟩
  by_cases hlt : i < T.length
  · refine G.lssT (i : Int) (T.length : Int) (by kernel_rfl) (by omega) ?_
    have hTi : T[i]? = some T[i] := List.getElem?_eq_getElem hlt
    obtain ⟨ba, oa, rfl, ea⟩ := ListP.at' (h.mono l1) (j := i) (e := featV T[i]) (by simp [hTi])
    refine G.addr ba oa T.length c i 3 (by kernel_rfl) (by omega) ?_
    refine G.loadU (some 3) ba (oa + i * 3) (featV T[i]) (by kernel_rfl) (by kernel_rfl) ea ?_
    refine G.callK fid [featV T[i], cap] (by kernel_rfl) hcall (hf T[i] (List.getElem_mem hlt) u1 l1) ?_
    rintro v2 u2 l2 rfl
    cases hp : p T[i] with
    | true =>
      rw [idxF_at hlt hp fun j hj => h0 j (by omega) hj]
      exact G.ret (.int .i64 (i : Int)) (by kernel_rfl) ⟨rfl, rfl⟩
    | false =>
      refine G.add (i : Int) 1 ((i + 1 : Nat) : Int) (by kernel_rfl) (by omega) (by omega) (by omega) ?_
      exact G.back (by kernel_rfl) (hJ (i + 1) _ _ _ ⟨by kernel_rfl, by kernel_rfl, by kernel_rfl⟩ (l1.trans l2) ⟨by omega, fun j hj h => by
        rcases (by omega : j < i ∨ j = i) with e | rfl
        · exact h0 j hj e
        · exact hp, rfl⟩ (by omega))
  · obtain rfl : i = T.length := by omega
    refine G.lssF (T.length : Int) (T.length : Int) (by kernel_rfl) (by omega) ?_
    rw [idxF_no fun x hx => by obtain ⟨j, hj, rfl⟩ := List.getElem_of_mem hx; exact h0 j hj hj]
    exact G.ret (.int .i64 (-1)) (by kernel_rfl) ⟨rfl, rfl⟩
theorem fContainsNo0 {u m : PH} {v cap : Value} {T : List Feat} {fid : Nat} (h : ListP u v 3 (T.map featV)) (hl : T.length ≤ 1000000)
    (hcall : ∀ args w, (callFunc fid args).run Tryz.prog w = .ok (.enter fid args) w) (hf : ∀ f ∈ T, ∀ u', PH.le u u' → FnK Tryz.prog fid [featV f, cap] u' m fun v _ => v = .bool false) :
    FnK Tryz.prog 40 [v, .func (.func fid) #[] #[cap]] u m fun v' _ => v' = .bool false := by
  obtain ⟨a, c, rfl⟩ := h.opn
  refine FnK.of Tryz.func40 (by kernel_rfl) (by kernel_rfl) ?_
  refine G.callK _ _ (by kernel_rfl) Tryz.call83 (fIndex0 (cap := cap) (fun _ => false) h hl hcall hf) ?_
  rintro v1 u1 l1 rfl
  rw [idxF_no fun x _ => rfl]
  refine G.geqF (-1) 0 (by kernel_rfl) (by omega) ?_
  exact G.ret (.bool false) (by kernel_rfl) ⟨rfl, rfl⟩
theorem sameAtt0 {u m : PH} {f g : Feat} {b : Nat} (hb : ElP m b 0 (featV g)) (hne : f.1 ≠ g.1) : FnK Tryz.prog 123 [featV f, .pointer (some ⟨b, 0, none⟩)] u m fun v _ => v = .bool false := by
  refine FnK.of Tryz.func123 (by kernel_rfl) (by kernel_rfl) ?_
  refine G.fieldA 64 b 0 0 0 (by kernel_rfl) (by kernel_rfl) ?_
  refine G.loadM none b (0 + 0) (.int .i64 (g.1 : Int)) (by kernel_rfl) (by kernel_rfl) (fun i x hx => ?_) ?_
  · have : i = 0 ∧ x = .int .i64 (g.1 : Int) := by
      match i, hx with
      | 0, hx => exact ⟨rfl, by simpa [Value.cells] using hx.symm⟩
      | i + 1, hx => simp [Value.cells] at hx
    obtain ⟨rfl, rfl⟩ := this
    exact hb 0 _ rfl
  refine G.eqlF (f.1 : Int) (g.1 : Int) (by kernel_rfl) (by omega) ?_
  exact G.ret (.bool false) (by kernel_rfl) ⟨rfl, rfl⟩
structure FeatOK (T : List (List UInt8 × Nat)) (F : List Feat) (lab : Int) : Prop where
  ok : ∀ f ∈ F, ∃ n k, T[f.1]? = some (n, k) ∧ ((f.2.1 = 1 ∧ k = 2 ∧ f.2.2 ≤ 1) ∨ (f.2.1 = 2 ∧ k = 3 ∧ f.2.2 = 0)) ∧ (f.1 : Int) ≠ lab
  nodup : (F.map (·.1)).Nodup
end Go.Proofs.YtpdboaedoimahaaGreatDoor
end
section
set_option linter.unusedSectionVars false
set_option linter.unusedVariables false
namespace Go.Proofs.YtpdboaedoimahaaGreatDoor
open Go.RowKit Go.MapKept
theorem ListP.cap {u : PH} {a : Option Addr} {n c sz : Nat} {es : List Value} (h : ListP u (.slice a n c) sz es) : es.length ≤ c := by
  obtain ⟨_, _, e, hc, _⟩ := h
  cases e; exact hc
theorem elP_att2 {u : PH} {b off : Nat} {q : List UInt8 × Nat} (h : ElP u b off (attV q)) : ElP u b (off + 1) (.int .i64 (q.2 : Int)) := fun i x hx => by
  match i, hx with
  | 0, hx =>
    have : x = .int .i64 (q.2 : Int) := by simpa [Value.cells] using hx.symm
    subst this
    exact h 1 _ rfl
  | i + 1, hx => simp [Value.cells] at hx
theorem elP_upd {m : PH} {b : Nat} {t : TypeId} {xs : List Value} {e : Value} (he : e.cells = xs.toArray) : ElP (m.upd b (.cells xs.toArray t (0, 0))) b 0 e := fun i x hx => by
  refine ⟨_, _, _, upd_same _ _ _, ?_⟩
  rw [he] at hx
  simpa using hx
theorem elP_f0 {m : PH} {b : Nat} {g : Feat} (hb : ElP m b 0 (featV g)) : ElP m b (0 + 0) (.int .i64 (g.1 : Int)) := fun i x hx => by
  match i, hx with
  | 0, hx =>
    have : x = .int .i64 (g.1 : Int) := by simpa [Value.cells] using hx.symm
    subst this
    exact hb 0 _ rfl
  | i + 1, hx => simp [Value.cells] at hx
set_option maxHeartbeats 2000000 in
theorem features0 {u : PH} {v w x : Value} {T : List (List UInt8 × Nat)} {F : List Feat} {lab : Int} (h : ListP u v 2 (T.map attV)) (hF : ListP u x 3 (F.map featV)) (ok : FeatOK T F lab) (hl : T.length ≤ 1000) (hl2 : F.length ≤ 1000) (hw : ∃ a n c, w = .slice a n c) :
    Fn0 Tryz.prog 65 [.agg #[v, w, x, .int .i64 lab]] u fun r _ => r = .int .i64 0 := by
  obtain ⟨a, c, rfl⟩ := h.opn
  obtain ⟨a', c', rfl⟩ := hF.opn
  obtain ⟨wa, wn, wc, rfl⟩ := hw
  have hcap := hF.cap
  rw [List.length_map] at h hF hcap ⊢
  rw [List.length_map]
  refine Fn0.of Tryz.func65 (by kernel_rfl) (by kernel_rfl) ?_
  refine G.loop (ι := Nat) (fun i => [(1, .p 0 0), (9, .v (.slice a' F.length c')), (10, .v (.int .i64 (F.length : Int))), (11, .v (.int .i64 (i : Int)))]) (fun _ => [(0, ⟨30, [.v (.slice a T.length c), .v (.slice wa wn wc), .v (.slice a' F.length c'), .v (.int .i64 lab)]⟩)])
    (fun i u' m' => i ≤ F.length ∧ m' = PH.mt) (fun i => F.length - i) 0 (by kernel_rfl) (fun _ => by kernel_rfl) ⟨by kernel_rfl, by kernel_rfl, by kernel_rfl⟩ ⟨by omega, rfl⟩ ?_
  rintro J i hJ u1 m1 l1 ⟨hi, rfl⟩
  by_cases hlt : i < F.length
  · refine G.lssT (i : Int) (F.length : Int) (by kernel_rfl) (by omega) ?_
    have hTi : F[i]? = some F[i] := List.getElem?_eq_getElem hlt
    obtain ⟨n, k, hk, hkind, hlab⟩ := ok.ok F[i] (List.getElem_mem hlt)
    have hdiff : ∀ f ∈ F.take i, f.1 ≠ (F[i]).1 := by
      intro f hf
      obtain ⟨j, hj, rfl⟩ := List.getElem_of_mem hf
      rw [List.length_take] at hj
      rw [List.getElem_take]
      intro e
      have := (List.getElem_inj (xs := F.map (·.1)) (h₀ := by rw [List.length_map]; omega) (h₁ := by rw [List.length_map]; omega) (i := j) (j := i) ok.nodup).1 (by rw [List.getElem_map, List.getElem_map]; exact e)
      omega
    obtain ⟨ba, oa, rfl, ea⟩ := ListP.at' (hF.mono l1) (j := i) (e := featV F[i]) (by simp [hTi])
    have hTk := (hF.mono l1).take' i (by rw [List.length_map]; omega)
    rw [← List.map_take] at hTk
    have htl : (F.take i).length = i := by rw [List.length_take]; omega
    generalize F[i] = f at ea hk hkind hlab hdiff
    obtain ⟨hkl, hkx⟩ := List.getElem?_eq_some_iff.1 hk
    obtain ⟨bb, ob, rfl, eb⟩ := ListP.at' (h.mono l1) (j := f.1) (e := attV (n, k)) (by simp [hk])
    refine G.addr ba oa F.length c' i 3 (by kernel_rfl) hlt ?_
    refine G.loadU (some 3) ba (oa + i * 3) (.agg #[.int .i64 (f.1 : Int), .int .i64 (f.2.1 : Int), .int .i64 (f.2.2 : Int)]) (by kernel_rfl) (by kernel_rfl) ea ?_
    refine G.lssF (f.1 : Int) 0 (by kernel_rfl) (by omega) ?_
    refine G.geqF (f.1 : Int) (T.length : Int) (by kernel_rfl) (by omega) ?_
    refine G.addr bb ob T.length c f.1 2 (by kernel_rfl) hkl ?_
    refine G.fieldA 61 bb (ob + f.1 * 2) 1 1 (by kernel_rfl) (by kernel_rfl) ?_
    refine G.loadU none bb (ob + f.1 * 2 + 1) (.int .i64 (k : Int)) (by kernel_rfl) (by kernel_rfl) (elP_att2 eb) ?_
    rcases hkind with ⟨k1, k2, k3⟩ | ⟨k1, k2, k3⟩
    · refine G.eqlT (f.2.1 : Int) 1 (by kernel_rfl) (by omega) ?_
      refine G.eqlT (k : Int) 2 (by kernel_rfl) (by omega) ?_
      by_cases k0 : f.2.2 = 0
      · refine G.eqlT (f.2.2 : Int) 0 (by kernel_rfl) (by omega) ?_
        refine G.eqlF (f.2.1 : Int) 2 (by kernel_rfl) (by omega) ?_
        refine G.pastI ?_
        refine G.pub 3003 64 [.int .i64 (f.1 : Int), .int .i64 (f.2.1 : Int), .int .i64 (f.2.2 : Int)] (by kernel_rfl) (by kernel_rfl) ?_
        intro e2 hu2 hm2
        refine G.fieldA 64 e2 0 0 0 (by kernel_rfl) (by kernel_rfl) ?_
        refine G.loadM none e2 (0 + 0) (.int .i64 (f.1 : Int)) (by kernel_rfl) (by kernel_rfl) (elP_f0 (g := f) (elP_upd rfl)) ?_
        refine G.eqlF (f.1 : Int) lab (by kernel_rfl) hlab ?_
        refine G.sliceTo 3 (some ⟨ba, oa, none⟩) F.length c' i (by kernel_rfl) (by omega) ?_
        refine G.callK _ _ (by kernel_rfl) Tryz.call40 (fContainsNo0 hTk (by rw [List.length_take]; omega) Tryz.call123 fun f' hf' u' _ => sameAtt0 (g := f) (elP_upd rfl) (hdiff f' hf')) ?_
        rintro v2 u2 l2 rfl
        refine G.drop PH.mt (by kernel_rfl) (PH.mt_le _) ?_
        refine G.add (i : Int) 1 ((i + 1 : Nat) : Int) (by kernel_rfl) (by omega) (by omega) (by omega) ?_
        exact G.back (by kernel_rfl) (hJ (i + 1) _ _ _ ⟨by kernel_rfl, by kernel_rfl, by kernel_rfl⟩ (l1.trans l2) ⟨by omega, rfl⟩ (by omega))
      · refine G.eqlF (f.2.2 : Int) 0 (by kernel_rfl) (by omega) ?_
        refine G.eqlT (f.2.2 : Int) 1 (by kernel_rfl) (by omega) ?_
        refine G.eqlF (f.2.1 : Int) 2 (by kernel_rfl) (by omega) ?_
        refine G.pastI ?_
        refine G.pub 3003 64 [.int .i64 (f.1 : Int), .int .i64 (f.2.1 : Int), .int .i64 (f.2.2 : Int)] (by kernel_rfl) (by kernel_rfl) ?_
        intro e2 hu2 hm2
        refine G.fieldA 64 e2 0 0 0 (by kernel_rfl) (by kernel_rfl) ?_
        refine G.loadM none e2 (0 + 0) (.int .i64 (f.1 : Int)) (by kernel_rfl) (by kernel_rfl) (elP_f0 (g := f) (elP_upd rfl)) ?_
        refine G.eqlF (f.1 : Int) lab (by kernel_rfl) hlab ?_
        refine G.sliceTo 3 (some ⟨ba, oa, none⟩) F.length c' i (by kernel_rfl) (by omega) ?_
        refine G.callK _ _ (by kernel_rfl) Tryz.call40 (fContainsNo0 hTk (by rw [List.length_take]; omega) Tryz.call123 fun f' hf' u' _ => sameAtt0 (g := f) (elP_upd rfl) (hdiff f' hf')) ?_
        rintro v2 u2 l2 rfl
        refine G.drop PH.mt (by kernel_rfl) (PH.mt_le _) ?_
        refine G.add (i : Int) 1 ((i + 1 : Nat) : Int) (by kernel_rfl) (by omega) (by omega) (by omega) ?_
        exact G.back (by kernel_rfl) (hJ (i + 1) _ _ _ ⟨by kernel_rfl, by kernel_rfl, by kernel_rfl⟩ (l1.trans l2) ⟨by omega, rfl⟩ (by omega))
    · refine G.eqlF (f.2.1 : Int) 1 (by kernel_rfl) (by omega) ?_
      refine G.eqlT (f.2.1 : Int) 2 (by kernel_rfl) (by omega) ?_
      refine G.eqlT (k : Int) 3 (by kernel_rfl) (by omega) ?_
      refine G.eqlT (f.2.2 : Int) 0 (by kernel_rfl) (by omega) ?_
      refine G.pastI ?_
      refine G.pub 3003 64 [.int .i64 (f.1 : Int), .int .i64 (f.2.1 : Int), .int .i64 (f.2.2 : Int)] (by kernel_rfl) (by kernel_rfl) ?_
      intro e2 hu2 hm2
      refine G.fieldA 64 e2 0 0 0 (by kernel_rfl) (by kernel_rfl) ?_
      refine G.loadM none e2 (0 + 0) (.int .i64 (f.1 : Int)) (by kernel_rfl) (by kernel_rfl) (elP_f0 (g := f) (elP_upd rfl)) ?_
      refine G.eqlF (f.1 : Int) lab (by kernel_rfl) hlab ?_
      refine G.sliceTo 3 (some ⟨ba, oa, none⟩) F.length c' i (by kernel_rfl) (by omega) ?_
      refine G.callK _ _ (by kernel_rfl) Tryz.call40 (fContainsNo0 hTk (by rw [List.length_take]; omega) Tryz.call123 fun f' hf' u' _ => sameAtt0 (g := f) (elP_upd rfl) (hdiff f' hf')) ?_
      rintro v2 u2 l2 rfl
      refine G.drop PH.mt (by kernel_rfl) (PH.mt_le _) ?_
      refine G.add (i : Int) 1 ((i + 1 : Nat) : Int) (by kernel_rfl) (by omega) (by omega) (by omega) ?_
      exact G.back (by kernel_rfl) (hJ (i + 1) _ _ _ ⟨by kernel_rfl, by kernel_rfl, by kernel_rfl⟩ (l1.trans l2) ⟨by omega, rfl⟩ (by omega))
  · obtain rfl : i = F.length := by omega
    refine G.lssF (F.length : Int) (F.length : Int) (by kernel_rfl) (by omega) ?_
    exact G.ret (.int .i64 0) (by kernel_rfl) ⟨rfl, rfl⟩
end Go.Proofs.YtpdboaedoimahaaGreatDoor
end
section
set_option linter.unusedSectionVars false
set_option linter.unusedVariables false
namespace Go.Proofs.YtpdboaedoimahaaGreatDoor
open Go.RowKit Go.MapKept
theorem bIndex0 {u m : PH} {b n c : Nat} {L : List Bool} (hn : n = L.length) (hl : n ≤ 1000000) (hE : ∀ (j : Nat) s, L[j]? = some s → ElP m b (0 + j * 1) (.bool s)) (hx : ∀ s ∈ L, s = true) :
    FnK Tryz.prog 174 [.slice (some ⟨b, 0, none⟩) n c, .bool false] u m fun v _ => v = .int .i64 (-1) := by
  refine FnK.of Tryz.func174 (by kernel_rfl) (by kernel_rfl) ?_
  refine G.loop (ι := Nat) (fun i => [(0, .v (.slice (some ⟨b, 0, none⟩) n c)), (1, .v (.bool false)), (7, .v (.int .i64 (n : Int))), (8, .v (.int .i64 (i : Int)))]) (fun _ => [])
    (fun i u' m' => i ≤ n ∧ m' = m) (fun i => n - i) 0 (by kernel_rfl) (fun _ => by kernel_rfl) ⟨by kernel_rfl, by kernel_rfl, by kernel_rfl⟩ ⟨by omega, rfl⟩ ?_
  rintro J i hJ u1 m1 l1 ⟨hi, rfl⟩
  by_cases hlt : i < n
  · refine G.lssT (i : Int) (n : Int) (by kernel_rfl) (by omega) ?_
    have hTi : L[i]? = some true := by
      rw [List.getElem?_eq_getElem (by omega)]
      exact congrArg some (hx _ (List.getElem_mem (by omega)))
    refine G.addr b 0 n c i 1 (by kernel_rfl) hlt ?_
    refine G.loadM none b (0 + i * 1) (.bool true) (by kernel_rfl) (by kernel_rfl) (hE i _ hTi) ?_
    refine G.eqB false true (by kernel_rfl) ?_
    refine G.add (i : Int) 1 ((i + 1 : Nat) : Int) (by kernel_rfl) (by omega) (by omega) (by omega) ?_
    exact G.back (by kernel_rfl) (hJ (i + 1) _ _ _ ⟨by kernel_rfl, by kernel_rfl, by kernel_rfl⟩ l1 ⟨by omega, rfl⟩ (by omega))
  · obtain rfl : i = n := by omega
    refine G.lssF (i : Int) (i : Int) (by kernel_rfl) (by omega) ?_
    exact G.ret (.int .i64 (-1)) (by kernel_rfl) ⟨rfl, rfl⟩
theorem bContains0 {u m : PH} {b n c : Nat} {L : List Bool} (hn : n = L.length) (hl : n ≤ 1000000) (hE : ∀ (j : Nat) s, L[j]? = some s → ElP m b (0 + j * 1) (.bool s)) (hx : ∀ s ∈ L, s = true) :
    FnK Tryz.prog 122 [.slice (some ⟨b, 0, none⟩) n c, .bool false] u m fun v _ => v = .bool false := by
  refine FnK.of Tryz.func122 (by kernel_rfl) (by kernel_rfl) ?_
  refine G.callK _ _ (by kernel_rfl) Tryz.call174 (bIndex0 (c := c) (L := L) hn hl hE hx) ?_
  rintro v1 u1 l1 rfl
  refine G.geqF (-1) 0 (by kernel_rfl) (by omega) ?_
  exact G.ret (.bool false) (by kernel_rfl) ⟨rfl, rfl⟩
abbrev SRel : Type := List UInt8 × List Nat × (Option Addr × Nat)
def relV (r : SRel) : Value := .agg #[.string (mkS r.1), .slice r.2.2.1 r.2.1.length r.2.2.2]
structure RelOK (u : PH) (n : Nat) (R : List SRel) : Prop where
  names : Names (R.map (·.1))
  ne : ∀ r ∈ R, r.2.1 ≠ []
  lt : ∀ r ∈ R, ∀ a ∈ r.2.1, a < n
  len : ∀ r ∈ R, r.2.1.length ≤ 1000
  asc : ∀ r ∈ R, ∀ (k : Nat) x y, r.2.1[k]? = some x → r.2.1[k + 1]? = some y → x < y
  all : ∀ a < n, ∃ r ∈ R, a ∈ r.2.1
  at' : ∀ r ∈ R, ListP u (.slice r.2.2.1 r.2.1.length r.2.2.2) 1 (intsV r.2.1)
def uArr (g n : Nat) (L : List Bool) : Arr := ⟨.slice (some ⟨g, 0, none⟩) n n, 4, 1, L.map .bool⟩
def nArr (a : Option Addr) (c : Nat) (L : List (List UInt8)) : Arr := ⟨.slice a L.length c, 9, 1, L.map nmV⟩
theorem uArr_at {g n : Nat} {L : List Bool} {m0 m : PH} : (uArr g n L).At m0 m = ArrAt m0 m (.slice (some ⟨g, 0, none⟩) n n) 4 1 (L.map .bool) := rfl
theorem nArr_at {a : Option Addr} {c : Nat} {L : List (List UInt8)} {m0 m : PH} : (nArr a c L).At m0 m = ArrAt m0 m (.slice a L.length c) 9 1 (L.map nmV) := rfl
theorem map_bool_set (L : List Bool) (a : Nat) : (L.map Value.bool).set a (.bool true) = (L.set a true).map Value.bool := by rw [List.map_set]
set_option maxHeartbeats 4000000 in
theorem relations0 {u : PH} {w x y : Value} {a0 : Option Addr} {n c0 : Nat} {R : List SRel} (hR : ListP u w 2 (R.map relV)) (ok : RelOK u n R) (hn : n ≤ 1000) (hn0 : 0 < n) (hl : R.length ≤ 1000) (hx : ∃ a n c, x = .slice a n c) (hy : ∃ z : Int, y = .int .i64 z) :
    Fn0 Tryz.prog 64 [.agg #[.slice a0 n c0, w, x, y]] u fun r _ => r = .int .i64 0 := by
  obtain ⟨a, c, rfl⟩ := hR.opn
  obtain ⟨xa, xn, xc, rfl⟩ := hx
  obtain ⟨z, rfl⟩ := hy
  rw [List.length_map] at hR ⊢
  refine Fn0.of Tryz.func64 (by kernel_rfl) (by kernel_rfl) ?_
  refine G.make 4 1 1 (.bool false) n (by kernel_rfl) rfl rfl (by omega) (by omega) (by omega) ?_
  rintro v1 m1 hA1 ⟨ad, rfl⟩
  obtain ⟨g, rfl, _⟩ := hA1.some'
  refine G.loop (ι := Nat × List Bool × List (List UInt8) × (Option Addr × Nat)) (fun i => [(3, .v (.slice i.2.2.2.1 i.2.2.1.length i.2.2.2.2)), (4, .v (.slice (some ⟨g, 0, none⟩) n n)), (16, .v (.slice a R.length c)), (17, .v (.int .i64 (R.length : Int))), (18, .v (.int .i64 (i.1 : Int)))]) (fun _ => [])
    (fun i u' m' => i.1 ≤ R.length ∧ i.2.1.length = n ∧ i.2.2.1 = (R.map (·.1)).take i.1 ∧ (∀ r ∈ R.take i.1, ∀ q ∈ r.2.1, i.2.1[q]? = some true) ∧ Bag m' [uArr g n i.2.1, nArr i.2.2.2.1 i.2.2.2.2 i.2.2.1]) (fun i => R.length - i.1) (0, List.replicate n false, [], (none, 0)) (by kernel_rfl) (fun _ => by kernel_rfl) ⟨by kernel_rfl, by kernel_rfl, by kernel_rfl⟩
    ⟨by simp, by simp, by simp, by simp, ⟨PH.mt, by rw [uArr_at, List.map_replicate]; exact hA1, PH.mt, ArrAt.nil _ _ _, trivial⟩⟩ ?_
  rintro J ⟨i, L, N, ⟨na, nc⟩⟩ hJ u2 m2 l2 ⟨hi, hL, hN, hall, hbag⟩
  simp only at hi hL hN hall hbag hJ
  by_cases hlt : i < R.length
  · refine G.lssT (i : Int) (R.length : Int) (by kernel_rfl) (by omega) ?_
    have hTi : R[i]? = some R[i] := List.getElem?_eq_getElem hlt
    have hmem : R[i] ∈ R := List.getElem_mem hlt
    have htk : (R.map (·.1)).take (i + 1) = N ++ [R[i].1] := by
      rw [List.take_add_one, List.getElem?_map, hTi, hN]; rfl
    have htk2 : R.take (i + 1) = R.take i ++ [R[i]] := by
      rw [List.take_add_one, hTi]; rfl
    have hnames := ok.names.take (i + 1)
    rw [htk] at hnames
    have hlen : N.length = i := by rw [hN]; simp; omega
    obtain ⟨ba, oa, rfl, ea⟩ := ListP.at' (hR.mono l2) (j := i) (e := relV R[i]) (by simp [hTi])
    generalize R[i] = q at ea hmem htk htk2 hnames
    obtain ⟨qs, ql, qa, qc⟩ := q
    have hne : ql ≠ [] := ok.ne _ hmem
    have hlq : ∀ p ∈ ql, p < n := ok.lt _ hmem
    have hql : ql.length ≤ 1000 := ok.len _ hmem
    have hasc : ∀ (k : Nat) x y, ql[k]? = some x → ql[k + 1]? = some y → x < y := ok.asc _ hmem
    have hqat : ListP u2 (.slice qa ql.length qc) 1 (intsV ql) := (ok.at' _ hmem).mono l2
    have hq0 : 0 < ql.length := List.length_pos_iff.2 hne
    simp only at htk hnames
    refine G.addr ba oa R.length c i 2 (by kernel_rfl) hlt ?_
    refine G.loadU (some 2) ba (oa + i * 2) (.agg #[.string (mkS qs), .slice qa ql.length qc]) (by kernel_rfl) (by kernel_rfl) ea ?_
    refine G.buildU 9 1 16 (.string (mkS [])) [.string (mkS qs)] (by kernel_rfl) (nmV_ok [qs]) rfl (by omega) (by simp) (by simp) ?_
    intro g3 u3 l3 e3
    obtain ⟨mm, hx0, hput⟩ := hbag.focus 1 rfl
    rw [nArr_at] at hx0
    refine G.append 9 1 16 (.string (mkS [])) mm (N.map nmV) [.string (mkS qs)] (.slice na N.length nc) g3 0 1 1 (by kernel_rfl) rfl rfl (by omega) hx0 e3 (nmV_ok [qs]) rfl (by omega) (by simp; omega) (by simp; omega) ?_
    intro v4 m4 hA4
    rw [show N.map nmV ++ [.string (mkS qs)] = (N ++ [qs]).map nmV by rw [List.map_append]; rfl] at hA4
    obtain ⟨b4, c4, rfl⟩ := hA4.ptr (by simp)
    have hcap := hA4.cap
    rw [List.length_map] at hA4 hcap ⊢
    have hbag4 := hput (nArr (some ⟨b4, 0, none⟩) c4 (N ++ [qs])) m4 hA4
    simp only [List.set_cons_succ, List.set_cons_zero] at hbag4
    refine G.callK _ _ (by kernel_rfl) Tryz.call121 (named0 (b := b4) (k := i) (c := c4) (x := qs) (L := N ++ [qs]) hnames (by simp; omega) hcap (by rw [← hlen]; exact getElem?_snoc_last N qs) fun j s hs => hA4.el (by rw [List.getElem?_map, hs]; rfl)) ?_
    rintro v5 u5 l5 rfl
    refine G.neqF 0 0 (by kernel_rfl) (by omega) ?_
    refine G.eqlF (ql.length : Int) 0 (by kernel_rfl) (by omega) ?_
    generalize N ++ [qs] = N' at hbag4 htk
    clear hA4 hput hx0 hbag hcap hnames
    have hlt' : ∀ p ∈ ql, p < n := hlq
    refine G.loop (ι := Nat × List Bool) (fun j => [(3, .v (.slice (some ⟨b4, 0, none⟩) N'.length c4)), (4, .v (.slice (some ⟨g, 0, none⟩) n n)), (6, .p 5003 0), (16, .v (.slice (some ⟨ba, oa, none⟩) R.length c)), (17, .v (.int .i64 (R.length : Int))), (18, .v (.int .i64 (i : Int))), (39, .v (.slice qa ql.length qc)), (40, .v (.int .i64 (ql.length : Int))), (41, .v (.int .i64 (j.1 : Int)))])
      (fun _ => [(5003, ⟨74, [.v (.string (mkS qs)), .v (.slice qa ql.length qc)]⟩)])
      (fun j u' m' => j.1 ≤ ql.length ∧ j.2.length = n ∧ (∀ r ∈ R.take i, ∀ q ∈ r.2.1, j.2[q]? = some true) ∧ (∀ q ∈ ql.take j.1, j.2[q]? = some true) ∧ Bag m' [uArr g n j.2, nArr (some ⟨b4, 0, none⟩) c4 N']) (fun j => ql.length - j.1) (0, L) (by kernel_rfl) (fun _ => by kernel_rfl) ⟨by kernel_rfl, by kernel_rfl, by kernel_rfl⟩
      ⟨by simp, hL, hall, by simp, hbag4⟩ ?_
    rintro J2 ⟨j, L2⟩ hJ2 u6 m6 l6 ⟨hj, hL2, hall2, hrow2, hbag6⟩
    simp only at hj hL2 hall2 hrow2 hbag6 hJ2
    have hqat6 := hqat.mono ((l3.trans l5).trans l6)
    by_cases hltj : j < ql.length
    · refine G.lssT (j : Int) (ql.length : Int) (by kernel_rfl) (by omega) ?_
      have hqj : ql[j]? = some ql[j] := List.getElem?_eq_getElem hltj
      have hpn : ql[j] < n := hlq _ (List.getElem_mem hltj)
      have htkj : ql.take (j + 1) = ql.take j ++ [ql[j]] := by rw [List.take_add_one, hqj]; rfl
      obtain ⟨bq, oq, rfl, eq⟩ := ListP.at' hqat6 (j := j) (e := .int .i64 (ql[j] : Int)) (by simp [intsV, hqj])
      generalize ql[j] = p at eq hpn htkj
      refine G.addr bq oq ql.length qc j 1 (by kernel_rfl) hltj ?_
      refine G.loadU none bq (oq + j * 1) (.int .i64 (p : Int)) (by kernel_rfl) (by kernel_rfl) eq ?_
      refine G.lssF (p : Int) 0 (by kernel_rfl) (by omega) ?_
      refine G.geqF (p : Int) (n : Int) (by kernel_rfl) (by omega) ?_
      refine G.addr g 0 n n p 1 (by kernel_rfl) hpn ?_
      obtain ⟨mm2, hx2, hput2⟩ := hbag6.focus 0 rfl
      rw [uArr_at] at hx2
      refine G.storeA 1 mm2 (L2.map Value.bool) g n n p (.bool true) (by kernel_rfl) hx2 (by rw [List.length_map]; omega) rfl rfl ?_
      intro m7 hA7
      rw [map_bool_set] at hA7
      have hbag7 := hput2 (uArr g n (L2.set p true)) m7 hA7
      simp only [List.set_cons_zero] at hbag7
      refine G.add (j : Int) 1 ((j + 1 : Nat) : Int) (by kernel_rfl) (by omega) (by omega) (by omega) ?_
      have hkeep : ∀ q, L2[q]? = some true → (L2.set p true)[q]? = some true := fun q hq => by
        rw [List.getElem?_set]
        split
        · subst_vars; rw [if_pos (by omega)]
        · exact hq
      exact G.back (by kernel_rfl) (hJ2 (j + 1, L2.set p true) _ _ _ ⟨by kernel_rfl, by kernel_rfl, by kernel_rfl⟩ l6 ⟨by dsimp only; omega, by simp [hL2], fun r hr q hq => hkeep q (hall2 r hr q hq), by
        intro q hq
        dsimp only at hq ⊢
        rw [htkj, List.mem_append, List.mem_singleton] at hq
        rcases hq with hq | rfl
        · exact hkeep q (hrow2 q hq)
        · rw [List.getElem?_set]; simp; omega, hbag7⟩ (by dsimp only; omega))
    · obtain rfl : j = ql.length := by omega
      refine G.lssF (ql.length : Int) (ql.length : Int) (by kernel_rfl) (by omega) ?_
      rw [List.take_length] at hrow2
      refine G.loop (ι := Nat) (fun k => [(3, .v (.slice (some ⟨b4, 0, none⟩) N'.length c4)), (4, .v (.slice (some ⟨g, 0, none⟩) n n)), (6, .p 5003 0), (10, .v (.int .i64 ((k + 1 : Nat) : Int))), (16, .v (.slice (some ⟨ba, oa, none⟩) R.length c)), (17, .v (.int .i64 (R.length : Int))), (18, .v (.int .i64 (i : Int)))])
        (fun _ => [(5003, ⟨74, [.v (.string (mkS qs)), .v (.slice qa ql.length qc)]⟩)])
        (fun k u' m' => k + 1 ≤ ql.length ∧ m' = m6) (fun k => ql.length - k) 0 (by kernel_rfl) (fun _ => by kernel_rfl) ⟨by kernel_rfl, by kernel_rfl, by kernel_rfl⟩
        ⟨by omega, rfl⟩ ?_
      rintro J3 k hJ3 u8 m8 l8 ⟨hk, rfl⟩
      have hqat8 := hqat6.mono l8
      by_cases hltk : k + 1 < ql.length
      · refine G.lssT ((k + 1 : Nat) : Int) (ql.length : Int) (by kernel_rfl) (by omega) ?_
        have hq1 : ql[k]? = some ql[k] := List.getElem?_eq_getElem (by omega)
        have hq2 : ql[k + 1]? = some ql[k + 1] := List.getElem?_eq_getElem hltk
        have hlt3 := hasc k _ _ hq1 hq2
        obtain ⟨bq, oq, rfl, eq2⟩ := ListP.at' hqat8 (j := k + 1) (e := .int .i64 (ql[k + 1] : Int)) (by simp [intsV, hq2])
        obtain ⟨_, _, e', eq1⟩ := ListP.at' hqat8 (j := k) (e := .int .i64 (ql[k] : Int)) (by simp [intsV, hq1])
        cases e'
        generalize ql[k] = p1 at eq1 hlt3
        generalize ql[k + 1] = p2 at eq2 hlt3
        refine G.addr bq oq ql.length qc (k + 1) 1 (by kernel_rfl) hltk ?_
        refine G.loadU none bq (oq + (k + 1) * 1) (.int .i64 (p2 : Int)) (by kernel_rfl) (by kernel_rfl) eq2 ?_
        refine G.sub ((k + 1 : Nat) : Int) 1 (k : Int) (by kernel_rfl) (by omega) (by omega) (by omega) ?_
        refine G.addr bq oq ql.length qc k 1 (by kernel_rfl) (by omega) ?_
        refine G.loadU none bq (oq + k * 1) (.int .i64 (p1 : Int)) (by kernel_rfl) (by kernel_rfl) eq1 ?_
        refine G.leqF (p2 : Int) (p1 : Int) (by kernel_rfl) (by omega) ?_
        refine G.add ((k + 1 : Nat) : Int) 1 ((k + 1 + 1 : Nat) : Int) (by kernel_rfl) (by omega) (by omega) (by omega) ?_
        exact G.back (by kernel_rfl) (hJ3 (k + 1) _ _ _ ⟨by kernel_rfl, by kernel_rfl, by kernel_rfl⟩ l8 ⟨by omega, rfl⟩ (by omega))
      · refine G.lssF ((k + 1 : Nat) : Int) (ql.length : Int) (by kernel_rfl) (by omega) ?_
        refine G.add (i : Int) 1 ((i + 1 : Nat) : Int) (by kernel_rfl) (by omega) (by omega) (by omega) ?_
        exact G.back (by kernel_rfl) (hJ (i + 1, L2, N', (some ⟨b4, 0, none⟩, c4)) _ _ _ ⟨by kernel_rfl, by kernel_rfl, by kernel_rfl⟩ ((((l2.trans l3).trans l5).trans l6).trans l8) ⟨by dsimp only; omega, hL2, htk.symm, by
          intro r hr q hq
          dsimp only at hr hq ⊢
          rw [htk2, List.mem_append, List.mem_singleton] at hr
          rcases hr with hr | rfl
          · exact hall2 r hr q hq
          · exact hrow2 q hq, hbag6⟩ (by dsimp only; omega))
  · obtain rfl : i = R.length := by omega
    refine G.lssF (R.length : Int) (R.length : Int) (by kernel_rfl) (by omega) ?_
    rw [List.take_length] at hall
    refine G.callK _ _ (by kernel_rfl) Tryz.call122 (bContains0 (b := g) (c := n) (L := L) hL.symm (by omega) (fun j s hs => hbag.el 0 rfl (x := uArr g n L) rfl (by show (L.map Value.bool)[j]? = _; rw [List.getElem?_map, hs]; rfl)) fun s hs => by
      obtain ⟨j, hj, rfl⟩ := List.getElem_of_mem hs
      obtain ⟨r, hr, hq⟩ := ok.all j (by omega)
      have := hall r hr j hq
      rw [List.getElem?_eq_getElem hj] at this
      exact Option.some.inj this) ?_
    rintro v3 u3 l3 rfl
    refine G.drop PH.mt (by kernel_rfl) (PH.mt_le _) ?_
    exact G.ret (.int .i64 0) (by kernel_rfl) ⟨rfl, rfl⟩
end Go.Proofs.YtpdboaedoimahaaGreatDoor
end
section
set_option linter.unusedSectionVars false
set_option linter.unusedVariables false
namespace Go.Proofs.YtpdboaedoimahaaGreatDoor
open Go.RowKit Go.MapKept
structure SchOK (u : PH) (T : List (List UInt8 × Nat)) (R : List SRel) (F : List Feat) (lab : Int) : Prop where
  att : AttOK T
  rel : RelOK u T.length R
  feat : FeatOK T F lab
  t1 : 0 < T.length
  t2 : T.length ≤ 12
  r1 : 0 < R.length
  r2 : R.length ≤ 6
  f2 : F.length ≤ 8
  l1 : -1 ≤ lab
  l2 : ∀ l : Nat, lab = (l : Int) → ∃ n, T[l]? = some (n, 2)
theorem RelOK.mono {u u' : PH} {n : Nat} {R : List SRel} (h : RelOK u n R) (hl : PH.le u u') : RelOK u' n R := ⟨h.names, h.ne, h.lt, h.len, h.asc, h.all, fun r hr => (h.at' r hr).mono hl⟩
theorem SchOK.mono {u u' : PH} {T : List (List UInt8 × Nat)} {R : List SRel} {F : List Feat} {lab : Int} (h : SchOK u T R F lab) (hl : PH.le u u') : SchOK u' T R F lab := ⟨h.att, h.rel.mono hl, h.feat, h.t1, h.t2, h.r1, h.r2, h.f2, h.l1, h.l2⟩
def SchP (u : PH) (v : Value) (T : List (List UInt8 × Nat)) (R : List SRel) (F : List Feat) (lab : Int) : Prop :=
  ∃ a c b d e f, v = .agg #[.slice a T.length c, .slice b R.length d, .slice e F.length f, .int .i64 lab] ∧ ListP u (.slice a T.length c) 2 (T.map attV) ∧ ListP u (.slice b R.length d) 2 (R.map relV) ∧ ListP u (.slice e F.length f) 3 (F.map featV)
theorem SchP.mono {u u' : PH} {v : Value} {T : List (List UInt8 × Nat)} {R : List SRel} {F : List Feat} {lab : Int} (h : SchP u v T R F lab) (hl : PH.le u u') : SchP u' v T R F lab := by
  obtain ⟨a, c, b, d, e, f, hv, h1, h2, h3⟩ := h
  exact ⟨a, c, b, d, e, f, hv, h1.mono hl, h2.mono hl, h3.mono hl⟩
set_option maxHeartbeats 2000000 in
theorem check0 {u : PH} {v : Value} {T : List (List UInt8 × Nat)} {R : List SRel} {F : List Feat} {lab : Int} (h : SchP u v T R F lab) (ok : SchOK u T R F lab) :
    Fn0 Tryz.prog 31 [v] u fun r _ => r = .int .i64 0 := by
  obtain ⟨a, c, b, d, e, f, rfl, hT, hR, hF⟩ := h
  have t1 := ok.t1
  have t2 := ok.t2
  have r1 := ok.r1
  have r2 := ok.r2
  have f2 := ok.f2
  have lo := ok.l1
  have hi : lab < T.length := by
    rcases Int.lt_or_le lab 0 with hlt | hge
    · omega
    · obtain ⟨n, hn⟩ := ok.l2 lab.toNat (by omega)
      obtain ⟨hk, _⟩ := List.getElem?_eq_some_iff.1 hn
      omega
  refine Fn0.of Tryz.func31 (by kernel_rfl) (by kernel_rfl) ?_
  refine G.eqlF (T.length : Int) 0 (by kernel_rfl) (by omega) ?_
  refine G.gtrF (T.length : Int) 12 (by kernel_rfl) (by omega) ?_
  refine G.eqlF (R.length : Int) 0 (by kernel_rfl) (by omega) ?_
  refine G.gtrF (R.length : Int) 6 (by kernel_rfl) (by omega) ?_
  refine G.gtrF (F.length : Int) 8 (by kernel_rfl) (by omega) ?_
  refine G.buildU 86 1 8 (.nilFunc) [.func (.func 63) #[] #[], .func (.func 64) #[] #[], .func (.func 65) #[] #[]] (by kernel_rfl) (fun x hx => by
    simp only [List.mem_cons, List.not_mem_nil, or_false] at hx
    rcases hx with rfl | rfl | rfl <;> exact ⟨rfl, List.all_eq_true.1 rfl⟩) rfl (by omega) (by simp) (by simp) ?_
  intro g u1 l1 e1
  refine G.loop (ι := Nat) (fun i => [(1, .p 0 0), (34, .v (.slice (some ⟨g, 0, none⟩) 3 3)), (35, .v (.int .i64 ((3 : Nat) : Int))), (36, .v (.int .i64 (i : Int)))])
    (fun _ => [(0, ⟨30, [.v (.slice a T.length c), .v (.slice b R.length d), .v (.slice e F.length f), .v (.int .i64 lab)]⟩)])
    (fun i u' m' => i ≤ 3 ∧ m' = PH.mt) (fun i => 3 - i) 0 (by kernel_rfl) (fun _ => by kernel_rfl) ⟨by kernel_rfl, by kernel_rfl, by kernel_rfl⟩ ⟨by omega, rfl⟩ ?_
  rintro J i hJ u2 m2 l2 ⟨hi3, rfl⟩
  have le2 := l1.trans l2
  have e2 := e1.mono l2
  by_cases hlt : i < 3
  · refine G.lssT (i : Int) ((3 : Nat) : Int) (by kernel_rfl) (by omega) ?_
    refine G.addr g 0 3 3 i 1 (by kernel_rfl) hlt ?_
    rcases (by omega : i = 0 ∨ i = 1 ∨ i = 2) with rfl | rfl | rfl
    · refine G.loadU none g (0 + 0 * 1) (.func (.func 63) #[] #[]) (by kernel_rfl) (by kernel_rfl) (e2 0 _ rfl) ?_
      refine G.call0 _ _ (by kernel_rfl) Tryz.call63 (attributes0 (w := .slice b R.length d) (x := .slice e F.length f) (y := .int .i64 lab) (hT.mono le2) ok.att (by omega) ⟨_, _, _, rfl⟩ ⟨_, _, _, rfl⟩ ⟨_, rfl⟩) ?_
      rintro v3 u3 l3 rfl
      refine G.neqF 0 0 (by kernel_rfl) (by omega) ?_
      refine G.add ((0 : Nat) : Int) 1 ((0 + 1 : Nat) : Int) (by kernel_rfl) (by omega) (by omega) (by omega) ?_
      exact G.back (by kernel_rfl) (hJ (0 + 1) _ _ _ ⟨by kernel_rfl, by kernel_rfl, by kernel_rfl⟩ (l2.trans l3) ⟨by omega, rfl⟩ (by omega))
    · refine G.loadU none g (0 + 1 * 1) (.func (.func 64) #[] #[]) (by kernel_rfl) (by kernel_rfl) (e2 1 _ rfl) ?_
      refine G.call0 _ _ (by kernel_rfl) Tryz.call64 (relations0 (a0 := a) (c0 := c) (x := .slice e F.length f) (y := .int .i64 lab) (hR.mono le2) (ok.rel.mono le2) (by omega) (by omega) (by omega) ⟨_, _, _, rfl⟩ ⟨_, rfl⟩) ?_
      rintro v3 u3 l3 rfl
      refine G.neqF 0 0 (by kernel_rfl) (by omega) ?_
      refine G.add ((1 : Nat) : Int) 1 ((1 + 1 : Nat) : Int) (by kernel_rfl) (by omega) (by omega) (by omega) ?_
      exact G.back (by kernel_rfl) (hJ (1 + 1) _ _ _ ⟨by kernel_rfl, by kernel_rfl, by kernel_rfl⟩ (l2.trans l3) ⟨by omega, rfl⟩ (by omega))
    · refine G.loadU none g (0 + 2 * 1) (.func (.func 65) #[] #[]) (by kernel_rfl) (by kernel_rfl) (e2 2 _ rfl) ?_
      refine G.call0 _ _ (by kernel_rfl) Tryz.call65 (features0 (w := .slice b R.length d) (hT.mono le2) (hF.mono le2) ok.feat (by omega) (by omega) ⟨_, _, _, rfl⟩) ?_
      rintro v3 u3 l3 rfl
      refine G.neqF 0 0 (by kernel_rfl) (by omega) ?_
      refine G.add ((2 : Nat) : Int) 1 ((2 + 1 : Nat) : Int) (by kernel_rfl) (by omega) (by omega) (by omega) ?_
      exact G.back (by kernel_rfl) (hJ (2 + 1) _ _ _ ⟨by kernel_rfl, by kernel_rfl, by kernel_rfl⟩ (l2.trans l3) ⟨by omega, rfl⟩ (by omega))
  · obtain rfl : i = 3 := by omega
    refine G.lssF ((3 : Nat) : Int) ((3 : Nat) : Int) (by kernel_rfl) (by omega) ?_
    refine G.lssF lab (-1) (by kernel_rfl) (by omega) ?_
    refine G.geqF lab (T.length : Int) (by kernel_rfl) (by omega) ?_
    rcases Int.lt_or_le lab 0 with hneg | hge
    · refine G.geqF lab 0 (by kernel_rfl) (by omega) ?_
      exact G.ret (.int .i64 0) (by kernel_rfl) ⟨rfl, rfl⟩
    · refine G.geqT lab 0 (by kernel_rfl) (by omega) ?_
      obtain ⟨l, rfl⟩ : ∃ l : Nat, lab = (l : Int) := ⟨lab.toNat, by omega⟩
      obtain ⟨n, hn⟩ := ok.l2 l rfl
      obtain ⟨bb, ob, rfl, eb⟩ := ListP.at' (hT.mono le2) (j := l) (e := attV (n, 2)) (by simp [hn])
      refine G.addr bb ob T.length c l 2 (by kernel_rfl) (by omega) ?_
      refine G.fieldA 61 bb (ob + l * 2) 1 1 (by kernel_rfl) (by kernel_rfl) ?_
      refine G.loadU none bb (ob + l * 2 + 1) (.int .i64 ((2 : Nat) : Int)) (by kernel_rfl) (by kernel_rfl) (elP_att2 eb) ?_
      refine G.neqF ((2 : Nat) : Int) 2 (by kernel_rfl) (by omega) ?_
      exact G.ret (.int .i64 0) (by kernel_rfl) ⟨rfl, rfl⟩
end Go.Proofs.YtpdboaedoimahaaGreatDoor
end
section
set_option linter.unusedSectionVars false
set_option linter.unusedVariables false
namespace Go.Proofs.YtpdboaedoimahaaGreatDoor
open Go.RowKit Go.MapKept
theorem lim0 (n : Nat) : (limbs n).getD 0 0 = n % 1000000000 := by
  by_cases h : n = 0
  · subst h; rw [limbs_zero]; rfl
  · rw [limbs_pos h]; rfl
theorem lim1 (n : Nat) : (limbs n).getD 1 0 = n / 1000000000 % 1000000000 := by
  by_cases h : n = 0
  · subst h; rw [limbs_zero]; rfl
  · rw [limbs_pos h]; show (limbs (n / 1000000000)).getD 0 0 = _; rw [lim0]
theorem lim_len {n : Nat} (h : n < 1000000000000000000) : (limbs n).length ≤ 2 := by
  by_cases h0 : n = 0
  · subst h0; rw [limbs_zero]; simp
  · rw [limbs_pos h0]
    by_cases h1 : n / 1000000000 = 0
    · rw [h1, limbs_zero]; simp
    · rw [limbs_pos h1, show n / 1000000000 / 1000000000 = 0 by omega, limbs_zero]; simp
theorem u64_wrapZ {z : Int} (h1 : 0 ≤ z) (h2 : z < 18446744073709551616) : IntKind.u64.wrap z = z := by
  simp only [IntKind.wrap, IntKind.signed, IntKind.bits]; simp; omega
section rules
variable {P : Program} [Mixed P] {fn : Func} {Post : Spec} {st : List KI × S} {u m : PH}
theorem G.mul64 (x y z : Int) (h : stopV P (adv P st) = .bin .mul (.int .u64 x) (.int .u64 y)) (hz : x * y = z) (h1 : 0 ≤ z) (h2 : z < 18446744073709551616)
    (k : G P fn Post (nx (adv P st) (.int .u64 z)) u m) : G P fn Post st u m :=
  G.bin _ h guard_int (fun t w => by simp [binOp, Op.intArith, hz, u64_wrapZ h1 h2]) k
theorem G.add64 (x y z : Int) (h : stopV P (adv P st) = .bin .add (.int .u64 x) (.int .u64 y)) (hz : x + y = z) (h1 : 0 ≤ z) (h2 : z < 18446744073709551616)
    (k : G P fn Post (nx (adv P st) (.int .u64 z)) u m) : G P fn Post st u m :=
  G.bin _ h guard_int (fun t w => by simp [binOp, Op.intArith, hz, u64_wrapZ h1 h2]) k
end rules
theorem natAt0 {u : PH} {v : Value} {n : Nat} (h : NatP u v n) (hn : n < 1000000000000000000) (i : Nat) : Fn0 Tryz.prog 217 [v, .int .i64 (i : Int)] u fun r _ => r = .int .u64 (((limbs n).getD i 0 : Nat) : Int) := by
  have hl := lim_len hn
  obtain ⟨a, c, rfl, _⟩ := id h
  refine Fn0.of Tryz.func217 (by kernel_rfl) (by kernel_rfl) ?_
  by_cases hlt : i < (limbs n).length
  · refine G.lssT (i : Int) ((limbs n).length : Int) (by kernel_rfl) (by omega) ?_
    obtain ⟨b, off, rfl, e⟩ := h.at hlt
    refine G.addr b off (limbs n).length c i 1 (by kernel_rfl) hlt ?_
    refine G.loadU none b (off + i * 1) _ (by kernel_rfl) (by kernel_rfl) e ?_
    exact G.ret _ (by kernel_rfl) ⟨rfl, rfl⟩
  · refine G.lssF (i : Int) ((limbs n).length : Int) (by kernel_rfl) (by omega) ?_
    rw [getD_past hlt]
    exact G.ret (.int .u64 0) (by kernel_rfl) ⟨rfl, rfl⟩
theorem natSmall0 {u : PH} {v : Value} {n : Nat} (h : NatP u v n) (hn : n < 1000000000000000000) : Fn0 Tryz.prog 215 [v] u fun r _ => r = .int .u64 (n : Int) := by
  obtain ⟨a, c, rfl, _⟩ := id h
  refine Fn0.of Tryz.func215 (by kernel_rfl) (by kernel_rfl) ?_
  refine G.call0 _ _ (by kernel_rfl) Tryz.call217 (natAt0 h hn 1) ?_
  rintro v1 u1 l1 rfl
  rw [lim1]
  refine G.mul64 ((n / 1000000000 % 1000000000 : Nat) : Int) 1000000000 _ (by kernel_rfl) rfl (by omega) (by omega) ?_
  refine G.call0 _ _ (by kernel_rfl) Tryz.call217 (natAt0 (h.mono l1) hn 0) ?_
  rintro v2 u2 l2 rfl
  rw [lim0]
  refine G.add64 (((n / 1000000000 % 1000000000 : Nat) : Int) * 1000000000) ((n % 1000000000 : Nat) : Int) (n : Int) (by kernel_rfl) (by omega) (by omega) (by omega) ?_
  exact G.ret _ (by kernel_rfl) ⟨rfl, rfl⟩
theorem numSmall0 {u : PH} {v : Value} {z : Int} (h : NumP u v z) (hz : z.natAbs < 1000000000000000000) : Fn0 Tryz.prog 190 [v] u fun r _ => r = .tuple #[.int .i64 z, .bool true] := by
  obtain ⟨a, n', c, rfl, hN⟩ := h
  obtain ⟨a, c, e, _⟩ := id hN
  cases e
  have hl := lim_len hz
  generalize hn : z.natAbs = n at hN hz hl ⊢
  refine Fn0.of Tryz.func190 (by kernel_rfl) (by kernel_rfl) ?_
  refine G.gtrF ((limbs n).length : Int) 3 (by kernel_rfl) (by omega) ?_
  refine G.call0 _ _ (by kernel_rfl) Tryz.call217 (natAt0 hN hz 2) ?_
  rintro v1 u1 l1 rfl
  rw [getD_past (k := 2) (by omega)]
  refine G.cmpG .gtr .u64 ((0 : Nat) : Int) 4 false (by kernel_rfl) rfl (by simp [cmpZ]) ?_
  refine G.call0 _ _ (by kernel_rfl) Tryz.call217 (natAt0 (hN.mono l1) hz 2) ?_
  rintro v2 u2 l2 rfl
  rw [getD_past (k := 2) (by omega)]
  refine G.mul64 ((0 : Nat) : Int) 1000000000 0 (by kernel_rfl) (by omega) (by omega) (by omega) ?_
  refine G.mul64 0 1000000000 0 (by kernel_rfl) (by omega) (by omega) (by omega) ?_
  refine G.call0 _ _ (by kernel_rfl) Tryz.call215 (natSmall0 (hN.mono (l1.trans l2)) hz) ?_
  rintro v3 u3 l3 rfl
  refine G.add64 0 (n : Int) (n : Int) (by kernel_rfl) (by omega) (by omega) (by omega) ?_
  refine G.cmpG .gtr .u64 (n : Int) 4611686018427387904 false (by kernel_rfl) rfl (by simp [cmpZ]; omega) ?_
  by_cases hneg : z < 0
  · rw [decide_eq_true hneg]
    refine G.convI .u64 .i64 .u64 (n : Int) (n : Int) (by kernel_rfl) ?_ ?_
    · simp only [IntKind.wrap, IntKind.signed, IntKind.bits]; simp; omega
    refine G.neg (n : Int) z (by kernel_rfl) (by omega) (by omega) (by omega) ?_
    exact G.ret (.tuple #[.int .i64 z, .bool true]) (by kernel_rfl) ⟨rfl, rfl⟩
  · rw [decide_eq_false hneg]
    refine G.convI .u64 .i64 .u64 (n : Int) (n : Int) (by kernel_rfl) ?_ ?_
    · simp only [IntKind.wrap, IntKind.signed, IntKind.bits]; simp; omega
    obtain rfl : z = (n : Int) := by omega
    exact G.ret (.tuple #[.int .i64 (n : Int), .bool true]) (by kernel_rfl) ⟨rfl, rfl⟩
end Go.Proofs.YtpdboaedoimahaaGreatDoor
end
section
set_option linter.unusedSectionVars false
set_option linter.unusedVariables false
namespace Go.Proofs.YtpdboaedoimahaaGreatDoor
open Go.RowKit Go.MapKept
theorem small_dig {z : Int} (h : z.natAbs < 1000000000000000000) : Lib.nDigits z.natAbs ≤ 400 := Nat.le_trans (dig_of_lt (k := 18) (by omega) (by omega)) (by omega)
theorem intSmall0 {u : PH} {z : Int} (h : z.natAbs < 1000000000000000000) : Fn0 Tryz.prog 147 [.string (mkS (Lib.itoa z))] u fun v _ => v = .tuple #[.int .i64 z, .bool true] := by
  refine Fn0.of Tryz.func147 (by kernel_rfl) (by kernel_rfl) ?_
  refine G.call0 _ _ (by kernel_rfl) Tryz.call125 (intValid0 (small_dig h)) ?_
  rintro v1 u1 l1 rfl
  refine G.call0 _ _ (by kernel_rfl) Tryz.call177 (intRead0 (small_dig h)) ?_
  intro v2 u2 l2 k2
  obtain ⟨b2, a2, n2, c2, rfl⟩ := k2.opn
  refine G.call0 _ _ (by kernel_rfl) Tryz.call190 (numSmall0 k2 h) ?_
  rintro v3 u3 l3 rfl
  exact G.ret (.tuple #[.int .i64 z, .bool true]) (by kernel_rfl) ⟨rfl, rfl⟩
theorem parts0 {u : PH} {q : Rat} (h : Tx q) : Fn0 Tryz.prog 146 [.string (mkS (ratT q))] u fun v _ => v = .tuple #[.string (mkS (Lib.itoa q.num)), .string (mkS (Lib.itoa (q.den : Int))), .bool true] := by
  refine Fn0.of Tryz.func146 (by kernel_rfl) (by kernel_rfl) ?_
  refine G.call0 _ _ (by kernel_rfl) Tryz.call66 (ratValid0 h) ?_
  rintro v1 u1 l1 rfl
  refine G.call0 _ _ (by kernel_rfl) Tryz.call124 (cutT h) ?_
  rintro v2 u2 l2 rfl
  by_cases hd : q.den = 1
  · rw [if_pos hd, decide_eq_false (by simp [hd]), hd, show ((1 : Nat) : Int) = 1 from rfl, itoa_one]
    exact G.ret (.tuple #[.string (mkS (Lib.itoa q.num)), .string (mkS [49]), .bool true]) (by kernel_rfl) ⟨rfl, rfl⟩
  · rw [if_neg hd, decide_eq_true hd]
    exact G.ret (.tuple #[.string (mkS (Lib.itoa q.num)), .string (mkS (Lib.itoa (q.den : Int))), .bool true]) (by kernel_rfl) ⟨rfl, rfl⟩
theorem bounded0 {u : PH} {z : Int} (h : z.natAbs ≤ 1000000000) : Fn0 Tryz.prog 145 [.string (mkS (Lib.itoa z))] u fun v _ => v = .bool true := by
  refine Fn0.of Tryz.func145 (by kernel_rfl) (by kernel_rfl) ?_
  refine G.call0 _ _ (by kernel_rfl) Tryz.call147 (intSmall0 (z := z) (by omega)) ?_
  rintro v1 u1 l1 rfl
  refine G.geqT z (-1000000000) (by kernel_rfl) (by omega) ?_
  refine G.leqT z 1000000000 (by kernel_rfl) (by omega) ?_
  exact G.ret (.bool true) (by kernel_rfl) ⟨rfl, rfl⟩
structure Dat (q : Rat) : Prop where
  num : q.num.natAbs ≤ 1000000000
  den : q.den ≤ 12
theorem Dat.tx {q : Rat} (h : Dat q) : Tx q := ⟨small_dig (by have := h.num; omega), by have := small_dig (z := (q.den : Int)) (by have := h.den; omega); simpa using this⟩
theorem ratT_nil {q : Rat} : ratT q ≠ [] := by
  intro e
  unfold ratT at e
  split at e
  · by_cases h : q.num < 0
    · rw [itoa_neg h] at e; cases e
    · rw [Lib.itoa, if_neg h] at e
      exact dec_ne_nil _ e
  · simp at e
theorem valueN0 {u : PH} {s : List UInt8} {q : Rat} (h : Dat q) : Fn0 Tryz.prog 82 [attV (s, 2), .string (mkS (ratT q))] u fun v _ => v = .bool true := by
  have hd := h.den
  have hp := q.den_pos
  refine Fn0.of Tryz.func82 (by kernel_rfl) (by kernel_rfl) ?_
  refine G.eqlF ((2 : Nat) : Int) 1 (by kernel_rfl) (by omega) ?_
  refine G.eqlT ((2 : Nat) : Int) 2 (by kernel_rfl) (by omega) ?_
  refine G.call0 _ _ (by kernel_rfl) Tryz.call146 (parts0 h.tx) ?_
  rintro v1 u1 l1 rfl
  refine G.call0 _ _ (by kernel_rfl) Tryz.call147 (intSmall0 (z := (q.den : Int)) (by omega)) ?_
  rintro v2 u2 l2 rfl
  refine G.eqSF (ratT q) [] (by kernel_rfl) ratT_nil ?_
  refine G.call0 _ _ (by kernel_rfl) Tryz.call145 (bounded0 h.num) ?_
  rintro v3 u3 l3 rfl
  refine G.geqT (q.den : Int) 1 (by kernel_rfl) (by omega) ?_
  refine G.leqT (q.den : Int) 12 (by kernel_rfl) (by omega) ?_
  exact G.ret (.bool true) (by kernel_rfl) ⟨rfl, rfl⟩
end Go.Proofs.YtpdboaedoimahaaGreatDoor
end
section
set_option linter.unusedSectionVars false
set_option linter.unusedVariables false
namespace Go.Proofs.YtpdboaedoimahaaGreatDoor
open Go.RowKit Go.MapKept
def CF.one1 (p : Par) (q : Rat) : CF := ⟨1, setF (fun _ => 0) p q, setF (fun _ => 0) (p, p) (q * q)⟩
theorem setF_zero {κ : Type} [DecidableEq κ] (a : κ) (k : κ) : setF (fun _ => (0 : Rat)) a 0 k = 0 := by unfold setF; split <;> rfl
set_option maxHeartbeats 2000000 in
theorem oneM0 {u : PH} {x : Value} {p : Par} {q : Rat} (hx : FracP u x q) (hs : SB q) (hs2 : SB (q * q)) :
    Contract Tryz.prog 94 [parV p, x] u PH.mt fun v' u' m' => MomM m' u' v' (CF.one1 p q) 1 := by
  obtain ⟨xb, xa, xn, xc, xb', xa', xn', xc', rfl⟩ := hx.opn
  refine Contract.of Tryz.func94 (by kernel_rfl) (by kernel_rfl) ?_
  refine G.callO _ _ (by kernel_rfl) Tryz.call47 (whole0 (n := 1) (by omega) (by omega)) ?_
  rintro v1 u1 m1 l1 r1 _
  rw [mt_or]
  obtain ⟨b, a, n, c, b', a', n', c', g1, g2, o1, o2, rfl, h1, hne, rfl, h4, h5⟩ := r1
  refine G.call0 _ _ (by kernel_rfl) Tryz.call156 (fracSign0 (hx.mono l1) (Nat.le_trans hs.sz.1 (by omega))) ?_
  rintro v2 u2 l2 rfl
  by_cases hq : q = 0
  · refine G.neqF (sgn q.num) 0 (by kernel_rfl) (fun e => e (sgn0.2 hq)) ?_
    subst hq
    exact G.ret (.agg #[.bool b, .slice a n c, .bool b', .slice a' n' c', .map (some g1), .map (some g2)]) (by kernel_rfl) ⟨b, a, n, c, b', a', n', c', g1, g2, o1, o2, rfl, h1.mono l2, hne, rfl, ((h4.mf l2).up (Nat.zero_le 1) (Nat.le_refl _)).congr fun k => (setF_zero p k).symm, ((h5.mf l2).up (Nat.zero_le 1) (Nat.le_refl _)).congr fun k => by
      show (0 : Rat) = setF (fun _ => (0 : Rat)) (p, p) (0 * 0) k
      rw [show (0 : Rat) * 0 = 0 by decide +kernel, setF_zero]⟩
  · refine G.neqT (sgn q.num) 0 (by kernel_rfl) (fun e => hq (sgn0.1 e)) ?_
    obtain ⟨l, ho, q2, q3, q4⟩ := (h4.mf l2).at
    refine G.mapPut (et := 109) keyPar g1 o1 l p (.agg #[.bool xb, .slice xa xn xc, .bool xb', .slice xa' xn' xc']) (by kernel_rfl) (by kernel_rfl) (by rw [upd_ne _ _ hne, upd_same]) ho ?_
    intro o1' ho1
    have r1 := MapR.put ho q2 q3 q4 ho1 (hx.mono (l1.trans l2)) (fun _ => hq) hs.sz (Nat.le_refl _)
    refine G.call0 _ _ (by kernel_rfl) Tryz.call89 (fracMul0 (hx.mono (l1.trans l2)) (hx.mono (l1.trans l2)) hs.big hs.big) ?_
    intro v3 u3 l3 r3
    obtain ⟨yb, ya, yn, yc, yb', ya', yn', yc', rfl⟩ := r3.opn
    obtain ⟨l', ho', q2', q3', q4'⟩ := (h5.mf (l2.trans l3)).at
    refine G.mapPut (et := 109) keyPr g2 o2 l' (p, p) (.agg #[.bool yb, .slice ya yn yc, .bool yb', .slice ya' yn' yc']) (by kernel_rfl) (by kernel_rfl) (by rw [upd_ne _ _ (Ne.symm hne), upd_same]) ho' ?_
    intro o2' ho2
    have hqq : q * q ≠ 0 := fun e => by
      rcases Rat.mul_eq_zero.1 e with e | e <;> exact hq e
    have r2 := MapR.put ho' q2' q3' q4' ho2 r3 (fun _ => hqq) hs2.sz (Nat.le_refl _)
    refine G.drop ((PH.mt.upd g1 o1').upd g2 o2') (by kernel_rfl) (fun g o hg => ?_) ?_
    · by_cases e : g = g2
      · subst e; rw [upd_same] at hg ⊢; exact hg
      · rw [upd_ne _ _ e] at hg ⊢
        by_cases e : g = g1
        · subst e; rw [upd_same] at hg ⊢; exact hg
        · rw [upd_ne _ _ e] at hg; cases hg
    exact G.ret (.agg #[.bool b, .slice a n c, .bool b', .slice a' n' c', .map (some g1), .map (some g2)]) (by kernel_rfl) ⟨b, a, n, c, b', a', n', c', g1, g2, o1', o2', rfl, h1.mono (l2.trans l3), hne, rfl, r1.mf l3, r2⟩
theorem oneP0 {u : PH} {x : Value} {p : Par} {q : Rat} (hx : FracP u x q) (hs : SB q) (hs2 : SB (q * q)) :
    Fn0 Tryz.prog 94 [parV p, x] u fun v' u' => MomP u' v' (CF.one1 p q) 1 :=
  Fn0.weak (Contract.giveAll (oneM0 hx hs hs2)) fun v u' ⟨u1, m1, l1, l2, h⟩ => h.give l1 l2
theorem wholeP0 {u : PH} {n : Int} (h1 : -9223372036854775808 ≤ n) (h2 : n ≤ 9223372036854775807) : Fn0 Tryz.prog 47 [.int .i64 n] u fun v' u' => MomP u' v' (CF.num (n : Rat)) 0 :=
  Fn0.weak (Contract.giveAll (whole0 h1 h2)) fun v u' ⟨u1, m1, l1, l2, h⟩ => MomM.give (F := CF.num (n : Rat)) h l1 l2
end Go.Proofs.YtpdboaedoimahaaGreatDoor
end
section
set_option linter.unusedSectionVars false
set_option linter.unusedVariables false
namespace Go.Proofs.YtpdboaedoimahaaGreatDoor
open Go.RowKit Go.MapKept
theorem isAtt0 {u m : PH} {f : Feat} {e a : Nat} (hb : ElP m e 0 (.int .i64 (a : Int))) : FnK Tryz.prog 93 [featV f, .pointer (some ⟨e, 0, none⟩)] u m fun v _ => v = .bool (f.1 == a) := by
  refine FnK.of Tryz.func93 (by kernel_rfl) (by kernel_rfl) ?_
  refine G.loadM none e 0 (.int .i64 (a : Int)) (by kernel_rfl) (by kernel_rfl) hb ?_
  by_cases h : f.1 = a
  · refine G.eqlT (f.1 : Int) (a : Int) (by kernel_rfl) (by omega) ?_
    rw [beq_iff_eq.2 h]
    exact G.ret (.bool true) (by kernel_rfl) ⟨rfl, rfl⟩
  · refine G.eqlF (f.1 : Int) (a : Int) (by kernel_rfl) (by omega) ?_
    rw [beq_eq_false_iff_ne.2 h]
    exact G.ret (.bool false) (by kernel_rfl) ⟨rfl, rfl⟩
def attF (F : List Feat) (a : Nat) : Int := idxF (fun f : Feat => f.1 == a) F
theorem liftLab0 {u : PH} {v : Value} {T : List (List UInt8 × Nat)} {R : List SRel} {F : List Feat} {a : Nat} {q : Rat} (h : SchP u v T R F (a : Int)) (ok : SchOK u T R F (a : Int)) (hq : Tx q) (hs : SB q) (hs2 : SB (q * q)) :
    Fn0 Tryz.prog 49 [v, .int .i64 (a : Int), .string (mkS (ratT q))] u fun v' u' => MomP u' v' (CF.one1 (-1, []) q) 1 := by
  obtain ⟨pa, ca, pb, cb, pe, ce, rfl, hT, hR, hF⟩ := h
  have hfl := ok.f2
  refine Fn0.of Tryz.func49 (by kernel_rfl) (by kernel_rfl) ?_
  refine G.pastI ?_
  refine G.pub 1 3 [.int .i64 (a : Int)] (by kernel_rfl) (by kernel_rfl) ?_
  intro e hu hm
  refine G.callK _ _ (by kernel_rfl) Tryz.call83 (fIndex0 (cap := .pointer (some ⟨e, 0, none⟩)) (fun f : Feat => f.1 == a) hF (by omega) Tryz.call93 fun f _ u' _ => isAtt0 (elP_int _ _ _ _)) ?_
  rintro v1 u1 l1 rfl
  refine G.loadM none e 0 (.int .i64 (a : Int)) (by kernel_rfl) (by kernel_rfl) (elP_int _ _ _ _) ?_
  refine G.eqlT (a : Int) (a : Int) (by kernel_rfl) rfl ?_
  refine G.eqSF (ratT q) [] (by kernel_rfl) ratT_nil ?_
  refine G.loadM none e 0 (.int .i64 (a : Int)) (by kernel_rfl) (by kernel_rfl) (elP_int _ _ _ _) ?_
  refine G.eqlT (a : Int) (a : Int) (by kernel_rfl) rfl ?_
  refine G.call0 _ _ (by kernel_rfl) Tryz.call95 (fracRead0 hq) ?_
  intro v2 u2 l2 r2
  refine G.call0 _ _ (by kernel_rfl) Tryz.call94 (oneP0 (p := (-1, [])) r2 hs hs2) ?_
  intro v3 u3 l3 r3
  obtain ⟨b, x, n, c, b', x', n', c', g1, g2, rfl⟩ := momP_opn r3
  refine G.drop PH.mt (by kernel_rfl) (PH.mt_le _) ?_
  exact G.ret (.agg #[.bool b, .slice x n c, .bool b', .slice x' n' c', .map (some g1), .map (some g2)]) (by kernel_rfl) ⟨rfl, r3⟩
theorem liftNum0 {u : PH} {v : Value} {T : List (List UInt8 × Nat)} {R : List SRel} {F : List Feat} {lab : Int} {a k : Nat} {q : Rat} (h : SchP u v T R F lab) (ok : SchOK u T R F lab) (hl : (a : Int) ≠ lab) (hk : attF F a = (k : Int)) (hk2 : ∃ mi, F[k]? = some (a, 1, mi)) (hq : Tx q) (hs : SB q) (hs2 : SB (q * q)) :
    Fn0 Tryz.prog 49 [v, .int .i64 (a : Int), .string (mkS (ratT q))] u fun v' u' => MomP u' v' (CF.one1 ((k : Int), []) q) 1 := by
  obtain ⟨pa, ca, pb, cb, pe, ce, rfl, hT, hR, hF⟩ := h
  have hfl := ok.f2
  obtain ⟨mi, hmi⟩ := hk2
  refine Fn0.of Tryz.func49 (by kernel_rfl) (by kernel_rfl) ?_
  refine G.pastI ?_
  refine G.pub 1 3 [.int .i64 (a : Int)] (by kernel_rfl) (by kernel_rfl) ?_
  intro e hu hm
  refine G.callK _ _ (by kernel_rfl) Tryz.call83 (fIndex0 (cap := .pointer (some ⟨e, 0, none⟩)) (fun f : Feat => f.1 == a) hF (by omega) Tryz.call93 fun f _ u' _ => isAtt0 (elP_int _ _ _ _)) ?_
  rintro v1 u1 l1 rfl
  unfold attF at hk
  rw [hk]
  refine G.loadM none e 0 (.int .i64 (a : Int)) (by kernel_rfl) (by kernel_rfl) (elP_int _ _ _ _) ?_
  refine G.eqlF (a : Int) lab (by kernel_rfl) hl ?_
  refine G.loadM none e 0 (.int .i64 (a : Int)) (by kernel_rfl) (by kernel_rfl) (elP_int _ _ _ _) ?_
  refine G.eqlF (a : Int) lab (by kernel_rfl) hl ?_
  refine G.lssF (k : Int) 0 (by kernel_rfl) (by omega) ?_
  obtain ⟨bb, ob, rfl, eb⟩ := ListP.at' (hF.mono l1) (j := k) (e := featV (a, 1, mi)) (by simp [hmi])
  obtain ⟨hkl, _⟩ := List.getElem?_eq_some_iff.1 hmi
  refine G.addr bb ob F.length ce k 3 (by kernel_rfl) hkl ?_
  refine G.loadU (some 3) bb (ob + k * 3) (.agg #[.int .i64 (a : Int), .int .i64 ((1 : Nat) : Int), .int .i64 (mi : Int)]) (by kernel_rfl) (by kernel_rfl) eb ?_
  refine G.eqlF ((1 : Nat) : Int) 2 (by kernel_rfl) (by omega) ?_
  refine G.eqSF (ratT q) [] (by kernel_rfl) ratT_nil ?_
  refine G.eqSF (ratT q) [] (by kernel_rfl) ratT_nil ?_
  refine G.call0 _ _ (by kernel_rfl) Tryz.call95 (fracRead0 hq) ?_
  intro v2 u2 l2 r2
  refine G.call0 _ _ (by kernel_rfl) Tryz.call94 (oneP0 (p := ((k : Int), [])) r2 hs hs2) ?_
  intro v3 u3 l3 r3
  obtain ⟨b, x, n, c, b', x', n', c', g1, g2, rfl⟩ := momP_opn r3
  refine G.drop PH.mt (by kernel_rfl) (PH.mt_le _) ?_
  exact G.ret (.agg #[.bool b, .slice x n c, .bool b', .slice x' n' c', .map (some g1), .map (some g2)]) (by kernel_rfl) ⟨rfl, r3⟩
end Go.Proofs.YtpdboaedoimahaaGreatDoor
end
section
set_option linter.unusedSectionVars false
set_option linter.unusedVariables false
namespace Go.Proofs.YtpdboaedoimahaaGreatDoor
open Go.RowKit Go.MapKept
end Go.Proofs.YtpdboaedoimahaaGreatDoor
end
section
set_option linter.unusedSectionVars false
set_option linter.unusedVariables false
namespace Go.Proofs.YtpdboaedoimahaaGreatDoor
open Go.RowKit Go.MapKept
theorem one1_cfd {d N : Nat} {p : Par} {q : Rat} (h1 : Dn d N 1) (hq : Dn d N q) (h2 : Dn d N (q * q)) : CFD d N (CF.one1 p q) :=
  ⟨h1, fun k => by
    show Dn d N (setF (fun _ => (0 : Rat)) p q k)
    unfold setF; split
    · exact hq
    · exact Dn.zero _ _, fun k => by
    show Dn d N (setF (fun _ => (0 : Rat)) (p, p) (q * q) k)
    unfold setF; split
    · exact h2
    · exact Dn.zero _ _⟩
theorem one1_cfv {p : Par} {q : Rat} (hp : PV p) : CFV (CF.one1 p q) :=
  ⟨fun k hk => by
    have hk : setF (fun _ => (0 : Rat)) p q k ≠ 0 := hk
    unfold setF at hk
    split at hk
    · subst_vars; exact hp
    · exact absurd rfl hk, fun k hk => by
    have hk : setF (fun _ => (0 : Rat)) (p, p) (q * q) k ≠ 0 := hk
    unfold setF at hk
    split at hk
    · subst_vars
      exact ⟨hp, hp, fun e => by
      have e : 0 < cmpP p p := e
      have := (ordP.sym _ _).2 e
      omega⟩
    · exact absurd rfl hk⟩
theorem ElsP.listP {u : PH} {g sz : Nat} {es : List Value} (h : ElsP u g 0 sz es) : ListP u (.slice (some ⟨g, 0, none⟩) es.length es.length) sz es := ⟨_, _, rfl, Nat.le_refl _, fun j e hj => ⟨g, 0, rfl, h j e hj⟩⟩
theorem names_of {L : List (List UInt8)} (h : (L.all wordB && decide L.Nodup) = true) : Names L := by
  rw [Bool.and_eq_true, List.all_eq_true, decide_eq_true_iff] at h
  exact ⟨h.1, h.2⟩
end Go.Proofs.YtpdboaedoimahaaGreatDoor
end
section
set_option linter.unusedSectionVars false
set_option linter.unusedVariables false
namespace Go.Proofs.YtpdboaedoimahaaGreatDoor
open Go.RowKit Go.MapKept
end Go.Proofs.YtpdboaedoimahaaGreatDoor
end
section
set_option linter.unusedSectionVars false
set_option linter.unusedVariables false
namespace Go.Proofs.YtpdboaedoimahaaGreatDoor
open Go.RowKit
end Go.Proofs.YtpdboaedoimahaaGreatDoor
end
section
set_option linter.unusedSectionVars false
set_option linter.unusedVariables false
namespace Go.Proofs.YtpdboaedoimahaaGreatDoor
open Go.RowKit Go.MapKept
theorem pw {n : Nat} (h : n < 10 ^ 30) : n < 10 ^ 100 := Nat.lt_of_lt_of_le h (by decide +kernel)
end Go.Proofs.YtpdboaedoimahaaGreatDoor
end
section
set_option linter.unusedSectionVars false
set_option linter.unusedVariables false
namespace Go.Proofs.YtpdboaedoimahaaGreatDoor
open Go.RowKit Go.MapKept
end Go.Proofs.YtpdboaedoimahaaGreatDoor
end
