/- Joined out of parts of one proof by a program: contracts of the functions that the statement reaches, and the plain facts behind them. -/
import Derived.Test.YtpdboaedoimahaaGreatDoorKB04
import Derived.Lib.TrimByte
import Derived.Lib.ItoaNum
import Derived.Laws.IdiomStrings
import Derived.Shelf.Strings.Builder1
import Derived.Shelf.Strings.Builder2
import Derived.Shelf.Small.Bits
import Derived.Shelf.Small.Wraps
import Derived.Shelf.Strings.BuilderF
import Derived.Shelf.Strings.BuilderK
import Derived.Shelf.Strings.Builder2Cap
import Derived.Shelf.Strconv.Itoa0
import Derived.Shelf.Strconv.Itoa1
import Derived.Shelf.LaysM
import Derived.Shelf.Strconv.Itoa2
import Derived.Shelf.Strconv.Itoa3
import Derived.Shelf.Strconv.Lower
import Derived.Shelf.Strconv.ParseUint10
import Derived.Shelf.Strconv.ParseUintEmpty
import Derived.Shelf.Strconv.ParseUint10b64
import Derived.Shelf.Strconv.ParseUint10b32
import Derived.Shelf.Strconv.ParseUint10b16
import Derived.Shelf.Strconv.ParseUint10b8
import Derived.Shelf.Strconv.ParseUint10At
import Derived.Ground.MpProg
import Derived.Shelf.Pu.ParseUintPublic10
import Derived.Shelf.Strings.Search1
import Derived.Shelf.Strings.Search2
import Derived.Shelf.Strings.Cut
import Derived.Shelf.Strings.Shaped
import Derived.Shelf.Strings.Prefix
import Derived.Shelf.Bits.Mul64
import Derived.Shelf.Strings.Repeat
import Derived.Shelf.Strings.BuilderCap
import Derived.Test.YtpdboaedoimahaaGreatDoorProg
import Derived.Lib.AppendIntMem
import Derived.Lib.AtoiErrMem
import Derived.Lib.ConvBytes
set_option linter.unusedVariables false
set_option linter.unusedSimpArgs false
set_option linter.unusedSectionVars false
section
set_option linter.unusedSectionVars false
set_option linter.unusedSimpArgs false
set_option linter.unusedVariables false
namespace Go.Proofs.YtpdboaedoimahaaGreatDoor
variable [Flag]
open Go.RowKit
abbrev mkS (l : List UInt8) : ByteArray := ⟨l.toArray⟩
theorem mkS_inj {a b : List UInt8} : mkS a = mkS b ↔ a = b := by
  constructor
  · intro h; injection h with h; simpa using h
  · rintro rfl; rfl
theorem mkS_toList (l : List UInt8) : (mkS l).toList = l := by
  rw [Go.Lib.toList_data]
theorem bytes_beq (a b : List UInt8) : ((mkS a).toList == (mkS b).toList) = decide (a = b) := by
  rw [mkS_toList, mkS_toList, Bool.eq_iff_iff]; simp
section rules
variable {P : Program} [Mixed P] {fn : Func} {Post : Spec} {st : List KI × S} {u m : PH}
def stopQ (Q : Op → Bool) (st : List KI × S) : Bool :=
  match st.1 with
  | .reg _ ops _ (i :: _) :: _ => match ops[i]? with
    | some o => Q o.op
    | none => false
  | _ => false
theorem G.askQ (Q : Op → Bool) {V : Stop} {v : Value} (h : stopV P (adv P st) = V) (hq : stopQ Q (adv P st) = true) (hV : V ≠ .other) (hr : ∀ env (o : Oper), viewOp P env o.op = V → Q o.op = true → ∀ w, (loadOp o.op = true → Part u w ∧ Part m w) → (execOp env o).run P w = .ok (.value v) w)
    (k : G P fn Post (nx (adv P st) v) u m) : G P fn Post st u m := by
  refine G.stp ?_
  obtain ⟨id, ops, dr, i, l, kk, s, o, e, ho, hg, hd, hv, hs, hview, hnx⟩ := stopV_spec h hV
  have k := k.out
  rw [hnx] at k
  have hQ : Q o.op = true := by
    rw [e] at hq; simpa [stopQ, ho] using hq
  rw [e]
  exact ⟨Ob.ask ho hg hd hv hs (view_al hview hV) (fun w hp => hr _ o hview hQ w hp) k⟩
def isStrSlice (P : Program) : Op → Bool
  | .slice t .. => match P.underlying t with | some .string => true | _ => false
  | _ => false
theorem guard_str {op : BinOp} {x y : ByteArray} (t : TypeId) (X Y : Operand) (w : World) : (eqGuard op t X Y (.string x) (.string y)).run P w = .ok () w := by
  unfold eqGuard; split <;> simp
theorem G.eqST (a b : List UInt8) (h : stopV P (adv P st) = .bin .eql (.string (mkS a)) (.string (mkS b))) (hab : a = b) (k : G P fn Post (nx (adv P st) (.bool true)) u m) : G P fn Post st u m :=
  G.bin _ h guard_str (fun t w => by simp [binOp, Op.stringOp, bytes_beq, hab]) k
theorem G.eqSF (a b : List UInt8) (h : stopV P (adv P st) = .bin .eql (.string (mkS a)) (.string (mkS b))) (hab : a ≠ b) (k : G P fn Post (nx (adv P st) (.bool false)) u m) : G P fn Post st u m :=
  G.bin _ h guard_str (fun t w => by simp only [binOp, Op.stringOp, bytes_beq, decide_eq_false hab]; rfl) k
theorem G.neST (a b : List UInt8) (h : stopV P (adv P st) = .bin .neq (.string (mkS a)) (.string (mkS b))) (hab : a ≠ b) (k : G P fn Post (nx (adv P st) (.bool true)) u m) : G P fn Post st u m :=
  G.bin _ h guard_str (fun t w => by simp only [binOp, Op.stringOp, bytes_beq, decide_eq_false hab]; rfl) k
theorem G.neSF (a b : List UInt8) (h : stopV P (adv P st) = .bin .neq (.string (mkS a)) (.string (mkS b))) (hab : a = b) (k : G P fn Post (nx (adv P st) (.bool false)) u m) : G P fn Post st u m :=
  G.bin _ h guard_str (fun t w => by simp only [binOp, Op.stringOp, bytes_beq, decide_eq_true hab]; rfl) k
theorem mkS_append (a b : List UInt8) : mkS a ++ mkS b = mkS (a ++ b) := by
  rw [mkS, mkS, ByteArray.mk_append_mk]
theorem G.addS (a b : List UInt8) (h : stopV P (adv P st) = .bin .add (.string (mkS a)) (.string (mkS b))) (hl : a.length + b.length ≤ 9223372036854775807) (k : G P fn Post (nx (adv P st) (.string (mkS (a ++ b)))) u m) : G P fn Post st u m :=
  G.bin _ h guard_str (fun t w => by
    have h1 : ¬ (((mkS a).size + (mkS b).size : Nat) : Int) > IntKind.i64.max := by
      rw [Go.Lib.size_mk, Go.Lib.size_mk]; simp [IntKind.max, IntKind.signed, IntKind.bits]; omega
    simp only [binOp, Op.stringOp]
    rw [if_neg h1, mkS_append]; rfl) k
theorem view_index {env : Operand → Value} {o : Op} {t : Option TypeDesc} {x i : Value} (h : viewOp P env o = .index t x i) : ∃ t' X I, o = .index t' X I ∧ env X = x ∧ env I = i ∧ P.underlying t' = t := by
  cases o <;> simp only [viewOp] at h <;> try cases h
  any_goals ((repeat' split at h) <;> cases h; done)
  · exact ⟨_, _, _, rfl, rfl, rfl, rfl⟩
theorem view_conv {env : Operand → Value} {o : Op} {s d : Option TypeDesc} {x : Value} (h : viewOp P env o = .conv s d x) : ∃ s' d' X, o = .convert s' d' X ∧ env X = x ∧ P.underlying s' = s ∧ P.underlying d' = d := by
  cases o <;> simp only [viewOp] at h <;> try cases h
  any_goals ((repeat' split at h) <;> cases h; done)
  · exact ⟨_, _, _, rfl, rfl, rfl, rfl⟩
theorem G.idxS (l : List UInt8) (i : Nat) (b : UInt8) (h : stopV P (adv P st) = .index (some .string) (.string (mkS l)) (.int .i64 (i : Int))) (hb : l[i]? = some b)
    (k : G P fn Post (nx (adv P st) (.int .u8 (b.toNat : Int))) u m) : G P fn Post st u m := by
  refine G.ask h (by simp) (fun env o hview w _ => ?_) k
  obtain ⟨t, X, I, e1, e2, e3, e4⟩ := view_index hview
  obtain ⟨dst, opp, type, pos, after, guard⟩ := o
  simp only at e1; subst e1
  obtain ⟨hi, hb⟩ := List.getElem?_eq_some_iff.1 hb
  have e5 : (mkS l)[i]? = some b := by
    have h6 : i < (mkS l).size := by rw [Go.Lib.size_mk]; exact hi
    rw [getElem?_pos (mkS l) i h6]
    congr 1
  have h0 : (0 : Int) ≤ (i : Int) := by omega
  simp [execOp, e2, e3, Instr.index, run_underlying e4, asIntOf, e5, h0]
theorem G.sliceSTo (l : List UInt8) (n : Nat) (h : stopV P (adv P st) = .slice none (.string (mkS l)) none (some (.int .i64 (n : Int))) none) (hq : stopQ (isStrSlice P) (adv P st) = true) (hn : n ≤ l.length)
    (k : G P fn Post (nx (adv P st) (.string (mkS (l.take n)))) u m) : G P fn Post st u m := by
  refine G.askQ _ h hq (by simp) (fun env o hview hQ w hp => ?_) k
  obtain ⟨t, X, L, H, M, e1, e2, e3, e4, e5, hsz⟩ := view_slice hview
  obtain ⟨dst, opp, type, pos, after, guard⟩ := o
  simp only at e1; subst e1
  simp only [isStrSlice] at hQ
  split at hQ
  · rename_i hu
    have h1 : (0 : Int) ≤ n ∧ (n : Int) ≤ (mkS l).size := by rw [Go.Lib.size_mk]; omega
    simp only [execOp, e2, e3, e4, e5]
    simp only [Instr.sliceAt, Sem.run_bind, run_underlying hu, Result.andThen_ok, Instr.slice, Instr.sliceBounds, Instr.sliceBound, asIntOf, Sem.run_pure, if_true, Option.isSome, Sem.run_ite, h1, and_self, Int.toNat_natCast, Nat.sub_zero]
    simp [Go.Lib.extract_mk]
  · cases hQ
theorem G.sliceSFrom (l : List UInt8) (n : Nat) (h : stopV P (adv P st) = .slice none (.string (mkS l)) (some (.int .i64 (n : Int))) none none) (hq : stopQ (isStrSlice P) (adv P st) = true) (hn : n ≤ l.length)
    (k : G P fn Post (nx (adv P st) (.string (mkS (l.drop n)))) u m) : G P fn Post st u m := by
  refine G.askQ _ h hq (by simp) (fun env o hview hQ w hp => ?_) k
  obtain ⟨t, X, L, H, M, e1, e2, e3, e4, e5, hsz⟩ := view_slice hview
  obtain ⟨dst, opp, type, pos, after, guard⟩ := o
  simp only at e1; subst e1
  simp only [isStrSlice] at hQ
  split at hQ
  · rename_i hu
    have h1 : (0 : Int) ≤ n ∧ (n : Int) ≤ (mkS l).size := by rw [Go.Lib.size_mk]; omega
    simp only [execOp, e2, e3, e4, e5]
    simp only [Instr.sliceAt, Sem.run_bind, run_underlying hu, Result.andThen_ok, Instr.slice, Instr.sliceBounds, Instr.sliceBound, asIntOf, Sem.run_pure, if_true, Option.isSome, Sem.run_ite, h1, and_self, Int.toNat_natCast, Nat.sub_zero]
    have h2 : (mkS l).extract n (mkS l).size = mkS (l.drop n) := by
      rw [Go.Lib.extract_mk, Go.Lib.size_mk, List.take_of_length_le (by simp)]
    simp [h2]
  · cases hQ
theorem G.convI (k0 k1 k2 : IntKind) (x z : Int) (h : stopV P (adv P st) = .conv (some (.int k0)) (some (.int k1)) (.int k2 x)) (hz : k1.wrap x = z)
    (k : G P fn Post (nx (adv P st) (.int k1 z)) u m) : G P fn Post st u m := by
  refine G.ask h (by simp) (fun env o hview w _ => ?_) k
  obtain ⟨s, d, X, e1, e2, e3, e4⟩ := view_conv hview
  obtain ⟨dst, opp, type, pos, after, guard⟩ := o
  simp only at e1; subst e1
  simp [execOp, convert, e2, run_underlying e3, run_underlying e4, Conv.intToInt, hz]
def bytesV (l : List UInt8) : List Value := l.map fun b => Value.int .u8 (b.toNat : Int)
theorem bytesV_length (l : List UInt8) : (bytesV l).length = l.length := by simp [bytesV]
theorem bytesV_ok (l : List UInt8) : ElsOK 1 (bytesV l) := by
  intro e he
  simp only [bytesV, List.mem_map] at he
  obtain ⟨b, _, rfl⟩ := he
  exact ⟨rfl, fun x hx => by simp [Value.cells] at hx; subst hx; rfl⟩
theorem ArrAt.cap {m0 : PH} {t : TypeId} {sz : Nat} {es : List Value} {a : Option Addr} {n c : Nat} (ha : ArrAt m0 m (.slice a n c) t sz es) : n ≤ c := by
  rcases ha.2 with ⟨hv, rfl, hm⟩ | ⟨g, cap, rest, hg0, rfl, hv, hcap, hlen, hrest⟩
  · simp at hv; omega
  · simp at hv; omega
end rules
end Go.Proofs.YtpdboaedoimahaaGreatDoor
end
section
set_option linter.unusedVariables false
namespace Go.Proofs.YtpdboaedoimahaaGreatDoor
open Go.Lib
def ld (n k : Nat) : List UInt8 := (List.range k).map (dg n)
theorem ld_succ (n k : Nat) : ld n (k + 1) = ld n k ++ [dg n k] := by simp [ld, List.range_succ]
theorem ld_length (n k : Nat) : (ld n k).length = k := by simp [ld]
theorem ld_get {n k j : Nat} (h : j < k) : (ld n k)[j]? = some (dg n j) := by simp [ld, h]
theorem ld_rev (n : Nat) : (ld n (nDigits n)).reverse = decDigits n := by
  rw [decDigits_eq]
  apply List.ext_getElem?
  intro i
  by_cases h : i < nDigits n
  · rw [List.getElem?_reverse (by rw [ld_length]; exact h), ld_length, ld_get (by omega)]
    simp [h]
  · rw [List.getElem?_eq_none (by simp [ld_length]; omega), List.getElem?_eq_none (by simp; omega)]
theorem limbs_getD (n i : Nat) : (limbs n).getD i 0 = n / 1000000000 ^ i % 1000000000 := by
  induction i generalizing n with
  | zero =>
    by_cases h : n = 0
    · subst h; simp [limbs_zero]
    · rw [limbs_pos h]; simp
  | succ i ih =>
    by_cases h : n = 0
    · subst h; simp [limbs_zero]
    · rw [limbs_pos h, List.getD_cons_succ, ih, Nat.pow_succ, Nat.mul_comm, Nat.div_div_eq_div_mul]
theorem ten9 (i : Nat) : (1000000000 : Nat) ^ i = 10 ^ (9 * i) := by rw [Nat.pow_mul]
theorem u8_ofNat {k : Nat} (h : k < 256) : (UInt8.ofNat k).toNat = k := by simp; omega
theorem dg_toNat (n j : Nat) : (dg n j).toNat = 48 + n / 10 ^ j % 10 := by
  unfold dg
  have : n / 10 ^ j % 10 < 10 := Nat.mod_lt _ (by omega)
  exact u8_ofNat (by omega)
theorem top_zero {n k : Nat} (h : n < 10 ^ (k + 1)) : n / 10 ^ k % 10 = 0 ↔ n < 10 ^ k := by
  have hp : 0 < 10 ^ k := Nat.pow_pos (by omega)
  have h1 : n / 10 ^ k < 10 := by rw [Nat.div_lt_iff_lt_mul hp, Nat.mul_comm, ← Nat.pow_succ]; exact h
  rw [Nat.mod_eq_of_lt h1, Nat.div_eq_zero_iff]
  constructor
  · rintro (h | h)
    · omega
    · exact h
  · exact .inr
theorem lt_pow_limbs (n : Nat) : n < 10 ^ (9 * (limbs n).length) := by rw [← ten9]; exact lt_pow_nl n
theorem nDigits_shift {n j : Nat} (h : 10 ^ j ≤ n) : nDigits n = j + nDigits (n / 10 ^ j) := by
  induction j generalizing n with
  | zero => simp
  | succ j ih =>
    have hp : 0 < 10 ^ j := Nat.pow_pos (by omega)
    rw [Nat.pow_succ] at h
    rw [nDigits_big (by omega), ih (n := n / 10) (by rw [Nat.le_div_iff_mul_le (by omega)]; exact h), Nat.pow_succ, Nat.mul_comm (10 ^ j), ← Nat.div_div_eq_div_mul]; omega
theorem nDigits_top {n : Nat} (h : n ≠ 0) : nDigits n = 9 * ((limbs n).length - 1) + nDigits ((limbs n).getD ((limbs n).length - 1) 0) := by
  have h1 := pow_le_of_nl h
  rw [ten9] at h1
  rw [limbs_getD, nDigits_shift h1, ten9, Nat.mod_eq_of_lt]; rfl
  rw [Nat.div_lt_iff_lt_mul (Nat.pow_pos (by omega))]
  have h2 := lt_pow_nl n
  have h3 : 0 < nl n := by
    rcases Nat.eq_zero_or_pos (nl n) with h0 | h0
    · rw [h0] at h2; simp at h2; omega
    · exact h0
  have e : (1000000000 : Nat) * 10 ^ (9 * ((limbs n).length - 1)) = 1000000000 ^ nl n := by
    rw [← ten9, Nat.mul_comm, ← Nat.pow_succ]; congr 1; show nl n - 1 + 1 = nl n; omega
  rw [e]; exact h2
def IsDig (l : List UInt8) : Prop := ∀ b ∈ l, 48 ≤ b.toNat ∧ b.toNat ≤ 57
def rdA (a : Nat) (l : List UInt8) : Nat := l.foldl (fun a b => 10 * a + (b.toNat - 48)) a
def rd (l : List UInt8) : Nat := rdA 0 l
theorem rdA_append (a : Nat) (l l' : List UInt8) : rdA a (l ++ l') = rdA (rdA a l) l' := by simp [rdA]
theorem rdA_eq (a : Nat) (l : List UInt8) : rdA a l = a * 10 ^ l.length + rd l := by
  induction l generalizing a with
  | nil => simp [rdA, rd]
  | cons b l ih =>
    have e1 : rdA a (b :: l) = rdA (10 * a + (b.toNat - 48)) l := rfl
    have e2 : rd (b :: l) = rdA (10 * 0 + (b.toNat - 48)) l := rfl
    rw [e1, e2, ih, ih (10 * 0 + (b.toNat - 48)), List.length_cons, Nat.pow_succ, Nat.mul_zero, Nat.zero_add, ← Nat.add_assoc]
    congr 1
    rw [Nat.add_mul]; congr 1
    rw [Nat.mul_comm 10 a, Nat.mul_assoc, Nat.mul_comm 10]
theorem rd_append (l l' : List UInt8) : rd (l ++ l') = rd l * 10 ^ l'.length + rd l' := by rw [rd, rdA_append, rdA_eq]; rfl
theorem rd_lt {l : List UInt8} (h : IsDig l) : rd l < 10 ^ l.length := by
  induction l with
  | nil => simp [rd, rdA]
  | cons b l ih =>
    have e2 : rd (b :: l) = rdA (10 * 0 + (b.toNat - 48)) l := rfl
    have hb := h b (by simp)
    have := ih fun x hx => h x (by simp [hx])
    rw [e2, rdA_eq, List.length_cons, Nat.pow_succ]
    have h2 : (10 * 0 + (b.toNat - 48)) * 10 ^ l.length ≤ 9 * 10 ^ l.length := Nat.mul_le_mul_right _ (by omega)
    omega
theorem dec_dig (n : Nat) : IsDig (decDigits n) := by
  rw [decDigits_eq]
  intro b hb
  simp only [List.mem_map] at hb
  obtain ⟨t, _, rfl⟩ := hb
  rw [dg_toNat]; have := Nat.mod_lt (n / 10 ^ (nDigits n - 1 - t)) (show 0 < 10 by omega); omega
theorem rd_dec (n : Nat) : rd (decDigits n) = n := by
  induction n using Nat.strongRecOn with
  | ind n ih =>
    rw [decDigits]
    by_cases h : n < 10
    · rw [dif_pos h]
      have : (UInt8.ofNat (48 + n)).toNat = 48 + n := u8_ofNat (by omega)
      show 10 * 0 + ((UInt8.ofNat (48 + n)).toNat - 48) = n
      omega
    · rw [dif_neg h, rd_append, ih _ (by omega)]
      have : (UInt8.ofNat (48 + n % 10)).toNat = 48 + n % 10 := u8_ofNat (by omega)
      show n / 10 * 10 ^ 1 + (10 * 0 + ((UInt8.ofNat (48 + n % 10)).toNat - 48)) = n
      omega
theorem dec_ne_nil (n : Nat) : decDigits n ≠ [] := by
  intro h; have := decDigits_length n; rw [h] at this; have := nDigits_pos n; simp at *; omega
theorem dec_head (n : Nat) : (decDigits n)[0]? = some (dg n (nDigits n - 1)) := by
  rw [decDigits_eq]; have h : 0 < nDigits n := nDigits_pos n; simp [h]
theorem pow_le_nDigits {n : Nat} (h : n ≠ 0) : 10 ^ (nDigits n - 1) ≤ n := by
  induction n using Nat.strongRecOn with
  | ind n ih =>
    by_cases h1 : n < 10
    · rw [nDigits_small h1]; simp; omega
    · rw [nDigits_big h1]
      have h2 := ih (n / 10) (by omega) (by omega)
      have h3 := nDigits_pos (n / 10)
      rw [show nDigits (n / 10) + 1 - 1 = (nDigits (n / 10) - 1) + 1 by omega, Nat.pow_succ]
      omega
theorem dec_first {n : Nat} (h : n ≠ 0) : 49 ≤ (dg n (nDigits n - 1)).toNat := by
  rw [dg_toNat]
  have h1 := nDigits_pos n
  have h2 := lt_pow_nDigits n
  rw [show nDigits n = (nDigits n - 1) + 1 by omega] at h2
  have h3 : ¬ _ := fun h0 => absurd ((top_zero h2).1 h0) (by have := pow_le_nDigits h; omega)
  omega
end Go.Proofs.YtpdboaedoimahaaGreatDoor
end
section
set_option linter.unusedSectionVars false
set_option linter.unusedVariables false
namespace Go.Proofs.YtpdboaedoimahaaGreatDoor
open Go.RowKit
theorem bytesV_get {l : List UInt8} {j : Nat} (h : j < l.length) : (bytesV l)[j]? = some (.int .u8 ((l.getD j 0).toNat : Int)) := by
  rw [bytesV, List.getElem?_map, List.getElem?_eq_getElem h, List.getD_eq_getElem?_getD, List.getElem?_eq_getElem h]; rfl
theorem itoa_neg {z : Int} (h : z < 0) : Lib.itoa z = 45 :: Lib.decDigits z.natAbs := by rw [Lib.itoa, if_pos h]
theorem itoa_nonneg {z : Int} (h : ¬ z < 0) : Lib.itoa z = Lib.decDigits z.natAbs := by rw [Lib.itoa, if_neg h]; congr 1; omega
end Go.Proofs.YtpdboaedoimahaaGreatDoor
end
section
set_option linter.unusedSectionVars false
set_option linter.unusedVariables false
namespace Go.Proofs.YtpdboaedoimahaaGreatDoor
open Go.RowKit
theorem IsDig.drop {l : List UInt8} (h : IsDig l) (k : Nat) : IsDig (l.drop k) := fun b hb => h b (List.mem_of_mem_drop hb)
theorem IsDig.take {l : List UInt8} (h : IsDig l) (k : Nat) : IsDig (l.take k) := fun b hb => h b (List.mem_of_mem_take hb)
theorem getD_dig {l : List UInt8} (h : IsDig l) {k : Nat} (hk : k < l.length) : 48 ≤ (l.getD k 0).toNat ∧ (l.getD k 0).toNat ≤ 57 := by
  rw [List.getD_eq_getElem?_getD, List.getElem?_eq_getElem hk]; exact h _ (List.getElem_mem hk)
def signed (b : Bool) (l : List UInt8) : List UInt8 := if b then 45 :: l else l
structure ReadSt (N : Nat) (s : List UInt8) (ys : List Nat) : Prop where
  low : Low ys
  dig : IsDig s
  sum : N = val ys + 1000000000 ^ ys.length * rd s
theorem ReadSt.step {N : Nat} {s : List UInt8} {ys : List Nat} (h : ReadSt N s ys) : ReadSt N (s.take (s.length - 9)) (ys ++ [rd (s.drop (s.length - 9))]) := by
  have hl : rd (s.drop (s.length - 9)) < 1000000000 := by
    have := rd_lt (h.dig.drop (s.length - 9))
    rw [List.length_drop] at this
    exact Nat.lt_of_lt_of_le this (by rw [show (1000000000 : Nat) = 10 ^ 9 from rfl]; exact Nat.pow_le_pow_right (by omega) (by omega))
  refine ⟨h.low.append (Low.cons hl Low.nil), h.dig.take _, ?_⟩
  have e : rd s = rd (s.take (s.length - 9)) * 1000000000 + rd (s.drop (s.length - 9)) := by
    have := rd_append (s.take (s.length - 9)) (s.drop (s.length - 9))
    rw [List.take_append_drop] at this
    rw [this]
    by_cases h9 : 9 ≤ s.length
    · rw [List.length_drop, show s.length - (s.length - 9) = 9 by omega]
    · rw [show s.length - 9 = 0 by omega]; simp [rd, rdA]
  rw [val_snoc, List.length_append, List.length_singleton, Nat.pow_succ, h.sum, e, Nat.mul_add, Nat.mul_assoc, Nat.mul_comm (rd _) 1000000000]
  omega
end Go.Proofs.YtpdboaedoimahaaGreatDoor
end
section
set_option linter.unusedSectionVars false
set_option linter.unusedVariables false
namespace Go.Proofs.YtpdboaedoimahaaGreatDoor
open Go.RowKit
theorem itoa_signed (z : Int) : Lib.itoa z = signed (decide (z < 0)) (Lib.decDigits z.natAbs) := by
  by_cases h : z < 0
  · rw [itoa_neg h, decide_eq_true h]; rfl
  · rw [itoa_nonneg h, decide_eq_false h]; rfl
theorem sgnd_itoa (z : Int) : sgnd (decide (z < 0)) (rd (Lib.decDigits z.natAbs)) = z := by rw [rd_dec]; exact sgnd_self z
theorem nl_of_digk {n k : Nat} (h : Lib.nDigits n ≤ k) : nl n ≤ k := by
  refine nl_le_of_lt (Nat.lt_of_lt_of_le (Lib.lt_pow_nDigits n) ?_)
  rw [ten9]; exact Nat.pow_le_pow_right (by omega) (by omega)
theorem nl_of_dig {n : Nat} (h : Lib.nDigits n ≤ 400) : nl n ≤ 400 := nl_of_digk h
theorem itoa_len {z : Int} (h : Lib.nDigits z.natAbs ≤ 400) : (Lib.itoa z).length ≤ 401 := by
  rw [itoa_signed]; unfold signed; split <;> simp [Lib.decDigits_length] <;> omega
theorem dec_zero : Lib.decDigits 0 = [48] := Lib.decDigits_one (by omega)
theorem dec_onee : Lib.decDigits 1 = [49] := Lib.decDigits_one (by omega)
theorem itoa_zero : Lib.itoa 0 = [48] := by rw [itoa_nonneg (by omega)]; exact dec_zero
theorem itoa_one : Lib.itoa 1 = [49] := by rw [itoa_nonneg (by omega)]; exact dec_onee
theorem itoa_nat (n : Nat) : Lib.itoa (n : Int) = Lib.decDigits n := by rw [itoa_nonneg (by omega)]; congr 1
def rdZ (t : List UInt8) : Int := match t with
  | 45 :: l => -(rd l : Int)
  | l => rd l
theorem rdZ_itoa (z : Int) : rdZ (Lib.itoa z) = z := by
  by_cases h : z < 0
  · rw [itoa_neg h]; simp only [rdZ, rd_dec]; omega
  · rw [itoa_nonneg h]
    have h1 := dec_head z.natAbs
    have h2 := rd_dec z.natAbs
    have h3 := dec_dig z.natAbs
    generalize Lib.decDigits z.natAbs = l at *
    cases l with
    | nil => simp at h1
    | cons b l =>
      have hb := h3 b (by simp)
      unfold rdZ
      split
      · rename_i e; simp at e; rw [e.1] at hb; simp at hb
      · rw [h2]; omega
theorem itoa_inj {y z : Int} (h : Lib.itoa y = Lib.itoa z) : y = z := by rw [← rdZ_itoa y, h, rdZ_itoa]
theorem itoa_first {z : Int} (hz : 0 ≤ z) (h0 : z ≠ 0) : ∃ b, (Lib.itoa z)[0]? = some b ∧ 49 ≤ b.toNat ∧ b.toNat ≤ 57 := by
  rw [itoa_nonneg (by omega)]
  refine ⟨_, dec_head _, dec_first (by omega), ?_⟩
  rw [dg_toNat]; have := Nat.mod_lt (z.natAbs / 10 ^ (Lib.nDigits z.natAbs - 1)) (show 0 < 10 by omega); omega
def ratT (q : Rat) : List UInt8 := if q.den = 1 then Lib.itoa q.num else Lib.itoa q.num ++ 47 :: Lib.itoa (q.den : Int)
def Tx (q : Rat) : Prop := Lib.nDigits q.num.natAbs ≤ 400 ∧ Lib.nDigits q.den ≤ 400
theorem Tx.den {q : Rat} (h : Tx q) : Lib.nDigits ((q.den : Int)).natAbs ≤ 400 := by simpa using h.2
theorem Sz.mono {q : Rat} {j k : Nat} (h : Sz q j) (hjk : j ≤ k) : Sz q k := ⟨Nat.le_trans h.1 hjk, Nat.le_trans h.2 hjk⟩
theorem itoa_no47 (z : Int) : ∀ b ∈ Lib.itoa z, b ≠ 47 := by
  have hd := dec_dig z.natAbs
  intro b hb e
  subst e
  rw [itoa_signed] at hb
  unfold signed at hb
  split at hb
  · simp at hb
    have := hd _ hb; simp at this
  · have := hd _ hb; simp at this
theorem num_ne {q : Rat} (h : q.den ≠ 1) : q.num ≠ 0 := fun h0 => h (by have := Rat.num_eq_zero.1 h0; subst this; rfl)
end Go.Proofs.YtpdboaedoimahaaGreatDoor
end
section
namespace Go.Proofs
open Go.Shelf
def Tryz.lays169_ren : Go.Shelf.Ren := ⟨fun | 169 => 222 | n => n, fun | 70 => 279 | 9 => 9 | 0 => 0 | 72 => 281 | 37 => 120 | 127 => 306 | 3 => 3 | 5 => 5 | n => n, fun | n => n⟩
theorem Tryz.lays169 : Go.Proofs.Lays.n169 Tryz.prog Tryz.lays169_ren := {
  mixed := by kernel_rfl
  f169 := Tryz.func222.trans (congrArg some (by kernel_rfl))
  t0 := Tryz.underlying0
  a0 := Tryz.isAgg0
  z0 := Tryz.sizeOf0
  v0 := Tryz.zeroValue0
  t3 := Tryz.underlying3
  a3 := Tryz.isAgg3
  z3 := Tryz.sizeOf3
  v3 := Tryz.zeroValue3
  t9 := Tryz.underlying9
  a9 := Tryz.isAgg9
  z9 := Tryz.sizeOf9
  v9 := Tryz.zeroValue9
  t37 := Tryz.underlying120
  a37 := Tryz.isAgg120
  z37 := Tryz.sizeOf120
  v37 := Tryz.zeroValue120
  t70 := Tryz.underlying279
  a70 := Tryz.isAgg279
  z70 := Tryz.sizeOf279
  v70 := Tryz.zeroValue279
  t72 := Tryz.underlying281
  a72 := Tryz.isAgg281
  z72 := Tryz.sizeOf281
  v72 := Tryz.zeroValue281
  t127 := Tryz.underlying306
  a127 := Tryz.isAgg306
  z127 := Tryz.sizeOf306
  v127 := Tryz.zeroValue306 }
theorem Tryz.Builder_Extra_169 : Builder.Extra Tryz.prog Tryz.lays169_ren := {
  sizeBuilder := by kernel_rfl
  liesBuilder := by kernel_rfl
  t5 := Tryz.underlying5
  a5 := Tryz.isAgg5
  z5 := Tryz.sizeOf5
  v5 := Tryz.zeroValue5
  infoByte := by kernel_rfl
  cellsByte := by kernel_rfl
  sizeByte := by kernel_rfl
  neB5 := by decide }
open Go.RowKit in
theorem Tryz.Builder_String (B b : Nat) (l : List UInt8) (w : World) (h : Lib.IsBuilder 281 5 B b (Lib.byteCells l) w) (h0 : l ≠ []) :
    Calls Tryz.prog 222 #[.pointer (some ⟨b, 0, none⟩)] w fun e w' => e = .returned (.string ⟨l.toArray⟩) ∧ Below B w w' := Any.Builder_String Tryz.lays169 Tryz.Builder_Extra_169 B b l w h h0
def Tryz.lays210_ren : Go.Shelf.Ren := ⟨fun | 210 => 211 | 206 => 236 | n => n, fun | 9 => 9 | 4 => 4 | 3 => 3 | n => n, fun | n => n⟩
def Tryz.lays103_ren : Go.Shelf.Ren := ⟨fun | 103 => 178 | 210 => 211 | 206 => 236 | n => n, fun | 9 => 9 | 4 => 4 | 24 => 243 | 3 => 3 | n => n, fun | n => n⟩
theorem Tryz.lays103 : Go.Proofs.Lays.n103 Tryz.prog Tryz.lays103_ren := {
  mixed := by kernel_rfl
  f103 := Tryz.func178.trans (congrArg some (by kernel_rfl))
  f206 := Tryz.func236.trans (congrArg some (by kernel_rfl))
  f210 := Tryz.func211.trans (congrArg some (by kernel_rfl))
  t3 := Tryz.underlying3
  a3 := Tryz.isAgg3
  z3 := Tryz.sizeOf3
  v3 := Tryz.zeroValue3
  t4 := Tryz.underlying4
  a4 := Tryz.isAgg4
  z4 := Tryz.sizeOf4
  v4 := Tryz.zeroValue4
  t9 := Tryz.underlying9
  a9 := Tryz.isAgg9
  z9 := Tryz.sizeOf9
  v9 := Tryz.zeroValue9
  t24 := Tryz.underlying243
  a24 := Tryz.isAgg243
  z24 := Tryz.sizeOf243
  v24 := Tryz.zeroValue243 }
open Go.RowKit in
theorem Tryz.strings_CutPrefix (s p : ByteArray) (w : World) :
    Calls Tryz.prog 178 #[.string s, .string p] w fun e w' => e = .returned (.tuple #[.string ⟨(Lib.trimPrefix s.data.toList p.data.toList).toArray⟩, .bool (Lib.hasPrefix s.data.toList p.data.toList)]) ∧ w' = w := Any.strings_CutPrefix Tryz.lays103 s p w
def Tryz.lays283_ren : Go.Shelf.Ren := ⟨fun | 283 => 245 | n => n, fun | 3 => 3 | 9 => 9 | 4 => 4 | n => n, fun | n => n⟩
theorem Tryz.lays283 : Go.Proofs.Lays.n283 Tryz.prog Tryz.lays283_ren := {
  mixed := by kernel_rfl
  f283 := Tryz.func245.trans (congrArg some (by kernel_rfl))
  t3 := Tryz.underlying3
  a3 := Tryz.isAgg3
  z3 := Tryz.sizeOf3
  v3 := Tryz.zeroValue3
  t4 := Tryz.underlying4
  a4 := Tryz.isAgg4
  z4 := Tryz.sizeOf4
  v4 := Tryz.zeroValue4
  t9 := Tryz.underlying9
  a9 := Tryz.isAgg9
  z9 := Tryz.sizeOf9
  v9 := Tryz.zeroValue9 }
open Go.Lib in
theorem Tryz.internal_strconv_small (i : Nat) (h : i < 100) (w : World) :
    Calls Tryz.prog 245 #[.int .i64 i] w fun e w' => e = .returned (.string ⟨(Lib.decDigits i).toArray⟩) ∧ w' = w := Any.internal_strconv_small Tryz.lays283 i h w
def Tryz.laysM284_ren : Go.Shelf.Ren := ⟨fun | 284 => 246 | 129 => 142 | 317 => 261 | 318 => 262 | n => n, fun | 53 => 215 | 3 => 3 | 212 => 315 | 0 => 0 | 4 => 4 | 46 => 149 | 5 => 5 | 9 => 9 | n => n, fun | 17 => 3 | n => n⟩
theorem Tryz.laysM284 : Go.Proofs.LaysM.n284 Tryz.prog Tryz.laysM284_ren := {
  mixed := by kernel_rfl
  f129 := Tryz.func142.trans (congrArg some (by kernel_rfl))
  f284 := Tryz.func246.trans (congrArg some (by kernel_rfl))
  f317 := Tryz.func261.trans (congrArg some (by kernel_rfl))
  f318 := Tryz.func262.trans (congrArg some (by kernel_rfl))
  t0 := Tryz.underlying0
  a0 := Tryz.isAgg0
  z0 := Tryz.sizeOf0
  v0 := Tryz.zeroValue0
  t3 := Tryz.underlying3
  a3 := Tryz.isAgg3
  z3 := Tryz.sizeOf3
  v3 := Tryz.zeroValue3
  t4 := Tryz.underlying4
  a4 := Tryz.isAgg4
  z4 := Tryz.sizeOf4
  v4 := Tryz.zeroValue4
  t5 := Tryz.underlying5
  a5 := Tryz.isAgg5
  z5 := Tryz.sizeOf5
  v5 := Tryz.zeroValue5
  t9 := Tryz.underlying9
  a9 := Tryz.isAgg9
  z9 := Tryz.sizeOf9
  v9 := Tryz.zeroValue9
  t46 := Tryz.underlying149
  a46 := Tryz.isAgg149
  z46 := Tryz.sizeOf149
  v46 := Tryz.zeroValue149
  t53 := Tryz.underlying215
  a53 := Tryz.isAgg215
  z53 := Tryz.sizeOf215
  v53 := Tryz.zeroValue215
  t212 := Tryz.underlying315
  a212 := Tryz.isAgg315
  z212 := Tryz.sizeOf315
  v212 := Tryz.zeroValue315
  g17 := by kernel_rfl
  i0 := by kernel_rfl
  i3 := by kernel_rfl
  i4 := by kernel_rfl
  i5 := by kernel_rfl
  i9 := by kernel_rfl
  i46 := by kernel_rfl
  i53 := by kernel_rfl
  i212 := by kernel_rfl
  m17 := by kernel_rfl }
open Go.Lib in
theorem Tryz.internal_strconv_numDigits (u : Nat) (h1 : 1 ≤ u) (h2 : u < 18446744073709551616) (w : World) (htab : Lib.TabIs Tryz.prog w "internal/strconv.uint64pow10" .u64 Lib.pow10Tab) :
    Calls Tryz.prog 246 #[.int .u64 u] w fun e w' => e = .returned (.int .i64 (Lib.nDigits u)) ∧ w' = w := Any.internal_strconv_numDigits Tryz.laysM284 u h1 h2 w htab
def Tryz.lays285_ren : Go.Shelf.Ren := ⟨fun | 285 => 247 | n => n, fun | 37 => 120 | 53 => 215 | 3 => 3 | 4 => 4 | 51 => 213 | 9 => 9 | 5 => 5 | 0 => 0 | n => n, fun | n => n⟩
theorem Tryz.lays285 : Go.Proofs.Lays.n285 Tryz.prog Tryz.lays285_ren := {
  mixed := by kernel_rfl
  f285 := Tryz.func247.trans (congrArg some (by kernel_rfl))
  t0 := Tryz.underlying0
  a0 := Tryz.isAgg0
  z0 := Tryz.sizeOf0
  v0 := Tryz.zeroValue0
  t3 := Tryz.underlying3
  a3 := Tryz.isAgg3
  z3 := Tryz.sizeOf3
  v3 := Tryz.zeroValue3
  t4 := Tryz.underlying4
  a4 := Tryz.isAgg4
  z4 := Tryz.sizeOf4
  v4 := Tryz.zeroValue4
  t5 := Tryz.underlying5
  a5 := Tryz.isAgg5
  z5 := Tryz.sizeOf5
  v5 := Tryz.zeroValue5
  t9 := Tryz.underlying9
  a9 := Tryz.isAgg9
  z9 := Tryz.sizeOf9
  v9 := Tryz.zeroValue9
  t37 := Tryz.underlying120
  a37 := Tryz.isAgg120
  z37 := Tryz.sizeOf120
  v37 := Tryz.zeroValue120
  t51 := Tryz.underlying213
  a51 := Tryz.isAgg213
  z51 := Tryz.sizeOf213
  v51 := Tryz.zeroValue213
  t53 := Tryz.underlying215
  a53 := Tryz.isAgg215
  z53 := Tryz.sizeOf215
  v53 := Tryz.zeroValue215 }
open Go.RowKit Go.Sort Go.Lib in
theorem Tryz.internal_strconv_formatBase10 (blk off cap : Nat) (u : Nat) (d : Array UInt8) (w : World) (hH : Holds (fun (b : UInt8) => Value.int .u8 (b.toNat : Int)) w blk off d) (hu : u < 10 ^ d.size) (hu64 : u < 18446744073709551616) (hsz : d.size < 4611686018427387904) :
    Calls Tryz.prog 247 #[.slice (some ⟨blk, off, none⟩) d.size cap, .int .u64 u] w fun e w' =>
      e = .returned (.tuple #[]) ∧ ∃ (n v' : Nat) (dk : Array UInt8), w' = (putRow (fun (b : UInt8) => Value.int .u8 (b.toNat : Int)) w blk off dk).drewN n ∧ FmtInv d.size u 0 v' dk := Any.internal_strconv_formatBase10 Tryz.lays285 blk off cap u d w hH hu hu64 hsz
def Tryz.laysPu14_ren : Go.Shelf.Ren := ⟨fun | 14 => 179 | 16 => 212 | 17 => 213 | 19 => 237 | 20 => 238 | 21 => 239 | 22 => 240 | 23 => 241 | 24 => 242 | 25 => 258 | 27 => 260 | 26 => 259 | 28 => 268 | 29 => 272 | 30 => 245 | 31 => 246 | 32 => 247 | 33 => 248 | 35 => 142 | 34 => 261 | 36 => 262 | 37 => 263 | 38 => 264 | 39 => 269 | 40 => 270 | n => n, fun | 9 => 9 | 3 => 3 | 22 => 215 | 24 => 246 | 25 => 247 | 4 => 4 | 34 => 292 | 5 => 5 | 36 => 149 | 37 => 120 | 0 => 0 | 39 => 294 | 21 => 21 | 44 => 312 | 47 => 306 | 50 => 322 | 48 => 320 | 2 => 2 | 52 => 301 | 55 => 303 | 59 => 315 | 60 => 213 | 20 => 20 | 61 => 316 | 65 => 325 | 66 => 326 | 67 => 190 | n => n, fun | 0 => 1 | 1 => 2 | 2 => 3 | 3 => 4 | 4 => 5 | n => n⟩
theorem Tryz.laysPu14 : Go.Proofs.LaysPu.n14 Tryz.prog Tryz.laysPu14_ren := {
  mixed := by kernel_rfl
  f14 := Tryz.func179.trans (congrArg some (by kernel_rfl))
  f16 := Tryz.func212.trans (congrArg some (by kernel_rfl))
  f17 := Tryz.func213.trans (congrArg some (by kernel_rfl))
  f19 := Tryz.func237.trans (congrArg some (by kernel_rfl))
  f20 := Tryz.func238.trans (congrArg some (by kernel_rfl))
  f21 := Tryz.func239.trans (congrArg some (by kernel_rfl))
  f22 := Tryz.func240.trans (congrArg some (by kernel_rfl))
  f23 := Tryz.func241.trans (congrArg some (by kernel_rfl))
  f24 := Tryz.func242.trans (congrArg some (by kernel_rfl))
  f25 := Tryz.func258.trans (congrArg some (by kernel_rfl))
  f26 := Tryz.func259.trans (congrArg some (by kernel_rfl))
  f27 := Tryz.func260.trans (congrArg some (by kernel_rfl))
  f28 := Tryz.func268.trans (congrArg some (by kernel_rfl))
  f29 := Tryz.func272.trans (congrArg some (by kernel_rfl))
  f30 := Tryz.func245.trans (congrArg some (by kernel_rfl))
  f31 := Tryz.func246.trans (congrArg some (by kernel_rfl))
  f32 := Tryz.func247.trans (congrArg some (by kernel_rfl))
  f33 := Tryz.func248.trans (congrArg some (by kernel_rfl))
  f34 := Tryz.func261.trans (congrArg some (by kernel_rfl))
  f35 := Tryz.func142.trans (congrArg some (by kernel_rfl))
  f36 := Tryz.func262.trans (congrArg some (by kernel_rfl))
  f37 := Tryz.func263.trans (congrArg some (by kernel_rfl))
  f38 := Tryz.func264.trans (congrArg some (by kernel_rfl))
  f39 := Tryz.func269.trans (congrArg some (by kernel_rfl))
  f40 := Tryz.func270.trans (congrArg some (by kernel_rfl))
  t0 := Tryz.underlying0
  a0 := Tryz.isAgg0
  z0 := Tryz.sizeOf0
  v0 := Tryz.zeroValue0
  i0 := by kernel_rfl
  t2 := Tryz.underlying2
  a2 := Tryz.isAgg2
  z2 := Tryz.sizeOf2
  v2 := Tryz.zeroValue2
  i2 := by kernel_rfl
  t3 := Tryz.underlying3
  a3 := Tryz.isAgg3
  z3 := Tryz.sizeOf3
  v3 := Tryz.zeroValue3
  i3 := by kernel_rfl
  t4 := Tryz.underlying4
  a4 := Tryz.isAgg4
  z4 := Tryz.sizeOf4
  v4 := Tryz.zeroValue4
  i4 := by kernel_rfl
  t5 := Tryz.underlying5
  a5 := Tryz.isAgg5
  z5 := Tryz.sizeOf5
  v5 := Tryz.zeroValue5
  i5 := by kernel_rfl
  t9 := Tryz.underlying9
  a9 := Tryz.isAgg9
  z9 := Tryz.sizeOf9
  v9 := Tryz.zeroValue9
  i9 := by kernel_rfl
  t20 := Tryz.underlying20
  a20 := Tryz.isAgg20
  z20 := Tryz.sizeOf20
  v20 := Tryz.zeroValue20
  i20 := by kernel_rfl
  t21 := Tryz.underlying21
  a21 := Tryz.isAgg21
  z21 := Tryz.sizeOf21
  v21 := Tryz.zeroValue21
  i21 := by kernel_rfl
  t22 := Tryz.underlying215
  a22 := Tryz.isAgg215
  z22 := Tryz.sizeOf215
  v22 := Tryz.zeroValue215
  i22 := by kernel_rfl
  t24 := Tryz.underlying246
  a24 := Tryz.isAgg246
  z24 := Tryz.sizeOf246
  v24 := Tryz.zeroValue246
  i24 := by kernel_rfl
  t25 := Tryz.underlying247
  a25 := Tryz.isAgg247
  z25 := Tryz.sizeOf247
  v25 := Tryz.zeroValue247
  i25 := by kernel_rfl
  t34 := Tryz.underlying292
  a34 := Tryz.isAgg292
  z34 := Tryz.sizeOf292
  v34 := Tryz.zeroValue292
  i34 := by kernel_rfl
  c34 := by kernel_rfl
  t36 := Tryz.underlying149
  a36 := Tryz.isAgg149
  z36 := Tryz.sizeOf149
  v36 := Tryz.zeroValue149
  i36 := by kernel_rfl
  t37 := Tryz.underlying120
  a37 := Tryz.isAgg120
  z37 := Tryz.sizeOf120
  v37 := Tryz.zeroValue120
  i37 := by kernel_rfl
  t39 := Tryz.underlying294
  a39 := Tryz.isAgg294
  z39 := Tryz.sizeOf294
  v39 := Tryz.zeroValue294
  i39 := by kernel_rfl
  t44 := Tryz.underlying312
  a44 := Tryz.isAgg312
  z44 := Tryz.sizeOf312
  v44 := Tryz.zeroValue312
  i44 := by kernel_rfl
  t47 := Tryz.underlying306
  a47 := Tryz.isAgg306
  z47 := Tryz.sizeOf306
  v47 := Tryz.zeroValue306
  i47 := by kernel_rfl
  t48 := Tryz.underlying320
  a48 := Tryz.isAgg320
  z48 := Tryz.sizeOf320
  v48 := Tryz.zeroValue320
  i48 := by kernel_rfl
  t50 := Tryz.underlying322
  a50 := Tryz.isAgg322
  z50 := Tryz.sizeOf322
  v50 := Tryz.zeroValue322
  i50 := by kernel_rfl
  t52 := Tryz.underlying301
  a52 := Tryz.isAgg301
  z52 := Tryz.sizeOf301
  v52 := Tryz.zeroValue301
  i52 := by kernel_rfl
  t55 := Tryz.underlying303
  a55 := Tryz.isAgg303
  z55 := Tryz.sizeOf303
  v55 := Tryz.zeroValue303
  i55 := by kernel_rfl
  t59 := Tryz.underlying315
  a59 := Tryz.isAgg315
  z59 := Tryz.sizeOf315
  v59 := Tryz.zeroValue315
  i59 := by kernel_rfl
  t60 := Tryz.underlying213
  a60 := Tryz.isAgg213
  z60 := Tryz.sizeOf213
  v60 := Tryz.zeroValue213
  i60 := by kernel_rfl
  t61 := Tryz.underlying316
  a61 := Tryz.isAgg316
  z61 := Tryz.sizeOf316
  t65 := Tryz.underlying325
  a65 := Tryz.isAgg325
  z65 := Tryz.sizeOf325
  v65 := Tryz.zeroValue325
  i65 := by kernel_rfl
  t66 := Tryz.underlying326
  a66 := Tryz.isAgg326
  z66 := Tryz.sizeOf326
  v66 := Tryz.zeroValue326
  i66 := by kernel_rfl
  t67 := Tryz.underlying190
  a67 := Tryz.isAgg190
  z67 := Tryz.sizeOf190
  v67 := Tryz.zeroValue190
  i67 := by kernel_rfl
  g0 := by kernel_rfl
  m0 := by kernel_rfl
  g1 := by kernel_rfl
  m1 := by kernel_rfl
  g2 := by kernel_rfl
  m2 := by kernel_rfl
  g3 := by kernel_rfl
  m3 := by kernel_rfl
  g4 := by kernel_rfl
  m4 := by kernel_rfl }
open Go.RowKit in
theorem Tryz.strconv_ParseUint_10_at64_ok (s : ByteArray) (hmax : s.size ≤ 9223372036854775806) (u : Nat) (h : Lib.parseUintB 64 s.data.toList = .ok u) (w : World) :
    Calls Tryz.prog 179 #[.string s, .int .i64 10, .int .i64 64] w fun e w' => e = .returned (.tuple #[.int .u64 u, .nilIface]) ∧ (w' = w ∨ w' = Lib.bytesWorld w 5 s) := Any.strconv_ParseUint_10_at64_ok Tryz.laysPu14 s hmax u h w
def Tryz.lays219_ren : Go.Shelf.Ren := ⟨fun | 219 => 209 | 217 => 232 | 225 => 233 | 224 => 234 | 267 => 235 | 266 => 256 | 314 => 257 | n => n, fun | 9 => 9 | 3 => 3 | 4 => 4 | 5 => 5 | 46 => 149 | 146 => 218 | 51 => 213 | n => n, fun | 1 => 0 | n => n⟩
theorem Tryz.lays219 : Go.Proofs.Lays.n219 Tryz.prog Tryz.lays219_ren := {
  mixed := by kernel_rfl
  f217 := Tryz.func232.trans (congrArg some (by kernel_rfl))
  f219 := Tryz.func209.trans (congrArg some (by kernel_rfl))
  f224 := Tryz.func234.trans (congrArg some (by kernel_rfl))
  f225 := Tryz.func233.trans (congrArg some (by kernel_rfl))
  f266 := Tryz.func256.trans (congrArg some (by kernel_rfl))
  f267 := Tryz.func235.trans (congrArg some (by kernel_rfl))
  f314 := Tryz.func257.trans (congrArg some (by kernel_rfl))
  t3 := Tryz.underlying3
  a3 := Tryz.isAgg3
  z3 := Tryz.sizeOf3
  v3 := Tryz.zeroValue3
  t4 := Tryz.underlying4
  a4 := Tryz.isAgg4
  z4 := Tryz.sizeOf4
  v4 := Tryz.zeroValue4
  t5 := Tryz.underlying5
  a5 := Tryz.isAgg5
  z5 := Tryz.sizeOf5
  v5 := Tryz.zeroValue5
  t9 := Tryz.underlying9
  a9 := Tryz.isAgg9
  z9 := Tryz.sizeOf9
  v9 := Tryz.zeroValue9
  t46 := Tryz.underlying149
  a46 := Tryz.isAgg149
  z46 := Tryz.sizeOf149
  v46 := Tryz.zeroValue149
  t51 := Tryz.underlying213
  a51 := Tryz.isAgg213
  z51 := Tryz.sizeOf213
  v51 := Tryz.zeroValue213
  t146 := Tryz.underlying218
  a146 := Tryz.isAgg218
  z146 := Tryz.sizeOf218
  v146 := Tryz.zeroValue218
  g1 := by kernel_rfl }
open Go.RowKit Go.Lib in
theorem Tryz.stringslite_Index_one (s : ByteArray) (c : UInt8) (w : World) :
    Calls Tryz.prog 209 #[.string s, .string ⟨#[c]⟩] w fun e w' => e = .returned (.int .i64 (Lib.indexByte s.data.toList c)) ∧ w' = w := Any.stringslite_Index_one Tryz.lays219 s c w
def Tryz.lays101_ren : Go.Shelf.Ren := ⟨fun | 101 => 176 | 208 => 210 | 206 => 236 | n => n, fun | 9 => 9 | 4 => 4 | 3 => 3 | n => n, fun | n => n⟩
theorem Tryz.lays101 : Go.Proofs.Lays.n101 Tryz.prog Tryz.lays101_ren := {
  mixed := by kernel_rfl
  f101 := Tryz.func176.trans (congrArg some (by kernel_rfl))
  f206 := Tryz.func236.trans (congrArg some (by kernel_rfl))
  f208 := Tryz.func210.trans (congrArg some (by kernel_rfl))
  t3 := Tryz.underlying3
  a3 := Tryz.isAgg3
  z3 := Tryz.sizeOf3
  v3 := Tryz.zeroValue3
  t4 := Tryz.underlying4
  a4 := Tryz.isAgg4
  z4 := Tryz.sizeOf4
  v4 := Tryz.zeroValue4
  t9 := Tryz.underlying9
  a9 := Tryz.isAgg9
  z9 := Tryz.sizeOf9
  v9 := Tryz.zeroValue9 }
open Go.RowKit Go.Lib in
theorem Tryz.strings_TrimPrefix (s p : ByteArray) (w : World) :
    Calls Tryz.prog 176 #[.string s, .string p] w fun e w' => e = .returned (.string ⟨(Lib.trimPrefix s.data.toList p.data.toList).toArray⟩) ∧ w' = w := Any.strings_TrimPrefix Tryz.lays101 s p w
def Tryz.lays212_ren : Go.Shelf.Ren := ⟨fun | 212 => 84 | 263 => 148 | 264 => 149 | n => n, fun | 46 => 149 | 51 => 213 | 146 => 218 | 53 => 215 | 148 => 220 | n => n, fun | n => n⟩
theorem Tryz.lays212 : Go.Proofs.Lays.n212 Tryz.prog Tryz.lays212_ren := {
  mixed := by kernel_rfl
  f212 := Tryz.func84.trans (congrArg some (by kernel_rfl))
  f263 := Tryz.func148.trans (congrArg some (by kernel_rfl))
  f264 := Tryz.func149.trans (congrArg some (by kernel_rfl))
  t46 := Tryz.underlying149
  a46 := Tryz.isAgg149
  z46 := Tryz.sizeOf149
  v46 := Tryz.zeroValue149
  t51 := Tryz.underlying213
  a51 := Tryz.isAgg213
  z51 := Tryz.sizeOf213
  v51 := Tryz.zeroValue213
  t53 := Tryz.underlying215
  a53 := Tryz.isAgg215
  z53 := Tryz.sizeOf215
  v53 := Tryz.zeroValue215
  t146 := Tryz.underlying218
  a146 := Tryz.isAgg218
  z146 := Tryz.sizeOf218
  v146 := Tryz.zeroValue218
  t148 := Tryz.underlying220
  a148 := Tryz.isAgg220
  z148 := Tryz.sizeOf220
  v148 := Tryz.zeroValue220 }
open Go.RowKit Go.Lib in
theorem Tryz.bits_Mul (x y : Nat) (hx : x < 18446744073709551616) (hy : y < 18446744073709551616) (w : World) :
    Calls Tryz.prog 84 #[.int .u64 x, .int .u64 y] w fun e w' => e = .returned (.tuple #[.int .u64 ((x * y / 18446744073709551616 : Nat) : Int), .int .u64 ((x * y % 18446744073709551616 : Nat) : Int)]) ∧ w' = w := Any.bits_Mul Tryz.lays212 x y hx hy w
def Tryz.lays105_ren : Go.Shelf.Ren := ⟨fun | 105 => 221 | 212 => 84 | 99 => 250 | 165 => 251 | 166 => 220 | 170 => 252 | 169 => 222 | 263 => 148 | 264 => 149 | 206 => 236 | 240 => 249 | 241 => 266 | 276 => 265 | 277 => 271 | n => n, fun | 9 => 9 | 3 => 3 | 4 => 4 | 20 => 20 | 0 => 0 | 46 => 149 | 109 => 154 | 5 => 5 | 72 => 281 | 76 => 282 | 51 => 213 | 146 => 218 | 53 => 215 | 148 => 220 | 70 => 279 | 37 => 120 | 75 => 246 | 127 => 306 | 164 => 317 | 80 => 190 | n => n, fun | n => n⟩
theorem Tryz.lays105 : Go.Proofs.Lays.n105 Tryz.prog Tryz.lays105_ren := {
  mixed := by kernel_rfl
  f99 := Tryz.func250.trans (congrArg some (by kernel_rfl))
  f105 := Tryz.func221.trans (congrArg some (by kernel_rfl))
  f165 := Tryz.func251.trans (congrArg some (by kernel_rfl))
  f166 := Tryz.func220.trans (congrArg some (by kernel_rfl))
  f169 := Tryz.func222.trans (congrArg some (by kernel_rfl))
  f170 := Tryz.func252.trans (congrArg some (by kernel_rfl))
  f206 := Tryz.func236.trans (congrArg some (by kernel_rfl))
  f212 := Tryz.func84.trans (congrArg some (by kernel_rfl))
  f240 := Tryz.func249.trans (congrArg some (by kernel_rfl))
  f241 := Tryz.func266.trans (congrArg some (by kernel_rfl))
  f263 := Tryz.func148.trans (congrArg some (by kernel_rfl))
  f264 := Tryz.func149.trans (congrArg some (by kernel_rfl))
  f276 := Tryz.func265.trans (congrArg some (by kernel_rfl))
  f277 := Tryz.func271.trans (congrArg some (by kernel_rfl))
  t0 := Tryz.underlying0
  a0 := Tryz.isAgg0
  z0 := Tryz.sizeOf0
  v0 := Tryz.zeroValue0
  t3 := Tryz.underlying3
  a3 := Tryz.isAgg3
  z3 := Tryz.sizeOf3
  v3 := Tryz.zeroValue3
  t4 := Tryz.underlying4
  a4 := Tryz.isAgg4
  z4 := Tryz.sizeOf4
  v4 := Tryz.zeroValue4
  t5 := Tryz.underlying5
  a5 := Tryz.isAgg5
  z5 := Tryz.sizeOf5
  v5 := Tryz.zeroValue5
  t9 := Tryz.underlying9
  a9 := Tryz.isAgg9
  z9 := Tryz.sizeOf9
  v9 := Tryz.zeroValue9
  t20 := Tryz.underlying20
  a20 := Tryz.isAgg20
  z20 := Tryz.sizeOf20
  v20 := Tryz.zeroValue20
  t37 := Tryz.underlying120
  a37 := Tryz.isAgg120
  z37 := Tryz.sizeOf120
  v37 := Tryz.zeroValue120
  t46 := Tryz.underlying149
  a46 := Tryz.isAgg149
  z46 := Tryz.sizeOf149
  v46 := Tryz.zeroValue149
  t51 := Tryz.underlying213
  a51 := Tryz.isAgg213
  z51 := Tryz.sizeOf213
  v51 := Tryz.zeroValue213
  t53 := Tryz.underlying215
  a53 := Tryz.isAgg215
  z53 := Tryz.sizeOf215
  v53 := Tryz.zeroValue215
  t70 := Tryz.underlying279
  a70 := Tryz.isAgg279
  z70 := Tryz.sizeOf279
  v70 := Tryz.zeroValue279
  t72 := Tryz.underlying281
  a72 := Tryz.isAgg281
  z72 := Tryz.sizeOf281
  v72 := Tryz.zeroValue281
  t75 := Tryz.underlying246
  a75 := Tryz.isAgg246
  z75 := Tryz.sizeOf246
  v75 := Tryz.zeroValue246
  t76 := Tryz.underlying282
  a76 := Tryz.isAgg282
  z76 := Tryz.sizeOf282
  v76 := Tryz.zeroValue282
  t109 := Tryz.underlying154
  a109 := Tryz.isAgg154
  z109 := Tryz.sizeOf154
  v109 := Tryz.zeroValue154
  t127 := Tryz.underlying306
  a127 := Tryz.isAgg306
  z127 := Tryz.sizeOf306
  v127 := Tryz.zeroValue306
  t146 := Tryz.underlying218
  a146 := Tryz.isAgg218
  z146 := Tryz.sizeOf218
  v146 := Tryz.zeroValue218
  t148 := Tryz.underlying220
  a148 := Tryz.isAgg220
  z148 := Tryz.sizeOf220
  v148 := Tryz.zeroValue220
  t164 := Tryz.underlying317
  a164 := Tryz.isAgg317
  z164 := Tryz.sizeOf317
  v164 := Tryz.zeroValue317 }
theorem Tryz.Builder_Extra_105 : Builder.Extra Tryz.prog Tryz.lays105_ren := {
  sizeBuilder := by kernel_rfl
  liesBuilder := by kernel_rfl
  t5 := Tryz.underlying5
  a5 := Tryz.isAgg5
  z5 := Tryz.sizeOf5
  v5 := Tryz.zeroValue5
  infoByte := by kernel_rfl
  cellsByte := by kernel_rfl
  sizeByte := by kernel_rfl
  neB5 := by decide }
open Go.RowKit Go.Lib in
theorem Tryz.strings_Repeat (s : ByteArray) (c : Nat) (w : World) (hc : c ≤ 9223372036854775807) (hlen : s.size * c ≤ 140737488355328) :
    Calls Tryz.prog 221 #[.string s, .int .i64 c] w fun e w' => e = .returned (.string ⟨(Lib.repeatL s.data.toList c).toArray⟩) ∧ Below w.heap.size w w' := Any.strings_Repeat Tryz.lays105 Tryz.Builder_Extra_105 s c w hc hlen
end Go.Proofs
end
section
set_option linter.unusedVariables false
namespace Go.Proofs.YtpdboaedoimahaaGreatDoor
open Go.Shelf Go.RowKit
theorem bld_info : (Tryz.prog.info? 281).map (·.size) = some 2 := by kernel_rfl
theorem bld_lies : liesAt Tryz.prog Tryz.prog.depth 281 (2 / Tryz.prog.cellsOf 281) 0 281 1 = true := by kernel_rfl
theorem byte_info : (Tryz.prog.info? 5).map (fun i => (i.zero, i.size, i.bytes)) = some (some (.int .u8 0), 1, 1) := by kernel_rfl
set_option maxHeartbeats 1000000 in
set_option maxRecDepth 100000 in
theorem copyCheck_used (b : Nat) (w : World) (h0 : w.cell? ⟨b, 0, none⟩ = some (.pointer (some ⟨b, 0, none⟩))) :
    Calls Tryz.prog 249 #[.pointer (some ⟨b, 0, none⟩)] w fun e w' => e = .returned (.tuple #[]) ∧ w' = w := by
  obtain ⟨j, hj, _⟩ := Option.map_eq_some_iff.1 bld_info
  go_enter Tryz.func249, Tryz.ntmps249
  go_wp2
  rw [Lib.run_neq_ptr_same w _ Tryz.underlying279 hj]
  go_wp2
  go_end0
  exact ⟨rfl, rfl⟩
set_option maxHeartbeats 1000000 in
set_option maxRecDepth 100000 in
theorem copyCheck_fresh (b : Nat) (w : World) (h0 : w.cell? ⟨b, 0, none⟩ = some (.pointer none)) (hsh : w.shape? b = some (281, 2)) (hfz : w.frozen? ⟨b, 0, none⟩ = false) :
    Calls Tryz.prog 249 #[.pointer (some ⟨b, 0, none⟩)] w fun e w' => e = .returned (.tuple #[]) ∧ w' = w.setCell ⟨b, 0, none⟩ (.pointer (some ⟨b, 0, none⟩)) := by
  obtain ⟨j, hj, hjs⟩ := Option.map_eq_some_iff.1 bld_info
  go_enter Tryz.func249, Tryz.ntmps249
  go_wp2
  rw [Lib.run_to_unsafe w ⟨b, 0, none⟩ Tryz.underlying279 Tryz.underlying317 hj (by rw [hjs]; decide) hsh (Nat.zero_lt_succ 1)]
  simp only [Result.andThen]
  rw [Oper.upon_value]
  go_wp2
  rw [run_callFunc_extern Tryz.func265 (by kernel_rfl) (by kernel_rfl) (by kernel_rfl) (e := Extern.AbiNoEscape.same) (by kernel_rfl)]
  rw [Lib.run_noEscape]
  simp only [Result.andThen]
  rw [Oper.upon_value]
  go_wp2
  rw [Lib.run_from_unsafe w ⟨b, 0, none⟩ Tryz.underlying317 Tryz.underlying279 hj hsh bld_lies]
  simp only [Result.andThen]
  rw [Oper.upon_value]
  go_wp2
  go_end0
  exact ⟨rfl, rfl⟩
theorem copyCheck_any (B b : Nat) (bs : List Value) (w : World) (h : Lib.IsBuilder 281 5 B b bs w) :
    Calls Tryz.prog 249 #[.pointer (some ⟨b, 0, none⟩)] w fun e w' => e = .returned (.tuple #[]) ∧ (Lib.BuilderAt 281 5 B b (.pointer (some ⟨b, 0, none⟩)) bs w' ∧ Below B w w') := by
  rcases h with h | h
  · refine (copyCheck_fresh b w h.cell0 h.shape h.frozen0).mono ?_
    rintro e w' ⟨rfl, rfl⟩
    exact ⟨rfl, h.used _, (Below.refl B w).setCell (p := ⟨b, 0, none⟩) h.1 _⟩
  · refine (copyCheck_used b w h.cell0).mono ?_
    rintro e w' ⟨rfl, rfl⟩
    exact ⟨rfl, h, Below.refl B _⟩
set_option maxHeartbeats 2000000 in
set_option maxRecDepth 100000 in
theorem writeString_any (B b : Nat) (bs : List Value) (s : ByteArray) (w : World) (h : Lib.IsBuilder 281 5 B b bs w) (hlen : bs.length + s.size ≤ 140737488355328) (hBw : B ≤ w.heap.size) :
    Calls Tryz.prog 220 #[.pointer (some ⟨b, 0, none⟩), .string s] w fun e w' => e = .returned (.tuple #[.int .i64 s.size, .nilIface]) ∧ (Lib.BuilderAt 281 5 B b (.pointer (some ⟨b, 0, none⟩)) (bs ++ Lib.strCells s) w' ∧ Below B w w') := by
  obtain ⟨i0, hi, hz0, hz1, hz2⟩ := info_parts byte_info
  go_enter Tryz.func220, Tryz.ntmps220
  go_wp2_with fail
  refine (copyCheck_any B b bs _ h).mono ?_
  rintro e w1 ⟨rfl, h1, hb1⟩
  obtain ⟨hB, v, hbk, hown, hne⟩ := h1
  have c0 : w1.cell? ⟨b, 0, none⟩ = some (.pointer (some ⟨b, 0, none⟩)) := by rw [Lib.cell_of_heap hbk]; rfl
  have c1 : w1.cell? ⟨b, 1, none⟩ = some v := by rw [Lib.cell_of_heap hbk]; rfl
  go_wp2_with (at_builtin; refine Lib.wpList_append_own_string _ rfl _ _ 120 9 rfl B 5 i0 Tryz.underlying120 Tryz.underlying9 hi hz0 hz1 hz2 _ _ _ rfl hown s rfl ?c3 ?c4 ?c5 ?_)
  case c3 => unfold maxLen; omega
  case c4 => omega
  case c5 => have := hb1.size; omega
  intro v' w2 hown' hgrow _
  have hlt : b < w1.heap.size := by
    rcases Nat.lt_or_ge b w1.heap.size with h' | h'
    · exact h'
    · simp [Array.getElem?_eq_none h'] at hbk
  have hb2 : w2.heap[b]? = some (.cells #[.pointer (some ⟨b, 0, none⟩), v] 281 (0, 0)) := by
    rw [hgrow.block b hlt (fun e => hne e.symm)]
    exact hbk
  have d0 : w2.cell? ⟨b, 0, none⟩ = some (.pointer (some ⟨b, 0, none⟩)) := by rw [Lib.cell_of_heap hb2]; rfl
  have d1 : w2.cell? ⟨b, 1, none⟩ = some v := by rw [Lib.cell_of_heap hb2]; rfl
  have f1 : w2.frozen? ⟨b, 1, none⟩ = false := Lib.frozen_of_heap hb2 1
  obtain ⟨ao, n', cap, rfl⟩ : ∃ ao n' cap, v' = .slice ao n' cap := by
    rcases hown'.2 with ⟨hv, _⟩ | ⟨g, cap, cur, hv, _⟩
    · exact ⟨_, _, _, hv⟩
    · exact ⟨_, _, _, hv⟩
  go_wp2
  go_ret2
  refine ⟨rfl, ?_, ?_⟩
  · exact Lib.BuilderAt.put (T := 281) (e := 5) hB hb2 (bs' := bs ++ Lib.strCells s) (by simpa [Lib.strCells_length] using hown') (by decide)
  · exact (hb1.grown hgrow (by have := hb1.size; omega) (fun k hk => (hown.lt k hk).1)).setCell (p := ⟨b, 1, none⟩) hB _
end Go.Proofs.YtpdboaedoimahaaGreatDoor
end
section
set_option linter.unusedVariables false
namespace Go.Proofs.YtpdboaedoimahaaGreatDoor
open Go.Shelf Go.RowKit Go.Sort Go.Lib
set_option maxRecDepth 100000 in
set_option maxHeartbeats 2000000 in
theorem formatUint_any (u : Nat) (hu64 : u < 18446744073709551616) (w : World) (htab : Lib.TabIs Tryz.prog w "internal/strconv.uint64pow10" .u64 Lib.pow10Tab) :
    Calls Tryz.prog 219 #[.int .u64 u, .int .i64 10] w fun e w' => e = .returned (.string ⟨(Lib.decDigits u).toArray⟩) ∧ Below w.heap.size w w' := by
  by_cases hs : u < 100
  · go_enter Tryz.func219, Tryz.ntmps219
    go_wp2_with fail
    refine (Tryz.internal_strconv_small u hs _).mono ?_
    rintro e w' ⟨rfl, rfl⟩
    go_wp2_with fail
    go_ret
    exact ⟨rfl, Below.refl _ _⟩
  · have hu1 : 1 ≤ u := by omega
    have hnd20 : Lib.nDigits u ≤ 20 := by have := Lib.numDigits_eq u hu1 hu64; split at this <;> omega
    have hal : Tryz.prog.arrayLen 301 = 24 := by kernel_rfl
    have hsl1 : ∀ W, (Instr.sliceAt 301 (.pointer (some ⟨w.heap.size, 0, none⟩)) none (some (.int .i64 (Lib.nDigits u : Int))) none).run Tryz.prog W = .ok (.slice (some ⟨w.heap.size, 0, none⟩) (Lib.nDigits u) 24) W := fun W => by
      rw [run_sliceAt_array_h W 301 ⟨w.heap.size, 0, none⟩ (by kernel_rfl) .i64 (Lib.nDigits u : Int) (by omega) (by rw [hal]; omega)]
      go_simp
    have hH0 := Lib.holds_zero0 w 301 (Lib.nDigits u) (by omega)
    have hfmt := Tryz.internal_strconv_formatBase10 w.heap.size 0 24 u (Array.replicate (Lib.nDigits u) 0) (w.alloc (.cells Lib.zeros24 301)) hH0 (by rw [Array.size_replicate]; exact Lib.lt_pow_nDigits u) hu64 (by rw [Array.size_replicate]; omega)
    rw [Array.size_replicate] at hfmt
    have HH0 := Lib.hid hH0
    clear hH0 hal
    go_enter Tryz.func219, Tryz.ntmps219
    go_wp2_with fail
    refine (Tryz.internal_strconv_numDigits u hu1 hu64 _ (Lib.tabIs_alloc htab _)).mono ?_
    rintro e w' ⟨rfl, rfl⟩
    go_wp2_with fail
    refine hfmt.mono ?_
    rintro e w' ⟨rfl, k, v', dk, rfl, hF⟩
    have hcv : (convert 120 9 (.slice (some ⟨w.heap.size, 0, none⟩) (Lib.nDigits u) 24)).run Tryz.prog ((putRow (fun (b : UInt8) => Value.int .u8 (b.toNat : Int)) (w.alloc (.cells Lib.zeros24 301)) w.heap.size 0 dk).drewN k) = .ok (.string ⟨(Lib.decDigits u).toArray⟩) ((putRow (fun (b : UInt8) => Value.int .u8 (b.toNat : Int)) (w.alloc (.cells Lib.zeros24 301)) w.heap.size 0 dk).drewN k) := by
      have h := run_convert_bytes_back (P := Tryz.prog) ((putRow (fun (b : UInt8) => Value.int .u8 (b.toNat : Int)) (w.alloc (.cells Lib.zeros24 301)) w.heap.size 0 dk).drewN k) 120 9 5 ⟨w.heap.size, 0, none⟩ 24 (Lib.decDigits u) Tryz.underlying120 Tryz.underlying5 Tryz.underlying9 (fun j hj => by
        rw [Lib.row_is_numeral hF j hj, Lib.add_plain, World.cell?_drewN]
        exact cell?_putRow (fun (b : UInt8) => Value.int .u8 (b.toNat : Int)) _ w.heap.size 0 _ dk HH0.out (by rw [hF.size, Array.size_replicate]) j (by rw [hF.size]; rw [Lib.decDigits_length] at hj; exact hj))
      rw [Lib.decDigits_length] at h
      exact h
    go_wp2_with fail
    go_ret
    refine ⟨rfl, ?_⟩
    obtain ⟨os, eo⟩ := Lib.fin_at w (.cells Lib.zeros24 301) dk k 0
    rw [eo]
    exact Lib.below_grow _ w (Nat.le_refl _) k os
end Go.Proofs.YtpdboaedoimahaaGreatDoor
end
section
set_option linter.unusedVariables false
namespace Go.Proofs.YtpdboaedoimahaaGreatDoor
open Go.Shelf Go.RowKit Go.Sort Go.Lib
theorem tabIs_ext {P : Program} {w w' : World} {name : String} {k : IntKind} {zs : List Int} (h : TabIs P w name k zs) (x : Ext w w') : TabIs P w' name k zs := by
  unfold TabIs World.var? at *
  cases hg : P.globalNamed name with
  | none => simp [hg] at h
  | some g =>
    simp only [hg, Option.bind_some] at h ⊢
    have hlt : g < w.heap.size := by
      rcases Nat.lt_or_ge g w.heap.size with h' | h'
      · exact h'
      · simp [Array.getElem?_eq_none h'] at h
    rw [Below.block x g hlt]; exact h
theorem ownsRow_ext {w w' : World} {B : Nat} {e : TypeId} {size : Nat} {v : Value} {n : Nat} {xs : List Value} (h : w.ownsRow B e size v n xs) (x : Ext w w') : w'.ownsRow B e size v n xs := by
  obtain ⟨hl, h0 | ⟨g, cap, cur, hv, hb, hh, r⟩⟩ := h
  · exact ⟨hl, .inl h0⟩
  · exact ⟨hl, .inr ⟨g, cap, cur, hv, hb, by rw [Below.block x g (lt_of_at hh)]; exact hh, r⟩⟩
theorem builderAt_ext {T e : TypeId} {B b : Nat} {p : Value} {bs : List Value} {w w' : World} (h : BuilderAt T e B b p bs w) (x : Ext w w') : BuilderAt T e B b p bs w' := by
  obtain ⟨hB, v, hb, ho, hne⟩ := h
  exact ⟨hB, v, by rw [Below.block x b (lt_of_at hb)]; exact hb, ownsRow_ext ho x, hne⟩
theorem isBuilder_ext {T e : TypeId} {B b : Nat} {bs : List Value} {w w' : World} (h : IsBuilder T e B b bs w) (x : Ext w w') : IsBuilder T e B b bs w' :=
  h.elim (fun h => .inl (builderAt_ext h x)) (fun h => .inr (builderAt_ext h x))
theorem ld_add (n j k : Nat) : ld n (j + k) = ld n j ++ ld (n / 10 ^ j) k := by
  induction k with
  | zero => simp [ld]
  | succ k ih =>
    rw [← Nat.add_assoc, ld_succ, ld_succ, ih, List.append_assoc]
    congr 3
    unfold dg
    rw [Nat.div_div_eq_div_mul, ← Nat.pow_add]
theorem ld_low {n k : Nat} (d : Nat) (h : ∀ j, j < k → n / 10 ^ j % 10 = d / 10 ^ j % 10) : ld n k = ld d k := by
  unfold ld
  refine List.map_congr_left fun j hj => ?_
  unfold dg; rw [h j (List.mem_range.1 hj)]
theorem repeatL_zero (k : Nat) : repeatL [48] k = List.replicate k 48 := by
  induction k with
  | zero => rfl
  | succ k ih => rw [repeatL, ih]; rfl
theorem nDigits_le9 {d : Nat} (hd : d < 1000000000) : nDigits d ≤ 9 := by
  rcases Nat.eq_zero_or_pos d with h | h
  · subst h; rw [nDigits_small (by omega)]; omega
  · have h1 := pow_le_nDigits (n := d) (by omega)
    have h2 : 10 ^ (nDigits d - 1) < 10 ^ 9 := Nat.lt_of_le_of_lt h1 (by omega)
    have h3 := (Nat.pow_lt_pow_iff_right (by omega : 1 < 10)).1 h2
    omega
theorem pad9 {d : Nat} (hd : d < 1000000000) : (ld d 9).reverse = repeatL [48] (9 - nDigits d) ++ decDigits d := by
  have h9 := nDigits_le9 hd
  have e : 9 = nDigits d + (9 - nDigits d) := by omega
  rw [show ld d 9 = ld d (nDigits d + (9 - nDigits d)) by rw [← e], ld_add, List.reverse_append, ld_rev]
  congr 1
  have h0 : d / 10 ^ nDigits d = 0 := Nat.div_eq_of_lt (lt_pow_nDigits d)
  rw [h0, repeatL_zero]
  have : ∀ k, ld 0 k = List.replicate k 48 := by
    intro k
    induction k with
    | zero => rfl
    | succ k ih => rw [ld_succ, ih, List.replicate_succ']; congr 1; simp [dg]
  rw [this, List.reverse_replicate]
theorem dec_limb {x d : Nat} (hx : x ≠ 0) (hd : d < 1000000000) : decDigits (x * 1000000000 + d) = decDigits x ++ (repeatL [48] (9 - nDigits d) ++ decDigits d) := by
  have hdiv : (x * 1000000000 + d) / 10 ^ 9 = x := by omega
  have hN : nDigits (x * 1000000000 + d) = 9 + nDigits x := by
    rw [nDigits_shift (j := 9) (by omega), hdiv]
  rw [← ld_rev, hN, ld_add, hdiv, List.reverse_append, ld_rev, ← pad9 hd]
  congr 2
  refine ld_low d fun j hj => ?_
  have e : (1000000000 : Nat) = 10 ^ j * 10 ^ (9 - j) := by rw [← Nat.pow_add, show j + (9 - j) = 9 by omega]
  rw [e, Nat.mul_comm x, Nat.mul_assoc, Nat.mul_add_div (Nat.pow_pos (by omega)), show 9 - j = (8 - j) + 1 by omega, Nat.pow_succ]
  rw [Nat.mul_right_comm, Nat.mul_comm _ 10, Nat.mul_add_mod]
def mid (n k : Nat) : List UInt8 := if k = (limbs n).length then [] else decDigits (n / 1000000000 ^ k)
theorem mid_len (n : Nat) : mid n (limbs n).length = [] := by simp [mid]
theorem mid_ne {n k : Nat} (h : k ≠ (limbs n).length) : mid n k = decDigits (n / 1000000000 ^ k) := by simp [mid, h]
def textTo (neg : Bool) (n k : Nat) : List UInt8 := (if neg then [45] else []) ++ mid n k
theorem textTo_len (neg : Bool) (n : Nat) : textTo neg n (limbs n).length = if neg then [45] else [] := by rw [textTo, mid_len, List.append_nil]
theorem textTo_end (z : Int) (h : z ≠ 0) : textTo (decide (z < 0)) z.natAbs 0 = itoa z := by
  have hl : (limbs z.natAbs).length ≠ 0 := fun h0 => h (by have := limbs_eq_nil.1 (List.eq_nil_of_length_eq_zero h0); omega)
  rw [textTo, mid_ne (fun h0 => hl h0.symm), itoa_signed, signed, Nat.pow_zero, Nat.div_one]
  split <;> rfl
theorem limb_split (n k : Nat) : n / 1000000000 ^ k = n / 1000000000 ^ (k + 1) * 1000000000 + (limbs n).getD k 0 := by
  rw [limbs_getD, Nat.pow_succ, ← Nat.div_div_eq_div_mul]; omega
theorem textTo_top {neg : Bool} {n k : Nat} (hk : k + 1 = (limbs n).length) : textTo neg n k = textTo neg n (k + 1) ++ decDigits ((limbs n).getD k 0) := by
  have h0 : n / 1000000000 ^ (k + 1) = 0 := Nat.div_eq_of_lt (by rw [hk]; exact lt_pow_nl n)
  rw [textTo, textTo, mid_ne (by omega), hk, mid_len, List.append_nil, limb_split, h0]; simp
theorem textTo_low {neg : Bool} {n k : Nat} (hk : k + 1 < (limbs n).length) : textTo neg n k = textTo neg n (k + 1) ++ (repeatL [48] (9 - nDigits ((limbs n).getD k 0)) ++ decDigits ((limbs n).getD k 0)) := by
  have hn : n ≠ 0 := by rintro rfl; rw [limbs_zero] at hk; simp at hk
  have hx : n / 1000000000 ^ (k + 1) ≠ 0 := by
    have h1 := pow_le_of_nl hn
    have h2 : 1000000000 ^ (k + 1) ≤ 1000000000 ^ (nl n - 1) := Nat.pow_le_pow_right (by omega) (by have : nl n = (limbs n).length := rfl; omega)
    have h3 := Nat.div_pos (Nat.le_trans h2 h1) (Nat.pow_pos (by omega))
    omega
  rw [textTo, textTo, mid_ne (by omega), mid_ne (by omega), List.append_assoc]
  congr 1
  rw [limb_split n k, dec_limb hx ((low_limbs n).getD k)]
theorem textTo_size (neg : Bool) (n k : Nat) : (textTo neg n k).length ≤ 1 + 9 * (limbs n).length + 1 := by
  have h1 : nDigits (n / 1000000000 ^ k) ≤ 9 * (limbs n).length + 1 := by
    rcases Nat.eq_zero_or_pos (n / 1000000000 ^ k) with h | h
    · rw [h, nDigits_small (by omega)]; omega
    · have h2 := pow_le_nDigits (n := n / 1000000000 ^ k) (by omega)
      have h3 : 10 ^ (nDigits (n / 1000000000 ^ k) - 1) < 10 ^ (9 * (limbs n).length) := Nat.lt_of_le_of_lt h2 (Nat.lt_of_le_of_lt (Nat.div_le_self _ _) (lt_pow_limbs n))
      have h4 := (Nat.pow_lt_pow_iff_right (by omega : 1 < 10)).1 h3
      omega
  unfold textTo mid
  split <;> split <;> simp [decDigits_length] <;> omega
end Go.Proofs.YtpdboaedoimahaaGreatDoor
end
section
set_option linter.unusedVariables false
namespace Go.Proofs.YtpdboaedoimahaaGreatDoor
open Go.Shelf Go.RowKit Go.Sort Go.Lib
set_option maxRecDepth 100000 in
theorem formatUintS_any (u : Nat) (hu64 : u < 18446744073709551616) (w : World) (htab : Lib.TabIs Tryz.prog w "internal/strconv.uint64pow10" .u64 Lib.pow10Tab) :
    Calls Tryz.prog 197 #[.int .u64 u, .int .i64 10] w fun e w' => e = .returned (.string ⟨(Lib.decDigits u).toArray⟩) ∧ Ext w w' := by
  go_enter Tryz.func197, Tryz.ntmps197
  go_wp2_with fail
  refine (formatUint_any u hu64 _ htab).mono ?_
  rintro e w' ⟨rfl, hx⟩
  go_wp2_with fail
  go_ret
  exact ⟨rfl, hx⟩
def StrRel (W0 : World) (B : Nat) (neg : Bool) (n : Nat) (i : Value) (wr : World) : Prop :=
  ∃ k : Nat, k ≤ (limbs n).length ∧ i = .int .i64 ((k : Int) - 1) ∧ IsBuilder 281 5 B B (byteCells (textTo neg n k)) wr ∧ Below B W0 wr
theorem byteCells_append (l l' : List UInt8) : byteCells l ++ byteCells l' = byteCells (l ++ l') := by simp [byteCells]
set_option maxRecDepth 100000 in
set_option maxHeartbeats 400000 in
theorem numString_any (v : Value) (z : Int) (w : World) (hv : NumV w v z) (hs : nl z.natAbs ≤ 100000000000) (htab : Lib.TabIs Tryz.prog w "internal/strconv.uint64pow10" .u64 Lib.pow10Tab) :
    Calls Tryz.prog 198 #[v] w fun e w' => e = .returned (.string ⟨(Lib.itoa z).toArray⟩) ∧ Ext w w' := by
  obtain ⟨a, n, c, rfl, hn⟩ := hv
  obtain ⟨a', c', e, hcap, hrow⟩ := hn
  simp only [Value.slice.injEq] at e
  obtain ⟨rfl, rfl, rfl⟩ := e
  have hlen : (limbs z.natAbs).length ≤ 100000000000 := hs
  by_cases hz : z = 0
  · subst hz
    rw [show (limbs (0 : Int).natAbs).length = 0 by rw [show (0 : Int).natAbs = 0 from rfl, limbs_zero]; rfl]
    clear hrow hcap hlen
    go_enter Tryz.func198, Tryz.ntmps198
    go_wp2_with fail
    go_ret
    exact ⟨by rw [itoa_zero]; rfl, Ext.alloc (Ext.refl w) _⟩
  · have hp : 0 < (limbs z.natAbs).length := len_pos.2 (by omega)
    obtain ⟨L, hL⟩ : ∃ L, L = (limbs z.natAbs).length := ⟨_, rfl⟩
    rw [← hL] at hp hlen ⊢
    have HL := Lib.hid hL
    have HROW := Lib.hid hrow
    have HTAB := Lib.hid htab
    clear hL hrow htab hcap
    obtain ⟨neg, hneg⟩ : ∃ neg, neg = decide (z < 0) := ⟨_, rfl⟩
    rw [← hneg]
    have HNEG := Lib.hid hneg
    clear hneg
    obtain ⟨w1, hw1⟩ : ∃ w1, w1 = w.alloc (Obj.cells #[Value.bool neg, Value.slice a L c] 107) := ⟨_, rfl⟩
    have hs1 : w1.heap.size = w.heap.size + 1 := by rw [hw1]; exact size_alloc' _ _
    have HX1 : RowKit.Hid (Ext w w1) := Lib.hid (by rw [hw1]; exact Ext.alloc (Ext.refl w) _)
    have HB0 := Lib.hid (Lib.fresh_isBuilder 281 5 w1)
    have HW1 := Lib.hid hw1
    have HS1 := Lib.hid hs1
    clear hw1 hs1
    cases neg
    · go_enter Tryz.func198, Tryz.ntmps198
      go_wp2_with fail
      rw [← HW1.out, ← HS1.out, show ((L : Int) == 0) = false by rw [beq_eq_false_iff_ne]; omega]
      go_loopw [4] (StrRel (w1.alloc (Obj.cells #[Value.pointer none, Value.slice none 0 0] 281)) w1.heap.size false z.natAbs) (fun i _ => (RowKit.intOf i + 1).toNat)
      case atStart => exact ⟨(limbs z.natAbs).length, Nat.le_refl _, by rw [← HL.out], by rw [textTo_len]; exact HB0.out, Below.refl _ _⟩
      case round =>
        obtain ⟨k, hk, rfl, hbd, hbel⟩ := hrel
        have hsz0 := hbel.size
        rw [size_alloc'] at hsz0
        have HXW : RowKit.Hid (Ext w wr) := Lib.hid (Ext.trans HX1.out (Below.trans (Ext.alloc (Ext.refl w1) (Obj.cells #[Value.pointer none, Value.slice none 0 0] 281)) hbel))
        rcases k with _ | k
        · have hne : textTo false z.natAbs 0 ≠ [] := by rw [HNEG.out, textTo_end z hz, itoa_signed, signed]; split; simp; exact dec_ne_nil _
          have HBD := Lib.hid hbd
          clear hbd
          go_wp2_with fail
          refine (Tryz.Builder_String w1.heap.size w1.heap.size (textTo false z.natAbs 0) wr HBD.out hne).mono ?_
          rintro e w2 ⟨rfl, hb2⟩
          go_wp2_with fail
          go_ret
          refine ⟨?_, Below.trans HXW.out ?_⟩
          · rw [HNEG.out, textTo_end z hz]; rfl
          · exact Below.mono hb2 (by have := HS1.out; omega)
        · have hsz1 : w.heap.size < w1.heap.size := by rw [HS1.out]; omega
          have hc1 : wr.cell? ⟨w.heap.size, 1, none⟩ = some (.slice a L c) := by
            rw [Below.cell hbel hsz1, Below.cell (Ext.alloc (Ext.refl w1) _) hsz1, HW1.out, World.cell?_alloc_new]; rfl
          obtain ⟨ba, offa, rfl, hca⟩ := HROW.out.at (j := k) (by omega)
          have hcb := HXW.out.cell hca
          clear hca
          have hlow : (limbs z.natAbs).getD k 0 < 1000000000 := (low_limbs _).getD k
          obtain ⟨x, hx⟩ : ∃ x, x = (limbs z.natAbs).getD k 0 := ⟨_, rfl⟩
          rw [← hx] at hcb hlow
          have XX := Lib.hid hx
          have HBD := Lib.hid hbd
          have HBEL := Lib.hid hbel
          have HK := Lib.hid hk
          clear hx hbd hbel hk hsz1
          rw [show ((k + 1 : Nat) : Int) - 1 = k by omega]
          have hkL : k < L := by have := HK.out; have := HL.out; omega
          have hsw : (textTo false z.natAbs (k + 1)).length ≤ 1 + 9 * L + 1 := by have := textTo_size false z.natAbs (k + 1); rw [← HL.out] at this; exact this
          have hd9 := nDigits_le9 hlow
          have hdl := decDigits_length x
          have HSW := Lib.hid hsw
          have HDL := Lib.hid hdl
          have HD9 := Lib.hid hd9
          clear hsw hdl hd9
          by_cases htop : k + 1 = L
          · have hkt : ¬ ((k : Int) < (L : Int) - 1) := by omega
            have HTOP := Lib.hid htop
            clear htop
            go_wp2_with fail
            refine (formatUintS_any x (by omega) _ (tabIs_ext HTAB.out HXW.out)).mono ?_
            rintro e w2 ⟨rfl, hx2⟩
            have HX2 := Lib.hid hx2
            clear hx2
            have hc2 := HX2.out.cell hc1
            clear hc1 hcb
            go_wp2_with fail
            refine (writeString_any w1.heap.size w1.heap.size (byteCells (textTo false z.natAbs (k + 1))) ⟨(decDigits x).toArray⟩ w2 (isBuilder_ext HBD.out HX2.out) (by rw [byteCells_length, Lib.size_mk, HDL.out]; have := HSW.out; have := HD9.out; omega) (by have := HX2.out.size; omega)).mono ?_
            rintro e w3 ⟨rfl, hb3, hbel3⟩
            have htx := textTo_top (neg := false) (n := z.natAbs) (k := k) (by rw [← HL.out]; exact HTOP.out)
            rw [← XX.out] at htx
            rw [strCells_toArray, byteCells_append, ← htx] at hb3
            go_wp2_with fail
            refine ⟨⟨k, by rw [← HL.out]; omega, by go_num, .inr hb3, Below.trans HBEL.out (Below.trans (Below.mono HX2.out (by omega)) hbel3)⟩, by simp only [RowKit.intOf]; omega⟩
          · have hkt : (k : Int) < (L : Int) - 1 := by omega
            have HTOP := Lib.hid htop
            clear htop
            go_wp2_with fail
            refine (formatUintS_any x (by omega) _ (tabIs_ext HTAB.out HXW.out)).mono ?_
            rintro e w2 ⟨rfl, hx2⟩
            have HX2 := Lib.hid hx2
            clear hx2
            have hc2 := HX2.out.cell hc1
            clear hc1 hcb
            have hsl : (⟨(decDigits x).toArray⟩ : ByteArray).size = nDigits x := by rw [Lib.size_mk]; exact HDL.out
            go_wp2_with fail
            rw [show wrap64 (9 - (nDigits x : Int)) = ((9 - nDigits x : Nat) : Int) by have := HD9.out; unfold wrap64; omega]
            have hrep := Tryz.strings_Repeat ⟨#[48]⟩ (9 - nDigits x) w2 (by omega) (by have := HD9.out; simp [ByteArray.size]; omega)
            refine hrep.mono ?_
            rintro e w4 ⟨rfl, hx4⟩
            have HX4 : RowKit.Hid (Ext w2 w4) := Lib.hid hx4
            clear hx4 hrep
            go_wp2_with fail
            refine (writeString_any w1.heap.size w1.heap.size (byteCells (textTo false z.natAbs (k + 1))) ⟨(repeatL [48] (9 - nDigits x)).toArray⟩ w4 (isBuilder_ext (isBuilder_ext HBD.out HX2.out) HX4.out) (by rw [byteCells_length, Lib.size_mk, repeatL_zero, List.length_replicate]; have := HSW.out; omega) (by have := HX2.out.size; have := HX4.out.size; omega)).mono ?_
            rintro e w5 ⟨rfl, hb5, hbel5⟩
            rw [strCells_toArray, byteCells_append] at hb5
            go_wp2_with fail
            refine (writeString_any w1.heap.size w1.heap.size _ ⟨(decDigits x).toArray⟩ w5 (.inr hb5) (by rw [byteCells_length, Lib.size_mk, HDL.out, List.length_append, repeatL_zero, List.length_replicate]; have := HSW.out; have := HD9.out; omega) (by have := HX2.out.size; have := HX4.out.size; have := hbel5.size; omega)).mono ?_
            rintro e w3 ⟨rfl, hb3, hbel3⟩
            have htx := textTo_low (neg := false) (n := z.natAbs) (k := k) (by rw [← HL.out]; have := HTOP.out; omega)
            rw [← XX.out] at htx
            rw [strCells_toArray, byteCells_append, List.append_assoc, ← htx] at hb3
            have h6 := HX2.out.size
            go_wp2_with fail
            refine ⟨⟨k, by rw [← HL.out]; omega, by go_num, .inr hb3, Below.trans HBEL.out (Below.trans (Below.mono HX2.out (by omega)) (Below.trans (Below.mono HX4.out (by omega)) (Below.trans hbel5 hbel3)))⟩, by simp only [RowKit.intOf]; omega⟩
    · go_enter Tryz.func198, Tryz.ntmps198
      go_wp2_with fail
      rw [← HW1.out, ← HS1.out, show ((L : Int) == 0) = false by rw [beq_eq_false_iff_ne]; omega]
      refine (writeString_any w1.heap.size w1.heap.size [] ⟨#[45]⟩ _ HB0.out (by simp [ByteArray.size]) (by rw [size_alloc']; omega)).mono ?_
      rintro e w4 ⟨rfl, hb4, hbel4⟩
      have HB4 : RowKit.Hid (BuilderAt 281 5 w1.heap.size w1.heap.size (.pointer (some ⟨w1.heap.size, 0, none⟩)) (byteCells [45]) w4) := Lib.hid hb4
      have HBEL4 := Lib.hid hbel4
      have hs4 := hbel4.size
      rw [size_alloc'] at hs4
      have hc0 : w4.cell? ⟨w.heap.size, 1, none⟩ = some (.slice a L c) := by
        have hsz1 : w.heap.size < w1.heap.size := by rw [HS1.out]; omega
        rw [Below.cell hbel4 hsz1, Below.cell (Ext.alloc (Ext.refl w1) _) hsz1, HW1.out, World.cell?_alloc_new]; rfl
      clear hb4 hbel4
      go_wp2_with fail
      go_loopw [4] (StrRel (w1.alloc (Obj.cells #[Value.pointer none, Value.slice none 0 0] 281)) w1.heap.size true z.natAbs) (fun i _ => (RowKit.intOf i + 1).toNat)
      case atStart => exact ⟨(limbs z.natAbs).length, Nat.le_refl _, by rw [← HL.out], by rw [textTo_len]; exact .inr HB4.out, HBEL4.out⟩
      case round =>
        obtain ⟨k, hk, rfl, hbd, hbel⟩ := hrel
        have hsz0 := hbel.size
        rw [size_alloc'] at hsz0
        have HXW : RowKit.Hid (Ext w wr) := Lib.hid (Ext.trans HX1.out (Below.trans (Ext.alloc (Ext.refl w1) (Obj.cells #[Value.pointer none, Value.slice none 0 0] 281)) hbel))
        rcases k with _ | k
        · have hne : textTo true z.natAbs 0 ≠ [] := by rw [HNEG.out, textTo_end z hz, itoa_signed, signed]; split; simp; exact dec_ne_nil _
          have HBD := Lib.hid hbd
          clear hbd
          go_wp2_with fail
          refine (Tryz.Builder_String w1.heap.size w1.heap.size (textTo true z.natAbs 0) wr HBD.out hne).mono ?_
          rintro e w2 ⟨rfl, hb2⟩
          go_wp2_with fail
          go_ret
          refine ⟨?_, Below.trans HXW.out ?_⟩
          · rw [HNEG.out, textTo_end z hz]; rfl
          · exact Below.mono hb2 (by have := HS1.out; omega)
        · have hsz1 : w.heap.size < w1.heap.size := by rw [HS1.out]; omega
          have hc1 : wr.cell? ⟨w.heap.size, 1, none⟩ = some (.slice a L c) := by
            rw [Below.cell hbel hsz1, Below.cell (Ext.alloc (Ext.refl w1) _) hsz1, HW1.out, World.cell?_alloc_new]; rfl
          obtain ⟨ba, offa, rfl, hca⟩ := HROW.out.at (j := k) (by omega)
          have hcb := HXW.out.cell hca
          clear hca
          have hlow : (limbs z.natAbs).getD k 0 < 1000000000 := (low_limbs _).getD k
          obtain ⟨x, hx⟩ : ∃ x, x = (limbs z.natAbs).getD k 0 := ⟨_, rfl⟩
          rw [← hx] at hcb hlow
          have XX := Lib.hid hx
          have HBD := Lib.hid hbd
          have HBEL := Lib.hid hbel
          have HK := Lib.hid hk
          clear hx hbd hbel hk hsz1
          rw [show ((k + 1 : Nat) : Int) - 1 = k by omega]
          have hkL : k < L := by have := HK.out; have := HL.out; omega
          have hsw : (textTo true z.natAbs (k + 1)).length ≤ 1 + 9 * L + 1 := by have := textTo_size true z.natAbs (k + 1); rw [← HL.out] at this; exact this
          have hd9 := nDigits_le9 hlow
          have hdl := decDigits_length x
          have HSW := Lib.hid hsw
          have HDL := Lib.hid hdl
          have HD9 := Lib.hid hd9
          clear hsw hdl hd9
          by_cases htop : k + 1 = L
          · have hkt : ¬ ((k : Int) < (L : Int) - 1) := by omega
            have HTOP := Lib.hid htop
            clear htop
            go_wp2_with fail
            refine (formatUintS_any x (by omega) _ (tabIs_ext HTAB.out HXW.out)).mono ?_
            rintro e w2 ⟨rfl, hx2⟩
            have HX2 := Lib.hid hx2
            clear hx2
            have hc2 := HX2.out.cell hc1
            clear hc1 hcb
            go_wp2_with fail
            refine (writeString_any w1.heap.size w1.heap.size (byteCells (textTo true z.natAbs (k + 1))) ⟨(decDigits x).toArray⟩ w2 (isBuilder_ext HBD.out HX2.out) (by rw [byteCells_length, Lib.size_mk, HDL.out]; have := HSW.out; have := HD9.out; omega) (by have := HX2.out.size; omega)).mono ?_
            rintro e w3 ⟨rfl, hb3, hbel3⟩
            have htx := textTo_top (neg := true) (n := z.natAbs) (k := k) (by rw [← HL.out]; exact HTOP.out)
            rw [← XX.out] at htx
            rw [strCells_toArray, byteCells_append, ← htx] at hb3
            go_wp2_with fail
            refine ⟨⟨k, by rw [← HL.out]; omega, by go_num, .inr hb3, Below.trans HBEL.out (Below.trans (Below.mono HX2.out (by omega)) hbel3)⟩, by simp only [RowKit.intOf]; omega⟩
          · have hkt : (k : Int) < (L : Int) - 1 := by omega
            have HTOP := Lib.hid htop
            clear htop
            go_wp2_with fail
            refine (formatUintS_any x (by omega) _ (tabIs_ext HTAB.out HXW.out)).mono ?_
            rintro e w2 ⟨rfl, hx2⟩
            have HX2 := Lib.hid hx2
            clear hx2
            have hc2 := HX2.out.cell hc1
            clear hc1 hcb
            have hsl : (⟨(decDigits x).toArray⟩ : ByteArray).size = nDigits x := by rw [Lib.size_mk]; exact HDL.out
            go_wp2_with fail
            rw [show wrap64 (9 - (nDigits x : Int)) = ((9 - nDigits x : Nat) : Int) by have := HD9.out; unfold wrap64; omega]
            have hrep := Tryz.strings_Repeat ⟨#[48]⟩ (9 - nDigits x) w2 (by omega) (by have := HD9.out; simp [ByteArray.size]; omega)
            refine hrep.mono ?_
            rintro e w4 ⟨rfl, hx4⟩
            have HX4 : RowKit.Hid (Ext w2 w4) := Lib.hid hx4
            clear hx4 hrep
            go_wp2_with fail
            refine (writeString_any w1.heap.size w1.heap.size (byteCells (textTo true z.natAbs (k + 1))) ⟨(repeatL [48] (9 - nDigits x)).toArray⟩ w4 (isBuilder_ext (isBuilder_ext HBD.out HX2.out) HX4.out) (by rw [byteCells_length, Lib.size_mk, repeatL_zero, List.length_replicate]; have := HSW.out; omega) (by have := HX2.out.size; have := HX4.out.size; omega)).mono ?_
            rintro e w5 ⟨rfl, hb5, hbel5⟩
            rw [strCells_toArray, byteCells_append] at hb5
            go_wp2_with fail
            refine (writeString_any w1.heap.size w1.heap.size _ ⟨(decDigits x).toArray⟩ w5 (.inr hb5) (by rw [byteCells_length, Lib.size_mk, HDL.out, List.length_append, repeatL_zero, List.length_replicate]; have := HSW.out; have := HD9.out; omega) (by have := HX2.out.size; have := HX4.out.size; have := hbel5.size; omega)).mono ?_
            rintro e w3 ⟨rfl, hb3, hbel3⟩
            have htx := textTo_low (neg := true) (n := z.natAbs) (k := k) (by rw [← HL.out]; have := HTOP.out; omega)
            rw [← XX.out] at htx
            rw [strCells_toArray, byteCells_append, List.append_assoc, ← htx] at hb3
            have h6 := HX2.out.size
            go_wp2_with fail
            refine ⟨⟨k, by rw [← HL.out]; omega, by go_num, .inr hb3, Below.trans HBEL.out (Below.trans (Below.mono HX2.out (by omega)) (Below.trans (Below.mono HX4.out (by omega)) (Below.trans hbel5 hbel3)))⟩, by simp only [RowKit.intOf]; omega⟩
end Go.Proofs.YtpdboaedoimahaaGreatDoor
end
section
set_option linter.unusedVariables false
namespace Go.Proofs.YtpdboaedoimahaaGreatDoor
open Go.Shelf Go.RowKit Go.Sort Go.Lib
theorem parseM_ok {l : List UInt8} (hd : IsDig l) : ∀ (acc : Nat), rdA acc l < 1000000000000000000 → parseUintM 18446744073709551615 acc l = .ok (rdA acc l) := by
  induction l with
  | nil => intro acc _; rfl
  | cons b l ih =>
    intro acc h
    have hb := hd b (by simp)
    have e1 : rdA acc (b :: l) = rdA (10 * acc + (b.toNat - 48)) l := rfl
    rw [e1] at h ⊢
    have h2 : 10 * acc + (b.toNat - 48) ≤ rdA (10 * acc + (b.toNat - 48)) l := by
      rw [rdA_eq]
      have : 1 ≤ 10 ^ l.length := Nat.one_le_pow _ _ (by omega)
      have := Nat.mul_le_mul_left (10 * acc + (b.toNat - 48)) this
      omega
    have ih' := ih (fun x hx => hd x (by simp [hx])) (10 * acc + (b.toNat - 48)) h
    rw [parseUintM, if_pos hb, if_neg (by omega)]
    rw [show 10 * acc + (b.toNat - 48) = acc * 10 + (b.toNat - 48) by omega] at ih' h h2 ⊢
    first
      | (rw [if_neg (by omega)]; exact ih')
      | (simp only []; rw [if_neg (by omega)]; exact ih')
theorem parseB_ok {l : List UInt8} (hd : IsDig l) (hl : l ≠ []) (h9 : l.length ≤ 9) : parseUintB 64 l = .ok (rd l) := by
  rw [parseUintB, if_neg hl]
  refine parseM_ok hd 0 ?_
  have h1 := rd_lt hd
  have h2 : 10 ^ l.length ≤ 10 ^ 9 := Nat.pow_le_pow_right (by omega) h9
  have h3 : rdA 0 l = rd l := rfl
  omega
theorem trimPrefix_signed {neg : Bool} {l : List UInt8} (hd : IsDig l) (hl : l ≠ []) : trimPrefix (signed neg l) [45] = l ∧ hasPrefix (signed neg l) [45] = neg := by
  cases neg
  · cases l with
    | nil => exact absurd rfl hl
    | cons b l =>
      have hb := hd b (by simp)
      have : ¬ (45 : UInt8) = b := by rintro rfl; simp at hb
      simp [signed, trimPrefix, hasPrefix, List.isPrefixOf, this]
  · simp [signed, trimPrefix, hasPrefix, List.isPrefixOf]
theorem row_of_owns {w : World} {B : Nat} {e : TypeId} {a : Option Addr} {n c : Nat} {xs : List Value} (h : w.ownsRow B e 1 (.slice a n c) n xs) (hn : xs.length = n) : Row w a xs := by
  intro j hj
  rcases h.2 with ⟨h1, h2⟩ | ⟨g, cap, cur, h1, h2⟩
  · omega
  · simp only [Value.slice.injEq] at h1
    obtain ⟨rfl, _, rfl⟩ := h1
    refine ⟨g, 0, rfl, ?_⟩
    have := h.cells (g := g) rfl j (xs.getD j (.bool false)) (by rw [List.getD_eq_getElem?_getD, List.getElem?_eq_getElem hj]; rfl)
    rw [Lib.add_plain] at this; exact this
theorem ext_bytesWorld (w : World) (e : TypeId) (s : ByteArray) : Ext w (bytesWorld w e s) := bytesWorld_below w e s
def ReadRel (W0 : World) (B : Nat) (l : List UInt8) (v i : Value) (wr : World) : Prop :=
  ∃ (e : Int) (ys : List Nat), e ≤ l.length ∧ i = .int .i64 e ∧ -9 < e ∧ ys.length + e.toNat ≤ l.length ∧ ReadSt (rd l) (l.take e.toNat) ys ∧ wr.ownsRow B 215 1 v ys.length (u64s ys) ∧ Below B W0 wr
theorem u64_info : (Tryz.prog.info? 215).map (fun i => (i.zero, i.size, i.bytes)) = some (some (.int .u64 0), 1, 8) := by kernel_rfl
set_option maxRecDepth 100000 in
set_option maxHeartbeats 400000 in
theorem numRead_any (neg : Bool) (l : List UInt8) (w : World) (hd : IsDig l) (hl : l ≠ []) (hlen : l.length ≤ 1000000000) :
    Calls Tryz.prog 127 #[.string ⟨(signed neg l).toArray⟩] w (RetNum w (sgnd neg (rd l))) := by
  obtain ⟨i0, hi, hz0, hz1, hz2⟩ := info_parts u64_info
  obtain ⟨ht1, ht2⟩ := trimPrefix_signed (neg := neg) hd hl
  have HD := Lib.hid hd
  have HL := Lib.hid hl
  clear hd hl
  obtain ⟨w1, hw1⟩ : ∃ w1, w1 = w.alloc (Obj.cells #[Value.bool false, Value.slice none 0 0] 107) := ⟨_, rfl⟩
  have hs1 : w1.heap.size = w.heap.size + 1 := by rw [hw1]; exact size_alloc' _ _
  have HW1 := Lib.hid hw1
  have HS1 := Lib.hid hs1
  clear hw1 hs1
  go_enter Tryz.func127, Tryz.ntmps127
  go_wp2_with fail
  rw [← HW1.out]
  refine (Tryz.strings_CutPrefix ⟨(signed neg l).toArray⟩ ⟨#[45]⟩ w1).mono ?_
  rintro e w2 ⟨rfl, rfl⟩
  rw [show trimPrefix (⟨(signed neg l).toArray⟩ : ByteArray).data.toList (⟨#[45]⟩ : ByteArray).data.toList = l from ht1, show hasPrefix (⟨(signed neg l).toArray⟩ : ByteArray).data.toList (⟨#[45]⟩ : ByteArray).data.toList = neg from ht2]
  clear ht1 ht2
  go_wp2_with fail
  go_loopw [5, 6] (ReadRel w2 w2.heap.size l) (fun _ i _ => (RowKit.intOf i + 9).toNat)
  case atStart => exact ⟨l.length, [], by omega, by simp, by omega, by simp, ⟨Low.nil, by simpa using HD.out, by simp [val]⟩, ⟨rfl, .inl ⟨rfl, rfl⟩⟩, Below.refl _ _⟩
  case round =>
    obtain ⟨e, ys, he, rfl, he9, hle, hst, hown, hbel⟩ := hrel
    obtain ⟨a, n, c, rfl⟩ : ∃ a n c, u5 = .slice a n c := by
      rcases hown.2 with ⟨h1, h2⟩ | ⟨g, cap, cur, h1, h2⟩
      · exact ⟨_, _, _, h1⟩
      · exact ⟨_, _, _, h1⟩
    have HST := Lib.hid hst
    have HOWN := Lib.hid hown
    have HBEL := Lib.hid hbel
    have hsz := hbel.size
    clear hst hown hbel
    by_cases h0 : 0 < e
    · obtain ⟨E, rfl⟩ : ∃ E : Nat, e = E := ⟨e.toNat, by omega⟩
      have hEl : E ≤ l.length := by omega
      have hE0 : 0 < E := by omega
      have hmx : max (0 : Int) ((E : Int) - 9) = ((E - 9 : Nat) : Int) := by omega
      have hsl : ∀ W, (Instr.sliceAt 9 (.string ⟨l.toArray⟩) (some (.int .i64 ((E - 9 : Nat) : Int))) (some (.int .i64 (E : Int))) none).run Tryz.prog W = .ok (.string ⟨((l.take E).drop (E - 9)).toArray⟩) W := by
        intro W
        have h1 : (0 : Int) ≤ ((E - 9 : Nat) : Int) ∧ ((E - 9 : Nat) : Int) ≤ (E : Int) := by omega
        have h2 : (0 : Int) ≤ (E : Int) ∧ (E : Int) ≤ (⟨l.toArray⟩ : ByteArray).size := by rw [Lib.size_mk]; omega
        have h3 : (⟨l.toArray⟩ : ByteArray).extract (E - 9) E = ⟨((l.take E).drop (E - 9)).toArray⟩ := by
          rw [Lib.extract_mk, List.drop_take]
        simp only [Instr.sliceAt, Sem.run_bind, run_underlying Tryz.underlying9, Result.andThen_ok, Instr.slice, Instr.sliceBounds, Instr.sliceBound, asIntOf, Sem.run_pure, if_true, Option.isSome, Sem.run_ite, h1, h2, and_self, Int.toNat_natCast]
        simp [h3]
      have hdd : IsDig ((l.take E).drop (E - 9)) := (HD.out.take E).drop (E - 9)
      have hl9 : ((l.take E).drop (E - 9)).length ≤ 9 := by simp; omega
      have hne : (l.take E).drop (E - 9) ≠ [] := by intro h; have := congrArg List.length h; simp at this; omega
      have hrd := rd_lt hdd
      have hr9 : rd ((l.take E).drop (E - 9)) < 1000000000 := Nat.lt_of_lt_of_le hrd (by rw [show (1000000000 : Nat) = 10 ^ 9 from rfl]; exact Nat.pow_le_pow_right (by omega) hl9)
      have hstep := HST.out.step
      rw [show (l.take ((E : Int)).toNat) = l.take E from rfl, List.length_take, Nat.min_eq_left hEl] at hstep
      have hpu := Tryz.strconv_ParseUint_10_at64_ok ⟨((l.take E).drop (E - 9)).toArray⟩ (by rw [Lib.size_mk]; omega) (rd ((l.take E).drop (E - 9))) (parseB_ok hdd hne hl9) wr
      have HPU := Lib.hid hpu
      have HSTEP := Lib.hid hstep
      clear hpu hstep hrd hdd hne hl9
      go_wp2_with fail
      obtain ⟨d, hdef⟩ : ∃ d, d = rd ((l.take E).drop (E - 9)) := ⟨_, rfl⟩
      rw [← hdef] at hr9
      have HDEF := Lib.hid hdef
      clear hdef
      refine HPU.out.mono ?_
      rintro e w3 ⟨rfl, hw3⟩
      rw [← HDEF.out]
      have HX3 : RowKit.Hid (Ext wr w3) := Lib.hid (by
        rcases hw3 with rfl | rfl
        · exact Ext.refl _
        · exact ext_bytesWorld _ _ _)
      clear hw3
      have hsz3 := HX3.out.size
      go_wp2_with (at_builtin; refine wpList_append_own _ rfl _ _ 105 rfl w2.heap.size 215 i0 (.int .u64 0) 1 8 Tryz.underlying105 hi hz0 hz1 hz2 rfl (by decide) _ _ _ rfl ((ownsRow_ext HOWN.out HX3.out).alloc _) ⟨w3.heap.size, 0, none⟩ 1 1 [.int .u64 (d : Int)] rfl rfl ?c1 ?c2 ?c3 ?c4 ?c5 ?_)
      case c1 =>
        intro j u hj
        match j, hj with
        | 0, hj => simp at hj; subst hj; simp [Addr.add]
      case c2 => intro u hu; simp at hu; subst hu; rfl
      case c3 => unfold maxLen; omega
      case c4 => omega
      case c5 => simp; omega
      intro v' w4 hown' hgrow _
      go_wp2_with fail
      refine ⟨⟨(E : Int) - 9, ys ++ [d], by omega, by go_num, by omega, by simp; omega, ?_, by simpa [u64s] using hown', ?_⟩, by simp only [RowKit.intOf]; omega⟩
      · rw [HDEF.out, show (l.take ((E : Int) - 9).toNat) = (l.take E).take (E - 9) by rw [List.take_take]; congr 1; omega]
        exact HSTEP.out
      · have h5 : Below w2.heap.size wr w3 := Below.mono HX3.out (by omega)
        exact (((HBEL.out.trans h5).alloc (by omega) _).grown hgrow (by simp; omega) (fun k hk => (HOWN.out.lt k hk).1))
    · have hln := HOWN.out.1
      have hval : val ys = rd l := by
        have := HST.out.sum
        rw [show e.toNat = 0 by omega] at this
        simpa [rd, rdA] using this.symm
      obtain ⟨rfl, hcap⟩ : n = ys.length ∧ ys.length ≤ c := by
        rcases HOWN.out.2 with ⟨h1, h2⟩ | ⟨g, cap, cur, h1, h2, h3, h4, _⟩
        · simp at h1; omega
        · simp at h1; obtain ⟨_, rfl, rfl⟩ := h1; exact ⟨rfl, h4⟩
      have hrow := row_of_owns HOWN.out (by simp)
      have HROW := Lib.hid hrow
      have HVAL := Lib.hid hval
      clear hrow hval hln
      go_wp2_with fail
      refine (trim_len a c ys.length ys wr rfl (by omega) hcap HROW.out).mono ?_
      rintro e w' ⟨rfl, hww⟩
      subst hww
      go_wp2_with fail
      refine (number_any neg _ (rd l) wr (nat_of_trim HST.out.low HROW.out HVAL.out hcap) (Nat.le_trans (nl_le_of_lt (k := l.length) (Nat.lt_of_lt_of_le (rd_lt HD.out) (by rw [ten9]; exact Nat.pow_le_pow_right (by omega) (by omega)))) (by omega))).mono ?_
      rintro e w5 ⟨v5, rfl, ⟨a5, n5, c5, rfl, hs5⟩, hx5⟩
      have HX5 := Lib.hid hx5
      have HS5 := Lib.hid hs5
      have hlt : w.heap.size < w2.heap.size := by rw [HS1.out]; omega
      have BB : RowKit.Hid (w5.heap[w.heap.size]? = some (.cells #[.bool false, .slice none 0 0] 107 (0, 0))) := Lib.hid (by
        rw [Below.block HX5.out _ (by omega), HBEL.out.block _ hlt, HW1.out, heap_alloc_eq])
      have d0 := cell2_0 BB.out
      have d1 := cell2_1 BB.out
      have f0 := frozen_of_row _ _ 0 _ _ BB.out
      have f1 := frozen_of_row _ _ 1 _ _ BB.out
      clear hs5 hx5
      go_wp2_with fail
      have HXX : Ext w w5 := by
        refine Ext.trans (b := w2) (by rw [HW1.out]; exact Ext.alloc (Ext.refl w) _) ?_
        exact Below.trans HBEL.out (Below.mono HX5.out (by omega))
      refine ret_num rfl rfl (blk2_set BB.out) rfl ⟨_, rfl, ?_, ext2 HXX (Nat.le_refl _) _ _⟩
      have hs := HS5.out.grown (noInts2 BB.out) (grown2 _ _ (.bool (decide (sgnd neg (rd l) < 0))) (.slice a5 n5 c5))
      exact num_of' rfl hs
end Go.Proofs.YtpdboaedoimahaaGreatDoor
end
section
set_option linter.unusedSectionVars false
set_option linter.unusedVariables false
namespace Go.Proofs.YtpdboaedoimahaaGreatDoor
open Go.RowKit
def TabU (u : PH) : Prop := ∀ w, Part u w → Lib.TabIs Tryz.prog w "internal/strconv.uint64pow10" .u64 Lib.pow10Tab
theorem TabU.mono {u u' : PH} (h : TabU u) (hl : PH.le u u') : TabU u' := fun w hp => h w (fun g o hg => hp g o (hl g o hg))
section
variable {u : PH} {x : Value}
theorem formatUint0 {k : Nat} (ht : TabU u) (hk : k < 18446744073709551616) : Fn0 Tryz.prog 197 [.int .u64 (k : Int), .int .i64 10] u fun v _ => v = .string (mkS (Lib.decDigits k)) :=
  Fn0.ofW (fun v _ => v = .string (mkS (Lib.decDigits k))) (fun w hp => (formatUintS_any k hk w (ht w hp)).mono fun _ _ ⟨e, h⟩ => ⟨_, e, rfl, h⟩) (fun _ _ _ h _ _ _ => h)
theorem numRead0 {z : Int} (h : Lib.nDigits z.natAbs ≤ 400) : Fn0 Tryz.prog 127 [.string (mkS (Lib.itoa z))] u fun v u' => NumP u' v z := by
  refine Fn0.ofW (fun v w => NumV w v z) (fun w _ => ?_) (fun _ _ _ h _ c _ => NumP.ofW h c)
  have := numRead_any (decide (z < 0)) (Lib.decDigits z.natAbs) w (dec_dig _) (dec_ne_nil _) (by rw [Lib.decDigits_length]; omega)
  rw [sgnd_itoa, ← itoa_signed] at this
  exact this
theorem numString0 {z : Int} (ht : TabU u) (h : NumP u x z) (hs : nl z.natAbs ≤ 100000000000) : Fn0 Tryz.prog 198 [x] u fun v _ => v = .string (mkS (Lib.itoa z)) :=
  Fn0.ofW (fun v _ => v = .string (mkS (Lib.itoa z))) (fun w hp => (numString_any x z w (h.toW hp) hs (ht w hp)).mono fun _ _ ⟨e, h⟩ => ⟨_, e, rfl, h⟩) (fun _ _ _ h _ _ _ => h)
end
theorem NatP.at {u : PH} {a : Option Addr} {n c k j : Nat} (h : NatP u (.slice a n c) k) (hj : j < (limbs k).length) : ∃ b off, a = some ⟨b, off, none⟩ ∧ ElP u b (off + j * 1) (.int .u64 ((limbs k).getD j 0 : Nat)) := by
  obtain ⟨a', c', h1, h2, h3⟩ := h
  simp only [Value.slice.injEq] at h1
  obtain ⟨rfl, _, rfl⟩ := h1
  obtain ⟨b, off, e1, e2⟩ := h3 j (by simpa using hj)
  refine ⟨b, off, e1, fun i y hi => ?_⟩
  have hx : (u64s (limbs k)).getD j (.bool false) = .int .u64 ((limbs k).getD j 0 : Nat) := by simp [u64s, hj]
  rw [hx] at e2
  have : i = 0 ∧ y = .int .u64 ((limbs k).getD j 0 : Nat) := by
    match i, hi with
    | 0, hi => simp [Value.cells] at hi; simp [hi]
  obtain ⟨rfl, rfl⟩ := this
  simpa using e2
theorem numDigits0 {u : PH} {x : Value} {z : Int} (ht : TabU u) (h : NumP u x z) (hs : nl z.natAbs ≤ 100000000000) : Fn0 Tryz.prog 157 [x] u fun v _ => v = .int .i64 (Lib.nDigits z.natAbs : Nat) := by
  obtain ⟨a, n, c, rfl, hn⟩ := h
  obtain rfl : n = (limbs z.natAbs).length := by obtain ⟨_, _, h1, _⟩ := id hn; simp at h1; exact h1.2.1
  generalize decide (z < 0) = b
  have hs' : (limbs z.natAbs).length ≤ 100000000000 := hs
  refine Fn0.of Tryz.func157 (by kernel_rfl) (by kernel_rfl) ?_
  by_cases h0 : z.natAbs = 0
  · refine G.eqlT ((limbs z.natAbs).length : Int) 0 (by kernel_rfl) (by rw [h0, limbs_zero]; rfl) ?_
    exact G.ret (.int .i64 1) (by kernel_rfl) ⟨rfl, by rw [h0, Lib.nDigits_small (by omega)]; rfl⟩
  · have hp : 0 < (limbs z.natAbs).length := len_pos.2 (by omega)
    have htop := nDigits_top h0
    have hlow := (low_limbs z.natAbs).getD ((limbs z.natAbs).length - 1)
    obtain ⟨bb, off, rfl, he⟩ := hn.at (j := (limbs z.natAbs).length - 1) (by omega)
    have h9 := nDigits_le9 hlow
    have hdl := Lib.decDigits_length ((limbs z.natAbs).getD ((limbs z.natAbs).length - 1) 0)
    have hsz : (mkS (Lib.decDigits ((limbs z.natAbs).getD ((limbs z.natAbs).length - 1) 0))).size = (Lib.decDigits ((limbs z.natAbs).getD ((limbs z.natAbs).length - 1) 0)).length := Go.Lib.size_mk _
    refine G.eqlF ((limbs z.natAbs).length : Int) 0 (by kernel_rfl) (by omega) ?_
    refine G.sub ((limbs z.natAbs).length : Int) 1 (((limbs z.natAbs).length - 1 : Nat) : Int) (by kernel_rfl) (by omega) (by omega) (by omega) ?_
    refine G.mul 9 (((limbs z.natAbs).length - 1 : Nat) : Int) ((9 * ((limbs z.natAbs).length - 1) : Nat) : Int) (by kernel_rfl) (by omega) (by omega) (by omega) ?_
    refine G.addr bb off (limbs z.natAbs).length c ((limbs z.natAbs).length - 1) 1 (by kernel_rfl) (by omega) ?_
    refine G.loadU none bb (off + ((limbs z.natAbs).length - 1) * 1) (.int .u64 ((limbs z.natAbs).getD ((limbs z.natAbs).length - 1) 0 : Nat)) (by kernel_rfl) (by kernel_rfl) he ?_
    refine G.call0 _ _ (by kernel_rfl) Tryz.call197 (formatUint0 (k := (limbs z.natAbs).getD ((limbs z.natAbs).length - 1) 0) ht (by omega)) ?_
    rintro v1 u1 l1 rfl
    refine G.add ((9 * ((limbs z.natAbs).length - 1) : Nat) : Int) ((Lib.decDigits ((limbs z.natAbs).getD ((limbs z.natAbs).length - 1) 0)).length : Int) ((Lib.nDigits z.natAbs : Nat) : Int) (by kernel_rfl) (by omega) (by omega) (by omega) ?_
    exact G.ret _ (by kernel_rfl) ⟨rfl, rfl⟩
theorem fracRat0 {u : PH} {x : Value} {q : Rat} (ht : TabU u) (hx : FracP u x q) (h : Tx q) : Fn0 Tryz.prog 158 [x] u fun v _ => v = .string (mkS (ratT q)) := by
  obtain ⟨b, a, n, c, b', a', n', c', rfl⟩ := hx.opn
  have hd := Nat.le_trans (nl_of_dig h.2) (show 400 ≤ 4000000000000 by omega)
  refine Fn0.of Tryz.func158 (by kernel_rfl) (by kernel_rfl) ?_
  refine G.call0 _ _ (by kernel_rfl) Tryz.call152 (fracWhole0 hx hd) ?_
  rintro v1 u1 l1 rfl
  by_cases h1 : q.den = 1
  · rw [decide_eq_true h1]
    refine G.call0 _ _ (by kernel_rfl) Tryz.call198 (numString0 (ht.mono l1) (hx.num.mono l1) (Nat.le_trans (nl_of_dig h.1) (by omega))) ?_
    rintro v2 u2 l2 rfl
    exact G.ret (.string (mkS (Lib.itoa q.num))) (by kernel_rfl) ⟨rfl, by rw [ratT, if_pos h1]⟩
  · rw [decide_eq_false h1]
    refine G.call0 _ _ (by kernel_rfl) Tryz.call198 (numString0 (ht.mono l1) (hx.num.mono l1) (Nat.le_trans (nl_of_dig h.1) (by omega))) ?_
    rintro v2 u2 l2 rfl
    have e1 := itoa_len h.1
    have e2 := itoa_len h.den
    refine G.addS (Lib.itoa q.num) [47] (by kernel_rfl) (by simp; omega) ?_
    refine G.call0 _ _ (by kernel_rfl) Tryz.call198 (numString0 (ht.mono (l1.trans l2)) (hx.den.mono (l1.trans l2)) (Nat.le_trans (nl_of_dig h.den) (by omega))) ?_
    rintro v3 u3 l3 rfl
    refine G.addS (Lib.itoa q.num ++ [47]) (Lib.itoa (q.den : Int)) (by kernel_rfl) (by simp; omega) ?_
    exact G.ret (.string (mkS (Lib.itoa q.num ++ [47] ++ Lib.itoa (q.den : Int)))) (by kernel_rfl) ⟨rfl, by rw [ratT, if_neg h1]; simp⟩
theorem fracFits0 {u : PH} {x : Value} {q : Rat} (ht : TabU u) (hx : FracP u x q) (h : Tx q) : Fn0 Tryz.prog 97 [x] u fun v _ => v = .tuple #[.string (mkS (ratT q)), .int .i64 0] := by
  obtain ⟨b, a, n, c, b', a', n', c', rfl⟩ := hx.opn
  have h2 := h.2
  have h1 := h.1
  refine Fn0.of Tryz.func97 (by kernel_rfl) (by kernel_rfl) ?_
  refine G.call0 _ _ (by kernel_rfl) Tryz.call157 (numDigits0 ht hx.num (Nat.le_trans (nl_of_dig h.1) (by omega))) ?_
  rintro v1 u1 l1 rfl
  refine G.gtrF ((Lib.nDigits q.num.natAbs : Nat) : Int) 400 (by kernel_rfl) (by omega) ?_
  refine G.call0 _ _ (by kernel_rfl) Tryz.call157 (numDigits0 (ht.mono l1) (hx.den.mono l1) (Nat.le_trans (nl_of_dig h.den) (by omega))) ?_
  rintro v2 u2 l2 rfl
  have h3 := h.den
  refine G.gtrF ((Lib.nDigits ((q.den : Int)).natAbs : Nat) : Int) 400 (by kernel_rfl) (by omega) ?_
  refine G.call0 _ _ (by kernel_rfl) Tryz.call158 (fracRat0 (ht.mono (l1.trans l2)) (hx.mono (l1.trans l2)) h) ?_
  rintro v3 u3 l3 rfl
  exact G.ret _ (by kernel_rfl) ⟨rfl, rfl⟩
end Go.Proofs.YtpdboaedoimahaaGreatDoor
end
section
set_option linter.unusedSectionVars false
set_option linter.unusedVariables false
namespace Go.Proofs.YtpdboaedoimahaaGreatDoor
open Go.RowKit
theorem index_none {l : List UInt8} {c : UInt8} (h : ∀ b ∈ l, b ≠ c) : Lib.indexByte l c = -1 := by
  induction l with
  | nil => rfl
  | cons b l ih =>
    have h1 : (b == c) = false := by rw [beq_eq_false_iff_ne]; exact h b (by simp)
    rw [Lib.indexByte, h1, ih (fun x hx => h x (by simp [hx]))]; rfl
theorem index_at {l r : List UInt8} {c : UInt8} (h : ∀ b ∈ l, b ≠ c) : Lib.indexByte (l ++ c :: r) c = l.length := by
  induction l with
  | nil => simp [Lib.indexByte]
  | cons b l ih =>
    have h1 : (b == c) = false := by rw [beq_eq_false_iff_ne]; exact h b (by simp)
    have h2 := ih (fun x hx => h x (by simp [hx]))
    rw [List.cons_append, Lib.indexByte, h1, h2]
    have h3 : (((l.length : Nat) : Int) == -1) = false := by rw [beq_eq_false_iff_ne]; omega
    simp [h3]
theorem index0 {u : PH} {l : List UInt8} {c : UInt8} : Fn0 Tryz.prog 209 [.string (mkS l), .string (mkS [c])] u fun v _ => v = .int .i64 (Lib.indexByte l c) :=
  Fn0.ofW (fun v _ => v = .int .i64 (Lib.indexByte l c)) (fun w _ => (Tryz.stringslite_Index_one (mkS l) c w).mono fun _ _ ⟨e, h⟩ => ⟨_, e, rfl, by rw [h]; exact Ext.refl _⟩) (fun _ _ _ h _ _ _ => h)
theorem cutN {u : PH} {T : List UInt8} (h : ∀ b ∈ T, b ≠ 47) : Fn0 Tryz.prog 124 [.string (mkS T), .string (mkS [47])] u fun v _ => v = .tuple #[.string (mkS T), .string (mkS []), .bool false] := by
  have hin : Fn0 Tryz.prog 175 [.string (mkS T), .string (mkS [47])] u fun v _ => v = .tuple #[.string (mkS T), .string (mkS []), .bool false] := by
    refine Fn0.of Tryz.func175 (by kernel_rfl) (by kernel_rfl) ?_
    refine G.call0 _ _ (by kernel_rfl) Tryz.call209 (index0 (l := T) (c := 47)) ?_
    rintro v1 u1 l1 rfl
    rw [index_none h]
    refine G.geqF (-1) 0 (by kernel_rfl) (by omega) ?_
    exact G.ret (.tuple #[.string (mkS T), .string (mkS []), .bool false]) (by kernel_rfl) ⟨rfl, rfl⟩
  refine Fn0.of Tryz.func124 (by kernel_rfl) (by kernel_rfl) ?_
  refine G.call0 _ _ (by kernel_rfl) Tryz.call175 hin ?_
  rintro v1 u1 l1 rfl
  exact G.ret _ (by kernel_rfl) ⟨rfl, rfl⟩
theorem cutS {u : PH} {A B : List UInt8} (h : ∀ b ∈ A, b ≠ 47) (hl : (A ++ 47 :: B).length ≤ 1000000) : Fn0 Tryz.prog 124 [.string (mkS (A ++ 47 :: B)), .string (mkS [47])] u fun v _ => v = .tuple #[.string (mkS A), .string (mkS B), .bool true] := by
  have hlen : (A ++ 47 :: B).length = A.length + 1 + B.length := by simp; omega
  have htk : (A ++ 47 :: B).take A.length = A := by simp
  have hdr : (A ++ 47 :: B).drop (A.length + 1) = B := by rw [← List.drop_drop]; simp
  have hix := index_at (r := B) h
  generalize A ++ 47 :: B = T at *
  have hsize : (mkS T).size = T.length := Go.Lib.size_mk _
  have hin : Fn0 Tryz.prog 175 [.string (mkS T), .string (mkS [47])] u fun v _ => v = .tuple #[.string (mkS A), .string (mkS B), .bool true] := by
    refine Fn0.of Tryz.func175 (by kernel_rfl) (by kernel_rfl) ?_
    refine G.call0 _ _ (by kernel_rfl) Tryz.call209 (index0 (l := T) (c := 47)) ?_
    rintro v1 u1 l1 rfl
    rw [hix]
    refine G.geqT (A.length : Int) 0 (by kernel_rfl) (by omega) ?_
    refine G.sliceSTo T A.length (by kernel_rfl) (by kernel_rfl) (by omega) ?_
    rw [htk]
    refine G.add (A.length : Int) 1 ((A.length + 1 : Nat) : Int) (by kernel_rfl) (by omega) (by omega) (by omega) ?_
    refine G.sliceSFrom T (A.length + 1) (by kernel_rfl) (by kernel_rfl) (by omega) ?_
    rw [hdr]
    exact G.ret (.tuple #[.string (mkS A), .string (mkS B), .bool true]) (by kernel_rfl) ⟨rfl, rfl⟩
  refine Fn0.of Tryz.func124 (by kernel_rfl) (by kernel_rfl) ?_
  refine G.call0 _ _ (by kernel_rfl) Tryz.call175 hin ?_
  rintro v1 u1 l1 rfl
  exact G.ret _ (by kernel_rfl) ⟨rfl, rfl⟩
theorem cutT {u : PH} {q : Rat} (h : Tx q) : Fn0 Tryz.prog 124 [.string (mkS (ratT q)), .string (mkS [47])] u fun v _ => v = .tuple #[.string (mkS (Lib.itoa q.num)), .string (mkS (if q.den = 1 then [] else Lib.itoa (q.den : Int))), .bool (decide (q.den ≠ 1))] := by
  have l1 := itoa_len h.1
  have l2 := itoa_len h.den
  unfold ratT
  by_cases hd : q.den = 1
  · rw [if_pos hd, if_pos hd, decide_eq_false (by simp [hd])]
    exact cutN (itoa_no47 _)
  · rw [if_neg hd, if_neg hd, decide_eq_true hd]
    exact cutS (itoa_no47 _) (by simp; omega)
theorem FracP.mk {u : PH} {q : Rat} {y z : Int} {b b' : Bool} {a a' : Option Addr} {n c n' c' : Nat} (h1 : NumP u (.agg #[.bool b, .slice a n c]) y) (h2 : NumP u (.agg #[.bool b', .slice a' n' c']) z) (hy : q.num = y) (hz : (q.den : Int) = z) :
    FracP u (.agg #[.bool b, .slice a n c, .bool b', .slice a' n' c']) q := by
  obtain ⟨_, _, _, e1, i1⟩ := h1
  obtain ⟨_, _, _, e2, i2⟩ := h2
  subst hy hz
  rw [decide_eq_false (by omega)] at e2
  simp only [Value.agg.injEq, Array.mk.injEq, List.cons.injEq, Value.bool.injEq, Value.slice.injEq, and_true] at e1 e2
  obtain ⟨rfl, rfl, rfl, rfl⟩ := e1
  obtain ⟨rfl, rfl, rfl, rfl⟩ := e2
  exact ⟨_, _, _, _, _, _, rfl, i1, i2⟩
theorem fracRead0 {u : PH} {q : Rat} (h : Tx q) : Fn0 Tryz.prog 95 [.string (mkS (ratT q))] u fun v u' => FracP u' v q := by
  refine Fn0.of Tryz.func95 (by kernel_rfl) (by kernel_rfl) ?_
  refine G.call0 _ _ (by kernel_rfl) Tryz.call124 (cutT h) ?_
  rintro v1 u1 l1 rfl
  by_cases hd : q.den = 1
  · rw [if_pos hd, decide_eq_false (by simp [hd])]
    refine G.call0 _ _ (by kernel_rfl) Tryz.call127 (numRead0 h.1) ?_
    intro v2 u2 l2 k2
    obtain ⟨b2, a2, n2, c2, rfl⟩ := k2.opn
    have hr1 := numRead0 (u := u2) (z := 1) (by rw [Lib.nDigits_small (by decide)]; omega)
    rw [itoa_one] at hr1
    refine G.call0 _ _ (by kernel_rfl) Tryz.call127 hr1 ?_
    intro v3 u3 l3 k3
    obtain ⟨b3, a3, n3, c3, rfl⟩ := k3.opn
    exact G.ret (.agg #[.bool b2, .slice a2 n2 c2, .bool b3, .slice a3 n3 c3]) (by kernel_rfl) ⟨rfl, FracP.mk (k2.mono l3) k3 rfl (by rw [hd]; rfl)⟩
  · rw [if_neg hd, decide_eq_true hd]
    refine G.call0 _ _ (by kernel_rfl) Tryz.call127 (numRead0 h.1) ?_
    intro v2 u2 l2 k2
    obtain ⟨b2, a2, n2, c2, rfl⟩ := k2.opn
    refine G.call0 _ _ (by kernel_rfl) Tryz.call127 (numRead0 h.den) ?_
    intro v3 u3 l3 k3
    obtain ⟨b3, a3, n3, c3, rfl⟩ := k3.opn
    exact G.ret (.agg #[.bool b2, .slice a2 n2 c2, .bool b3, .slice a3 n3 c3]) (by kernel_rfl) ⟨rfl, FracP.mk (k2.mono l3) k3 rfl rfl⟩
end Go.Proofs.YtpdboaedoimahaaGreatDoor
end
section
set_option linter.unusedSectionVars false
set_option linter.unusedVariables false
namespace Go.Proofs.YtpdboaedoimahaaGreatDoor
open Go.RowKit
def strsV (ts : List (List UInt8)) : List Value := ts.map fun t => Value.string (mkS t)
theorem strsV_length (ts : List (List UInt8)) : (strsV ts).length = ts.length := by simp [strsV]
theorem strsV_ok (ts : List (List UInt8)) : ElsOK 1 (strsV ts) := by
  intro e he
  simp only [strsV, List.mem_map] at he
  obtain ⟨b, _, rfl⟩ := he
  exact ⟨rfl, fun x hx => by simp [Value.cells] at hx; subst hx; rfl⟩
def StrsP (u : PH) (v : Value) (ts : List (List UInt8)) : Prop := ListP u v 1 (strsV ts)
theorem ListP.opn {u : PH} {v : Value} {sz : Nat} {es : List Value} (h : ListP u v sz es) : ∃ a c, v = .slice a es.length c := by
  obtain ⟨a, c, rfl, _⟩ := h; exact ⟨a, c, rfl⟩
theorem ListP.at' {u : PH} {a : Option Addr} {n c sz : Nat} {es : List Value} (h : ListP u (.slice a n c) sz es) {j : Nat} {e : Value} (hj : es[j]? = some e) : ∃ b off, a = some ⟨b, off, none⟩ ∧ ElP u b (off + j * sz) e := by
  obtain ⟨a', c', h1, h2, h3⟩ := h
  simp only [Value.slice.injEq] at h1
  obtain ⟨rfl, _, rfl⟩ := h1
  exact h3 j e hj
end Go.Proofs.YtpdboaedoimahaaGreatDoor
end
section
set_option linter.unusedSectionVars false
set_option linter.unusedVariables false
namespace Go.Proofs.YtpdboaedoimahaaGreatDoor
open Go.RowKit
theorem refSame0 {u : PH} {v v' : Value} {ts ts' : List (List UInt8)} (h : StrsP u v ts) (h' : StrsP u v' ts') (hl : ts.length ≤ 1000000) (hl' : ts'.length ≤ 1000000) :
    Fn0 Tryz.prog 22 [v, v'] u fun r _ => r = .bool (decide (ts = ts')) := by
  obtain ⟨a, c, rfl⟩ := ListP.opn h
  obtain ⟨a', c', rfl⟩ := ListP.opn h'
  rw [strsV_length] at h h' ⊢
  rw [strsV_length]
  refine Fn0.of Tryz.func22 (by kernel_rfl) (by kernel_rfl) ?_
  by_cases hn : ts.length = ts'.length
  · refine G.neqF (ts.length : Int) (ts'.length : Int) (by kernel_rfl) (by omega) ?_
    refine G.loop (ι := Nat) (fun i => [(0, .v (.slice a ts.length c)), (1, .v (.slice a' ts'.length c')), (12, .v (.int .i64 (ts.length : Int))), (13, .v (.int .i64 (i : Int)))]) (fun _ => [])
      (fun i u' m' => (i ≤ ts.length ∧ ts.take i = ts'.take i) ∧ m' = PH.mt) (fun i => ts.length - i) 0 (by kernel_rfl) (fun _ => by kernel_rfl) ⟨by kernel_rfl, by kernel_rfl, by kernel_rfl⟩ ⟨⟨by omega, by simp⟩, rfl⟩ ?_
    rintro J k hJ u' m' hle ⟨⟨hk, heq⟩, rfl⟩
    by_cases hlt : k < ts.length
    · refine G.lssT (k : Int) (ts.length : Int) (by kernel_rfl) (by omega) ?_
      have hlt' : k < ts'.length := by omega
      have htk : ts[k]? = some ts[k] := List.getElem?_eq_getElem hlt
      have htk' : ts'[k]? = some ts'[k] := List.getElem?_eq_getElem hlt'
      obtain ⟨ba, oa, rfl, ea⟩ := ListP.at' (ListP.mono h hle) (j := k) (e := .string (mkS ts[k])) (by simp [strsV, htk])
      obtain ⟨bb, ob, rfl, eb⟩ := ListP.at' (ListP.mono h' hle) (j := k) (e := .string (mkS ts'[k])) (by simp [strsV, htk'])
      refine G.addr ba oa ts.length c k 1 (by kernel_rfl) (by omega) ?_
      refine G.loadU none ba (oa + k * 1) (.string (mkS ts[k])) (by kernel_rfl) (by kernel_rfl) ea ?_
      refine G.addr bb ob ts'.length c' k 1 (by kernel_rfl) (by omega) ?_
      refine G.loadU none bb (ob + k * 1) (.string (mkS ts'[k])) (by kernel_rfl) (by kernel_rfl) eb ?_
      by_cases he : ts[k] = ts'[k]
      · refine G.neSF ts[k] ts'[k] (by kernel_rfl) he ?_
        refine G.add (k : Int) 1 ((k + 1 : Nat) : Int) (by kernel_rfl) (by omega) (by omega) (by omega) ?_
        exact G.back (by kernel_rfl) (hJ (k + 1) _ _ _ ⟨by kernel_rfl, by kernel_rfl, by kernel_rfl⟩ hle ⟨⟨by omega, by rw [List.take_add_one, List.take_add_one, heq, htk, htk', he]⟩, rfl⟩ (by omega))
      · refine G.neST ts[k] ts'[k] (by kernel_rfl) he ?_
        exact G.ret (.bool false) (by kernel_rfl) ⟨rfl, by rw [decide_eq_false]; rintro rfl; exact he rfl⟩
    · refine G.lssF (k : Int) (ts.length : Int) (by kernel_rfl) (by omega) ?_
      have : ts = ts' := by rw [List.take_of_length_le (by omega), List.take_of_length_le (by omega)] at heq; exact heq
      exact G.ret (.bool true) (by kernel_rfl) ⟨rfl, by simp [this]⟩
  · refine G.neqT (ts.length : Int) (ts'.length : Int) (by kernel_rfl) (by omega) ?_
    exact G.ret (.bool false) (by kernel_rfl) ⟨rfl, by rw [decide_eq_false]; rintro rfl; exact hn rfl⟩
end Go.Proofs.YtpdboaedoimahaaGreatDoor
end
section
set_option linter.unusedSectionVars false
set_option linter.unusedSimpArgs false
set_option linter.unusedVariables false
namespace Go.Proofs.YtpdboaedoimahaaGreatDoor
open Go.RowKit
section rules
variable [Flag] {P : Program} [Mixed P] {fn : Func} {Post : Spec} {st : List KI × S} {u m : PH}
theorem Good.heap {w w' : World} (h : Good u m w) (e : ∀ g : Nat, w'.heap[g]? = w.heap[g]?) : Good u m w' :=
  ⟨fun g o hg => by rw [e]; exact h.pu g o hg, fun g o hg => by rw [e]; exact h.pm g o hg, h.ap, fun g cs t fr j z hg hj => h.cl g cs t fr j z (by rw [← e]; exact hg) hj⟩
theorem G.convSB (d : Option TypeDesc) (e : TypeId) (l : List UInt8) (h : stopV P (adv P st) = .conv d (some (.slice e)) (.string (mkS l))) (hd : d.isSome = true) (he : P.underlying e = some (.int .u8))
    (k : ∀ v u', PH.le u u' → ListP u' v 1 (bytesV l) → G P fn Post (nx (adv P st) v) u' m) : G P fn Post st u m := by
  refine G.big (K := fun v' u' m' => m' = m ∧ ListP u' v' 1 (bytesV l)) h (by simp) (fun env op hv => ?_) (.inl fun v u' m' hk => by rw [hk.1]; exact PH.le_refl _) (fun env o hview w hgd => ?_) (fun v' u' m' hle hk => ?_)
  · obtain ⟨s, d', X, rfl, _⟩ := view_conv hv; rfl
  · obtain ⟨s, d', X, e1, e2, e3, e4⟩ := view_conv hview
    obtain ⟨dst, opp, type, pos, after, guard⟩ := o
    simp only at e1; subst e1
    obtain ⟨dd, rfl⟩ := Option.isSome_iff_exists.1 hd
    have hr := Lib.run_convert_string_bytes (P := P) w s d' e (mkS l) e3 e4 he
    have hsz : (mkS l).size = l.length := Go.Lib.size_mk l
    obtain ⟨g1, g2, g3, g4⟩ := hgd.newU (.cells (Lib.bytesCells w e (mkS l)) e ((Lib.bytesCells w e (mkS l)).size, (Lib.bytesCells w e (mkS l)).size + 1))
    have hh : ∀ g : Nat, (Lib.bytesWorld w e (mkS l)).heap[g]? = (w.alloc (.cells (Lib.bytesCells w e (mkS l)) e ((Lib.bytesCells w e (mkS l)).size, (Lib.bytesCells w e (mkS l)).size + 1))).heap[g]? := by
      intro g
      rcases Nat.lt_trichotomy g w.heap.size with h1 | h1 | h1
      · rw [Lib.bytesWorld_at_old w e _ g h1, heap_alloc_lt _ _ h1]
      · subst h1; rw [Lib.bytesWorld_at_new, heap_alloc_eq]
      · rw [Array.getElem?_eq_none (by rw [Lib.bytesWorld_size]; omega), Array.getElem?_eq_none (by rw [size_alloc']; omega)]
    refine does_value (by simp [execOp, e2, hr]; rfl) ⟨_, m, g1.heap hh, ⟨by rw [Lib.bytesWorld_size]; omega, fun g hg hm => Lib.bytesWorld_at_old w e _ g hg, g2.us, g2.ms, ⟨rfl, rfl⟩, fun _ => ⟨rfl, by first | exact Nat.le_refl _ | exact Nat.le_succ _⟩⟩, rfl, ?_⟩
    refine ⟨some ⟨w.heap.size, 0, none⟩, grownCap w l.length 0 e, by rw [bytesV_length, hsz], by rw [bytesV_length]; exact grownCap_ge w _ _ e, fun j x hj => ⟨_, 0, rfl, fun i y hy => ⟨_, _, _, upd_same _ _ _, ?_⟩⟩⟩
    have hjl : j < l.length := by
      rcases Nat.lt_or_ge j l.length with h' | h'
      · exact h'
      · rw [List.getElem?_eq_none (by rw [bytesV_length]; exact h')] at hj; cases hj
    rw [bytesV_get hjl] at hj
    simp only [Option.some.injEq] at hj
    subst hj
    have : i = 0 ∧ y = .int .u8 ((l.getD j 0).toNat : Int) := by
      match i, hy with
      | 0, hy => simp [Value.cells] at hy; simp [hy]
    obtain ⟨rfl, rfl⟩ := this
    simp [Lib.bytesCells, Array.getElem?_append, hjl, List.getD]
  · obtain ⟨rfl, hk⟩ := hk
    exact k v' u' hle hk
end rules
theorem trimPrefix0 {u : PH} {s p : List UInt8} : Fn0 Tryz.prog 176 [.string (mkS s), .string (mkS p)] u fun v _ => v = .string (mkS (Lib.trimPrefix s p)) :=
  Fn0.ofW (fun v _ => v = .string (mkS (Lib.trimPrefix s p))) (fun w _ => (Tryz.strings_TrimPrefix (mkS s) (mkS p) w).mono fun _ _ ⟨e, h⟩ => ⟨_, e, rfl, by rw [h]; exact Ext.refl _⟩) (fun _ _ _ h _ _ _ => h)
theorem intValid0 {u : PH} {z : Int} (h : Lib.nDigits z.natAbs ≤ 400) : Fn0 Tryz.prog 125 [.string (mkS (Lib.itoa z))] u fun v _ => v = .bool true := by
  refine Fn0.of Tryz.func125 (by kernel_rfl) (by kernel_rfl) ?_
  by_cases h0 : z = 0
  · subst h0
    refine G.eqST (Lib.itoa 0) [48] (by kernel_rfl) itoa_zero ?_
    exact G.ret (.bool true) (by kernel_rfl) ⟨rfl, rfl⟩
  refine G.eqSF (Lib.itoa z) [48] (by kernel_rfl) (fun e => h0 (itoa_inj (e.trans itoa_zero.symm))) ?_
  refine G.call0 _ _ (by kernel_rfl) Tryz.call176 (trimPrefix0 (s := Lib.itoa z) (p := [45])) ?_
  rintro v1 u1 l1 rfl
  have hdl := Lib.decDigits_length z.natAbs
  have hdp := Lib.nDigits_pos z.natAbs
  have hdd := dec_dig z.natAbs
  obtain ⟨b0, hb0, hb1, hb2⟩ := itoa_first (z := (z.natAbs : Int)) (by omega) (by omega)
  rw [itoa_nat] at hb0
  rw [itoa_signed z, (trimPrefix_signed hdd (dec_ne_nil _)).1]
  generalize hL : Lib.decDigits z.natAbs = L at *
  have hsize : (mkS L).size = L.length := Go.Lib.size_mk _
  refine G.eqSF L [] (by kernel_rfl) (by intro e; rw [e] at hdl; simp at hdl; omega) ?_
  refine G.gtrF (L.length : Int) 400 (by kernel_rfl) (by omega) ?_
  refine G.idxS L 0 b0 (by kernel_rfl) hb0 ?_
  refine G.cmpG .eql .u8 (b0.toNat : Int) 48 false (by kernel_rfl) rfl (by simp only [cmpZ, decide_eq_false_iff_not]; omega) ?_
  refine G.convSB (some .string) 5 L (by kernel_rfl) rfl (by kernel_rfl) ?_
  intro v2 u2 l2 k2
  obtain ⟨a, c, rfl⟩ := ListP.opn k2
  rw [bytesV_length] at k2 ⊢
  refine G.loop (ι := Nat) (fun i => [(23, .v (.slice a L.length c)), (24, .v (.int .i64 (L.length : Int))), (25, .v (.int .i64 (i : Int)))]) (fun _ => []) (fun i _ m' => i ≤ L.length ∧ m' = PH.mt) (fun i => L.length - i) 0 (by kernel_rfl) (fun _ => by kernel_rfl) ⟨by kernel_rfl, by kernel_rfl, by kernel_rfl⟩ ⟨by omega, rfl⟩ ?_
  rintro J i hJ u' m' hle ⟨hi, rfl⟩
  by_cases hlt : i < L.length
  · refine G.lssT (i : Int) (L.length : Int) (by kernel_rfl) (by omega) ?_
    have hg := getD_dig hdd hlt
    obtain ⟨ba, oa, rfl, ea⟩ := ListP.at' (ListP.mono k2 hle) (j := i) (bytesV_get hlt)
    refine G.addr ba oa L.length c i 1 (by kernel_rfl) (by omega) ?_
    refine G.loadU none ba (oa + i * 1) (.int .u8 ((L.getD i 0).toNat : Int)) (by kernel_rfl) (by kernel_rfl) ea ?_
    refine G.cmpG .lss .u8 ((L.getD i 0).toNat : Int) 48 false (by kernel_rfl) rfl (by simp only [cmpZ, decide_eq_false_iff_not]; omega) ?_
    refine G.cmpG .gtr .u8 ((L.getD i 0).toNat : Int) 57 false (by kernel_rfl) rfl (by simp only [cmpZ, decide_eq_false_iff_not]; omega) ?_
    refine G.add (i : Int) 1 ((i + 1 : Nat) : Int) (by kernel_rfl) (by omega) (by omega) (by omega) ?_
    exact G.back (by kernel_rfl) (hJ (i + 1) _ _ _ ⟨by kernel_rfl, by kernel_rfl, by kernel_rfl⟩ hle ⟨by omega, rfl⟩ (by omega))
  · refine G.lssF (i : Int) (L.length : Int) (by kernel_rfl) (by omega) ?_
    exact G.ret (.bool true) (by kernel_rfl) ⟨rfl, rfl⟩
end Go.Proofs.YtpdboaedoimahaaGreatDoor
end
section
set_option linter.unusedSectionVars false
set_option linter.unusedVariables false
namespace Go.Proofs.YtpdboaedoimahaaGreatDoor
open Go.RowKit
theorem intRead0 {u : PH} {z : Int} (h : Lib.nDigits z.natAbs ≤ 400) : Fn0 Tryz.prog 177 [.string (mkS (Lib.itoa z))] u fun v u' => NumP u' v z := by
  refine Fn0.of Tryz.func177 (by kernel_rfl) (by kernel_rfl) ?_
  refine G.call0 _ _ (by kernel_rfl) Tryz.call127 (numRead0 h) ?_
  intro v2 u2 l2 k2
  obtain ⟨b2, a2, n2, c2, rfl⟩ := k2.opn
  exact G.ret (.agg #[.bool b2, .slice a2 n2 c2]) (by kernel_rfl) ⟨rfl, k2⟩
theorem intCompare0 {u : PH} {y z : Int} (h : Lib.nDigits y.natAbs ≤ 400) (h' : Lib.nDigits z.natAbs ≤ 400) : Fn0 Tryz.prog 126 [.string (mkS (Lib.itoa y)), .string (mkS (Lib.itoa z))] u fun v _ => v = .int .i64 (sgn (y - z)) := by
  refine Fn0.of Tryz.func126 (by kernel_rfl) (by kernel_rfl) ?_
  refine G.call0 _ _ (by kernel_rfl) Tryz.call125 (intValid0 h) ?_
  rintro v1 u1 l1 rfl
  refine G.call0 _ _ (by kernel_rfl) Tryz.call125 (intValid0 h') ?_
  rintro v2 u2 l2 rfl
  refine G.call0 _ _ (by kernel_rfl) Tryz.call177 (intRead0 h) ?_
  intro v3 u3 l3 k3
  obtain ⟨b3, a3, n3, c3, rfl⟩ := k3.opn
  refine G.call0 _ _ (by kernel_rfl) Tryz.call177 (intRead0 h') ?_
  intro v4 u4 l4 k4
  obtain ⟨b4, a4, n4, c4, rfl⟩ := k4.opn
  refine G.call0 _ _ (by kernel_rfl) Tryz.call129 (numCompare0 (k3.mono l4) k4 (Nat.le_trans (nl_of_dig h) (by omega)) (Nat.le_trans (nl_of_dig h') (by omega))) ?_
  rintro v5 u5 l5 rfl
  exact G.ret _ (by kernel_rfl) ⟨rfl, rfl⟩
theorem ratValid0 {u : PH} {q : Rat} (h : Tx q) : Fn0 Tryz.prog 66 [.string (mkS (ratT q))] u fun v _ => v = .bool true := by
  refine Fn0.of Tryz.func66 (by kernel_rfl) (by kernel_rfl) ?_
  refine G.call0 _ _ (by kernel_rfl) Tryz.call124 (cutT h) ?_
  rintro v1 u1 l1 rfl
  refine G.call0 _ _ (by kernel_rfl) Tryz.call125 (intValid0 h.1) ?_
  rintro v2 u2 l2 rfl
  by_cases hd : q.den = 1
  · rw [if_pos hd, decide_eq_false (by simp [hd])]
    refine G.call0 _ _ (by kernel_rfl) Tryz.call125 (intValid0 h.1) ?_
    rintro v3 u3 l3 rfl
    exact G.ret (.bool true) (by kernel_rfl) ⟨rfl, rfl⟩
  · rw [if_neg hd, decide_eq_true hd]
    have hn := num_ne hd
    have hdn := q.den_nz
    refine G.eqSF (Lib.itoa q.num) [48] (by kernel_rfl) (fun e => hn (itoa_inj (e.trans itoa_zero.symm))) ?_
    refine G.call0 _ _ (by kernel_rfl) Tryz.call125 (intValid0 h.den) ?_
    rintro v3 u3 l3 rfl
    have hc := intCompare0 (u := u3) (y := (q.den : Int)) (z := 1) h.den (by rw [Lib.nDigits_small (by decide)]; omega)
    rw [itoa_one] at hc
    refine G.call0 _ _ (by kernel_rfl) Tryz.call126 hc ?_
    rintro v4 u4 l4 rfl
    refine G.leqF (sgn ((q.den : Int) - 1)) 0 (by kernel_rfl) (by rw [sgn_pos (by omega)]; omega) ?_
    refine G.call0 _ _ (by kernel_rfl) Tryz.call127 (numRead0 h.1) ?_
    intro v5 u5 l5 k5
    obtain ⟨b5, a5, n5, c5, rfl⟩ := k5.opn
    refine G.call0 _ _ (by kernel_rfl) Tryz.call127 (numRead0 h.den) ?_
    intro v6 u6 l6 k6
    obtain ⟨b6, a6, n6, c6, rfl⟩ := k6.opn
    refine G.call0 _ _ (by kernel_rfl) Tryz.call128 (numGcd0 (k5.mono l6) k6 (Nat.le_trans (nl_of_dig h.1) (by omega)) (Nat.le_trans (nl_of_dig h.den) (by omega))) ?_
    intro v7 u7 l7 k7
    rw [show Nat.gcd q.num.natAbs ((q.den : Int)).natAbs = 1 from q.reduced] at k7
    obtain ⟨b7, a7, n7, c7, rfl⟩ := k7.opn
    refine G.call0 _ _ (by kernel_rfl) Tryz.call130 (numOf0 (z := 1) (by omega) (by omega)) ?_
    intro v8 u8 l8 k8
    obtain ⟨b8, a8, n8, c8, rfl⟩ := k8.opn
    refine G.call0 _ _ (by kernel_rfl) Tryz.call129 (numCompare0 (k7.mono l8) k8 (Nat.le_trans nl_one (by omega)) (Nat.le_trans nl_one (by omega))) ?_
    rintro v9 u9 l9 rfl
    refine G.eqlT (sgn (((1 : Nat) : Int) - 1)) 0 (by kernel_rfl) (by decide) ?_
    exact G.ret (.bool true) (by kernel_rfl) ⟨rfl, rfl⟩
end Go.Proofs.YtpdboaedoimahaaGreatDoor
end
section
set_option linter.unusedSectionVars false
set_option linter.unusedVariables false
namespace Go.Proofs.YtpdboaedoimahaaGreatDoor
open Go.RowKit
end Go.Proofs.YtpdboaedoimahaaGreatDoor
end
section
set_option linter.unusedSectionVars false
set_option linter.unusedVariables false
namespace Go.Proofs.YtpdboaedoimahaaGreatDoor
variable [Flag]
open Go.RowKit
def SV.pub (k g : Nat) : SV → SV
  | .p j off => cond (Nat.beq j k) (.v (.pointer (some ⟨g, off, none⟩))) (.p j off)
  | x => x
def Blk.pub (k g : Nat) (b : Blk) : Blk := ⟨b.t, b.cells.map (SV.pub k g)⟩
def S.pub (s : S) (k g : Nat) : S := { n := s.n, tm := fun d => (s.tm d).pub k g, hp := fun j => cond (Nat.beq j k) none ((s.hp j).map (Blk.pub k g)) }
theorem SV.pub_den (k : Nat) (ρ : Nat → Nat) (x : SV) : (x.pub k (ρ k)).den ρ = x.den ρ := by
  cases x with
  | junk => rfl
  | v x => rfl
  | p j off =>
    cases hb : Nat.beq j k with
    | true => have := Nat.eq_of_beq_eq_true hb; subst this; simp [SV.pub, SV.den]
    | false => simp [SV.pub, hb]
theorem SV.pub_junk {k g : Nat} {x : SV} : x.pub k g ≠ .junk ↔ x ≠ .junk := by
  cases x with
  | junk => simp [SV.pub]
  | v x => simp [SV.pub]
  | p j off => cases hb : Nat.beq j k <;> simp [SV.pub, hb]
theorem SV.pub_p {k g j off : Nat} {x : SV} (h : x.pub k g = .p j off) : x = .p j off ∧ j ≠ k := by
  cases x with
  | junk => cases h
  | v x => cases h
  | p j' off' =>
    cases hb : Nat.beq j' k with
    | true => simp [SV.pub, hb] at h
    | false =>
      simp [SV.pub, hb] at h
      obtain ⟨rfl, rfl⟩ := h
      exact ⟨rfl, fun e => by subst e; simp at hb⟩
theorem pub_hp_same (s : S) (k g : Nat) : (s.pub k g).hp k = none := by simp [S.pub]
theorem pub_hp_ne (s : S) {k g j : Nat} (h : j ≠ k) : (s.pub k g).hp j = (s.hp j).map (Blk.pub k g) := by
  have : Nat.beq j k = false := by rw [← Bool.not_eq_true]; exact fun hh => h (Nat.eq_of_beq_eq_true hh)
  simp [S.pub, this]
section rules
variable {c : Cx} {s : S} {u m : PH} {ρ : Nat → Nat} {a : Act} {w : World}
theorem Rel.pub (h : Rel c s u m ρ a w) {k : Nat} {t : TypeId} {xs : List Value} (hk : s.hp k = some ⟨t, xs.map SV.v⟩) : Rel c (s.pub k (ρ k)) u (m.upd (ρ k) (.cells xs.toArray t (0, 0))) ρ a w := by
  obtain ⟨⟨cs, e1, e2, e3⟩, e4, e5, e6⟩ := h.box k _ hk
  have hcs : cs = xs.toArray := by
    apply Array.ext
    · simpa using e2
    · intro i h1 h2
      have := e3 i (.v xs[i]) (by simp at h2; simp [h2]) (by simp)
      rw [Array.getElem?_eq_getElem h1] at this
      simpa [SV.den] using this
  subst hcs
  have hne : ∀ j, s.hp j ≠ none → j ≠ k → ρ j ≠ ρ k := fun j hj hjk e => hjk (h.inj j k hj (by rw [hk]; simp) e)
  refine ⟨h.sz, fun d hd => ?_, h.df.of fun r e _ hu hm => ⟨e, hu, by rw [upd_ne _ _ (fun e' => by rw [e', e1] at e; cases e)]; exact hm⟩, fun j b hb => ?_, fun i j hi hj he => ?_, ⟨fun d j off hd => ?_, fun i b j off hi hm => ?_⟩, ⟨h.gd.pu, fun g o hg => ?_, fun g => ?_, h.gd.cl⟩, ⟨h.gr.sz, h.gr.old, h.gr.us, fun g hg hm => ?_, h.gr.io, h.gr.dr⟩⟩
  · have hd' : s.tm d ≠ .junk := SV.pub_junk.1 hd
    show a.tmps[d]? = some (((s.tm d).pub k (ρ k)).den ρ)
    rw [SV.pub_den]; exact h.tm d hd'
  · by_cases hjk : j = k
    · subst hjk; rw [pub_hp_same] at hb; cases hb
    · rw [pub_hp_ne _ hjk] at hb
      obtain ⟨b0, hb0, rfl⟩ := Option.map_eq_some_iff.1 hb
      obtain ⟨⟨cs', f1, f2, f3⟩, f4, f5, f6⟩ := h.box j b0 hb0
      refine ⟨⟨cs', f1, by simp [Blk.pub, f2], fun i x hi hx => ?_⟩, f4, f5, ?_⟩
      · simp only [Blk.pub, List.getElem?_map] at hi
        obtain ⟨y, hy, rfl⟩ := Option.map_eq_some_iff.1 hi
        rw [SV.pub_den]; exact f3 i y hy (SV.pub_junk.1 hx)
      · rw [upd_ne _ _ (hne j (by rw [hb0]; simp) hjk)]; exact f6
  · have h1 : ∀ j, (s.pub k (ρ k)).hp j ≠ none → s.hp j ≠ none := by
      intro j hj hn
      by_cases hjk : j = k
      · subst hjk; exact hj (pub_hp_same _ _ _)
      · rw [pub_hp_ne _ hjk, hn] at hj; exact hj rfl
    exact h.inj i j (h1 i hi) (h1 j hj) he
  · obtain ⟨h1, h2⟩ := SV.pub_p hd
    rw [pub_hp_ne _ h2]
    have := h.lv.1 d j off h1
    intro hn; exact this (by simpa using hn)
  · by_cases hik : i = k
    · subst hik; rw [pub_hp_same] at hi; cases hi
    · rw [pub_hp_ne _ hik] at hi
      obtain ⟨b0, hb0, rfl⟩ := Option.map_eq_some_iff.1 hi
      simp only [Blk.pub, List.mem_map] at hm
      obtain ⟨y, hy, hyp⟩ := hm
      obtain ⟨rfl, h2⟩ := SV.pub_p hyp
      rw [pub_hp_ne _ h2]
      have := h.lv.2 i b0 j off hb0 hy
      intro hn; exact this (by simpa using hn)
  · by_cases hg' : g = ρ k
    · subst hg'; rw [upd_same] at hg; simp only [Option.some.injEq] at hg; subst hg; exact e1
    · rw [upd_ne _ _ hg'] at hg; exact h.gd.pm g o hg
  · by_cases hg' : g = ρ k
    · subst hg'; exact .inl e5
    · rw [upd_ne _ _ hg']; exact h.gd.ap g
  · rw [upd_ne _ _ (by omega)]; exact h.gr.ms g hg hm
end rules
section rules2
variable {P : Program} [Mixed P] {fn : Func} {Post : Spec} {st : List KI × S} {u m : PH}
theorem G.pub (k : Nat) (t : TypeId) (xs : List Value) (h : noReg (ctl P 100 st).1 = true) (hb : (ctl P 100 st).2.hp k = some ⟨t, xs.map SV.v⟩)
    (kk : ∀ g, u g = none → m g = none → G P fn Post ((ctl P 100 st).1, (ctl P 100 st).2.pub k g) u (m.upd g (.cells xs.toArray t (0, 0)))) : G P fn Post st u m := by
  refine ⟨ctl_sound 100 st ?_⟩
  rw [Sym.ofNo h]
  intro c ρ a w hm0 hr
  obtain ⟨_, _, e5, e6⟩ := hr.box k _ hb
  have := (kk (ρ k) e5 e6).out
  rw [Sym.ofNo (by exact h)] at this
  exact this c ρ a w hm0 (hr.pub hb)
end rules2
end Go.Proofs.YtpdboaedoimahaaGreatDoor
end
section
set_option linter.unusedSectionVars false
set_option linter.unusedVariables false
namespace Go.Proofs.YtpdboaedoimahaaGreatDoor
variable [Flag]
open Go.RowKit
def PH.or (x y : PH) : PH := fun g => match x g with | some o => some o | none => y g
theorem PH.or_l {x y : PH} {g : Nat} {o : Obj} (h : x g = some o) : x.or y g = some o := by simp [PH.or, h]
theorem PH.or_r {x y : PH} {g : Nat} (h : x g = none) : x.or y g = y g := by simp [PH.or, h]
theorem Good.frameM {u mf mc u' mc' : PH} {w w' : World} (h : Good u (mf.or mc) w) (hd : Apart mf mc) (g1 : Good u' mc' w') (g2 : Grown u mc w u' mc' w') : Good u' (mf.or mc') w' ∧ Grown u (mf.or mc) w u' (mf.or mc') w' := by
  have hmf : ∀ g o, mf g = some o → g < w.heap.size ∧ mc g = none ∧ w'.heap[g]? = some o ∧ u' g = none := by
    intro g o hg
    have h1 := h.pm g o (PH.or_l hg)
    have h2 : mc g = none := (hd g).resolve_left (by rw [hg]; simp)
    have hlt := lt_of_at h1
    refine ⟨hlt, h2, by rw [g2.old g hlt h2]; exact h1, ?_⟩
    rw [g2.us g hlt]
    exact (h.ap g).resolve_right (by rw [PH.or_l hg]; simp)
  refine ⟨⟨g1.pu, fun g o hg => ?_, fun g => ?_, g1.cl⟩, ⟨g2.sz, fun g hg hm => ?_, g2.us, fun g hg hm => ?_, g2.io, g2.dr⟩⟩
  · cases hx : mf g with
    | some o' => rw [PH.or_l hx] at hg; cases hg; exact (hmf g _ hx).2.2.1
    | none => rw [PH.or_r hx] at hg; exact g1.pm g o hg
  · cases hx : mf g with
    | some o' => exact .inl (hmf g _ hx).2.2.2
    | none => rw [PH.or_r hx]; exact g1.ap g
  · cases hx : mf g with
    | some o' => rw [PH.or_l hx] at hm; cases hm
    | none => rw [PH.or_r hx] at hm; exact g2.old g hg hm
  · cases hx : mf g with
    | some o' => rw [PH.or_l hx] at hm; cases hm
    | none => rw [PH.or_r hx] at hm ⊢; exact g2.ms g hg hm
section rules
variable {P : Program} [Mixed P] {fn : Func} {Post : Spec} {st : List KI × S} {u m : PH}
def noDr (st : List KI × S) : Bool := match st.1 with
  | .reg _ _ false _ :: _ => true
  | .reg _ ops true (i :: _) :: _ => match ops[i]? with | some o => lateB ops i o.op || allOwn ops st.2 | none => false
  | _ => false
theorem noDr_late {id : Nat} {ops : Array Oper} {dr : Bool} {i : Nat} {l : List Nat} {k : List KI} {s : S} {o : Oper} (ho : ops[i]? = some o) (h : noDr (.reg id ops dr (i :: l) :: k, s) = true) : dr = false ∨ lateB ops i o.op = true ∨ allOwn ops s = true := by
  cases dr with
  | false => exact .inl rfl
  | true => right; simpa [noDr, ho] using h
theorem G.bigN {V : Stop} {K : Value → PH → PH → Prop} (h : stopV P (adv P st) = V) (hV : V ≠ .other) (hdr : noDr (adv P st) = true) (hf : ∀ env op, viewOp P env op = V → freeOp op = false)
    (hr : ∀ env (o : Oper), viewOp P env o.op = V → ∀ w, Good u m w → OpDoes P env o w fun v w' => ∃ u' m', Good u' m' w' ∧ Grown u m w u' m' w' ∧ K v u' m')
    (k : ∀ v u' m', PH.le u u' → K v u' m' → G P fn Post (nx (adv P st) v) u' m') : G P fn Post st u m := by
  refine G.stp ?_
  obtain ⟨id, ops, dr, i, l, kk, s, o, e, ho, hg, hd, hv, hs, hview, hnx⟩ := stopV_spec h hV
  have hdr' := noDr_late ho (e ▸ hdr)
  rw [e]
  refine ⟨?_⟩
  refine Ob.big (K := K) ho hg hd hv hs (hf _ _ hview) (fun v u' m' hK => .inr hdr') (fun w hgd => hr _ o hview w hgd) (fun v u' m' h1 h2 => ?_)
  have := (k v u' m' h1 h2).out
  rw [hnx] at this
  exact this
end rules
end Go.Proofs.YtpdboaedoimahaaGreatDoor
end
section
set_option linter.unusedSectionVars false
set_option linter.unusedVariables false
namespace Go.Proofs.YtpdboaedoimahaaGreatDoor
open Go.RowKit
end Go.Proofs.YtpdboaedoimahaaGreatDoor
end
section
set_option linter.unusedSectionVars false
set_option linter.unusedVariables false
namespace Go.Proofs.YtpdboaedoimahaaGreatDoor
open Go.RowKit
end Go.Proofs.YtpdboaedoimahaaGreatDoor
end
section
set_option linter.unusedSectionVars false
set_option linter.unusedVariables false
namespace Go.Proofs.YtpdboaedoimahaaGreatDoor
open Go.RowKit
theorem ratT_zero : ratT 0 = [48] := by rw [ratT, if_pos (by rfl)]; exact itoa_zero
theorem ratT_one : ratT 1 = [49] := by rw [ratT, if_pos (by rfl)]; exact itoa_one
end Go.Proofs.YtpdboaedoimahaaGreatDoor
end
section
set_option linter.unusedSectionVars false
set_option linter.unusedVariables false
namespace Go.Proofs.YtpdboaedoimahaaGreatDoor
open Go.RowKit
theorem mt_or (mc : PH) : PH.mt.or mc = mc := by funext g; rfl
theorem apart_mt (mc : PH) : Apart PH.mt mc := fun _ => .inl rfl
end Go.Proofs.YtpdboaedoimahaaGreatDoor
end
section
set_option linter.unusedSectionVars false
set_option linter.unusedVariables false
namespace Go.Proofs.YtpdboaedoimahaaGreatDoor
variable [Flag]
open Go.RowKit
section rules
variable {P : Program} [Mixed P] {fn : Func} {Post : Spec} {st : List KI × S} {u m : PH}
theorem G.storeM (sz b off : Nat) (t : TypeId) (cs : List Value) (e : Value) (h : stopV P (adv P st) = .store (some sz) (.pointer (some ⟨b, off, none⟩)) e) (hb : m b = some (.cells cs.toArray t (0, 0))) (ho : ∀ x ∈ cs, cellOK x = true) (hl : off + sz ≤ cs.length) (he : e.cells.size = sz) (hc : e.cells.toList.all cellOK = true)
    (k : G P fn Post (nx (adv P st) undef) u (m.upd b (.cells (cs.take off ++ e.cells.toList ++ cs.drop (off + sz)).toArray t (0, 0)))) : G P fn Post st u m := by
  refine G.big (K := fun v' u' m' => u' = u ∧ v' = undef ∧ m' = m.upd b (.cells (cs.take off ++ e.cells.toList ++ cs.drop (off + sz)).toArray t (0, 0))) h (by simp) (fun env op hv => ?_) (.inr fun env op hv => ?_) (fun env o hview w hgd => ?_) (fun v' u' m' _ hk => ?_)
  · obtain ⟨t', X, Y, rfl, _⟩ := view_store hv; rfl
  · obtain ⟨t', X, Y, rfl, _⟩ := view_store hv; rfl
  · obtain ⟨t', X, Y, e1, e2, e3, ht⟩ := view_store hview
    obtain ⟨dst, opp, type, pos, after, guard⟩ := o
    simp only at e1; subst e1
    rw [List.all_eq_true] at hc
    have hgw := hgd.pm b _ hb
    have hst := run_storeCells_at P b off t e.cells.toList 0 cs.toArray w hgw (by simp [he]; omega) (fun x hx => cellOK_one (hc x hx))
    simp only [Nat.add_zero, Array.length_toList, he, List.toList_toArray] at hst
    have hcell : ∀ x ∈ (cs.take off ++ e.cells.toList ++ cs.drop (off + sz)).toArray.toList, cellOK x = true := by
      intro x hx
      simp only [List.toList_toArray, List.mem_append] at hx
      rcases hx with (hx | hx) | hx
      · exact ho x (List.mem_of_mem_take hx)
      · exact hc x hx
      · exact ho x (List.mem_of_mem_drop hx)
    obtain ⟨g1, g2⟩ := hgd.setM hb hcell
    unfold OpDoes
    have hex : (execOp env ⟨dst, .store t' X Y, type, pos, after, guard⟩).run P w = .ok .skip (w.setRow b (cs.take off ++ e.cells.toList ++ cs.drop (off + sz)).toArray) := by
      simp only [execOp, e2, e3]
      simp only [List.append_assoc] at hst ⊢
      simp [Instr.storeAt, Instr.sureAddr, storeVar, run_sizeOf' ht, he, hst]
    rw [hex]
    exact ⟨u, _, g1, g2, rfl, rfl, rfl⟩
  · obtain ⟨rfl, rfl, rfl⟩ := hk
    exact k
end rules
end Go.Proofs.YtpdboaedoimahaaGreatDoor
end
section
set_option linter.unusedSectionVars false
set_option linter.unusedVariables false
namespace Go.Proofs.YtpdboaedoimahaaGreatDoor
variable [Flag]
section rules
variable {P : Program} [Mixed P] {fn : Func} {Post : Spec} {st : List KI × S} {u m : PH}
theorem Rel.less {c : Cx} {s : S} {ρ : Nat → Nat} {a : Act} {w : World} (h : Rel c s u m ρ a w) {m' : PH} (hl : PH.le m' m) : Rel c s u m' ρ a w := by
  have hn : ∀ g, m g = none → m' g = none := fun g hg => by
    cases e : m' g with
    | none => rfl
    | some o => rw [hl g o e] at hg; cases hg
  refine ⟨h.sz, h.tm, h.df.of fun r e _ hu hm => ⟨e, hu, hn _ hm⟩, fun k b hb => ?_, h.inj, h.lv, h.gd.less hl, ⟨h.gr.sz, h.gr.old, h.gr.us, fun g hg hm => hn g (h.gr.ms g hg hm), h.gr.io, h.gr.dr⟩⟩
  obtain ⟨e1, e2, e3, e4⟩ := h.box k b hb
  exact ⟨e1, e2, e3, hn _ e4⟩
theorem G.drop (m' : PH) (h : noReg (ctl P 100 st).1 = true) (hl : PH.le m' m) (k : G P fn Post (ctl P 100 st) u m') : G P fn Post st u m := by
  refine ⟨ctl_sound 100 st ?_⟩
  have hk := k.out
  rw [Sym.ofNo h] at hk ⊢
  intro c ρ a w hm0 hr
  exact hk c ρ a w hm0 (hr.less hl)
theorem PH.mt_le (m : PH) : PH.le PH.mt m := fun _ _ h => by cases h
end rules
end Go.Proofs.YtpdboaedoimahaaGreatDoor
end
section
set_option linter.unusedSectionVars false
set_option linter.unusedVariables false
namespace Go.Proofs.YtpdboaedoimahaaGreatDoor
open Go.RowKit
theorem elP_int (m : PH) (g : Nat) (z : Int) (t : TypeId) : ElP (m.upd g (.cells [Value.int .i64 z].toArray t (0, 0))) g 0 (.int .i64 z) := fun i y hy => by
  match i, hy with
  | 0, hy => simp [Value.cells] at hy; subst hy; exact ⟨_, _, _, upd_same _ _ _, rfl⟩
end Go.Proofs.YtpdboaedoimahaaGreatDoor
end
section
set_option linter.unusedSectionVars false
set_option linter.unusedVariables false
namespace Go.Proofs.YtpdboaedoimahaaGreatDoor
open Go.RowKit
end Go.Proofs.YtpdboaedoimahaaGreatDoor
end
section
set_option linter.unusedSectionVars false
set_option linter.unusedVariables false
namespace Go.Proofs.YtpdboaedoimahaaGreatDoor
open Go.RowKit
section lists
variable {α : Type} {R : PH → Value → α → Prop} {u u' : PH}
end lists
theorem ArrAt.some' {m0 m : PH} {t : TypeId} {sz : Nat} {es : List Value} {a : Addr} {n c : Nat} (ha : ArrAt m0 m (.slice (some a) n c) t sz es) : ∃ g, a = ⟨g, 0, none⟩ ∧ m0 g = none := by
  rcases ha.2 with ⟨h, _, _⟩ | ⟨g, cap, rest, h0, _, h, _⟩
  · simp at h
  · simp only [Value.slice.injEq, Option.some.injEq] at h
    exact ⟨g, h.1, h0⟩
end Go.Proofs.YtpdboaedoimahaaGreatDoor
end
