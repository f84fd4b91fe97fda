/- Parts of one proof, joined by a program. -/
import Derived.Test.YtanfagpabkdmiaaGreatDoorL05
import Derived.MapKept
import Derived.Laws.IdiomRangeMap
import Derived.Laws.StructEq
import Derived.ChangeKeysEq
set_option linter.unusedVariables false
set_option linter.unusedSimpArgs false
set_option linter.unusedSectionVars false
set_option maxHeartbeats 16000000
namespace Go.Proofs.YtanfagpabkdmiaaGreatDoor
open Go.Proofs.Tryz
section
open Go.RowKit
variable {e z:Value}{es:List Value}{k n q sz:Nat}
theorem Afq (h:A3 sz es)(k:Nat):(Az es).take (k*sz)=Az (es.take k):=by
 by_cases hk:k≤es.length
 ·have e:Az es=Az (es.take k)++Az (es.drop k):=by rw [← Co,List.take_append_drop]
  have hl:(Az (es.take k)).length=k*sz:=by rw [A2 (sz:=sz) (fun x hx=>h x (List.mem_of_mem_take hx)),List.length_take]; congr 1; omega
  rw [e,List.take_append_of_le_length (by omega),← hl,List.take_length]
 ·rw [List.take_of_length_le (by rw [A2 h]; exact Nat.mul_le_mul_right _ (by omega)),List.take_of_length_le (by omega)]
theorem Aes (h:A3 sz es)(k:Nat):(Az es).drop (k*sz)=Az (es.drop k):=by
 by_cases hk:k≤es.length
 ·have e:Az es=Az (es.take k)++Az (es.drop k):=by rw [← Co,List.take_append_drop]
  have hl:(Az (es.take k)).length=k*sz:=by rw [A2 (sz:=sz) (fun x hx=>h x (List.mem_of_mem_take hx)),List.length_take]; congr 1; omega
  rw [e,← hl,List.drop_left]
 ·rw [List.drop_of_length_le (by rw [A2 h]; exact Nat.mul_le_mul_right _ (by omega)),List.drop_of_length_le (by omega)]; rfl
theorem A3.replicate (h:A3 sz [e])(n:Nat):A3 sz (List.replicate n e):=fun x hx=>h x (by rw [List.eq_of_mem_replicate hx]; simp)
section rules
variable {P:Program} [Ba P] {fn:Func} {Post:B0} {st:List KI×S} {u m:PH}
theorem G.copyA (dT sT e:TypeId)(sz g n k:Nat)(a:Addr)(sn sc c:Nat)(t:TypeId)(m0:PH)(es xs:List Value)(h:Al P (adv P st)=.blt .copy [dT,sT] [.slice (some ⟨g,0+k*sz,none⟩) (n - k) c,.slice (some a) sn sc])
  (hu:P.underlying dT=some (.slice e)) (hsz:szB P e=some sz) (ha:Ae m0 m (.slice (some ⟨g,0,none⟩) n n) t sz es) (ho:A3 sz xs) (hk:xs.length=Nat.min sn (n - k)) (hkn:k≤n)
  (hsrc:∀ w,Eb u w→Eb m w→∀ (j:Nat) (v:Value),(Az xs)[j]?=some v→w.cell? (a.add j)=some v)
  (kk:∀ m',Ae m0 m' (.slice (some ⟨g,0,none⟩) n n) t sz (es.take k++xs++es.drop (k+xs.length))→G P fn Post (nx (adv P st) (.int .i64 ((Nat.min sn (n - k):Nat):Int))) u m'):G P fn Post st u m:=by
 have hlen:=ha.len;obtain ⟨hoe,h'⟩:=ha;rcases h' with ⟨h1,_,_⟩ | ⟨g',cap,rest,h1,rfl,h2,h3,h4,h5⟩
 ·simp at h1
 simp only [Value.slice.injEq,Option.some.injEq,Addr.mk.injEq,and_true] at h2;obtain ⟨rfl,h2,rfl⟩:=h2;have hr:rest = []:=by
  rw [List.length_append,A2 hoe,← h2] at h4;exact List.eq_nil_of_length_eq_zero (by omega)
 subst hr;simp only [List.append_nil] at h4 ⊢;have hmin:Nat.min sn (n - k)≤n - k:=Nat.min_le_right _ _;have hfl:(Az xs).length=Nat.min sn (n - k)*sz:=by rw [A2 ho,hk]
 refine G.copyM dT sT e sz g (0+k*sz) (n - k) c a sn sc t (Az es) (Az xs) h hu hsz (Ac _ _ _) hfl (by simpa using hsrc) (by rw [hfl,A2 hoe,← h2,Nat.zero_add,← Nat.add_mul]; exact Nat.mul_le_mul_right _ (by omega)) (Ep ho) (Ep hoe) ?_;rw [Dh];refine kk _ ⟨?_,.inr ⟨g,n,[],h1,?_,?_,?_,?_,by simp⟩⟩
 ·exact ((A3.append (fun x hx=>hoe x (List.mem_of_mem_take hx)) ho).append (fun x hx=>hoe x (List.mem_of_mem_drop hx)))
 ·congr 3
  rw [Nat.zero_add,Afq hoe,hfl,← Nat.add_mul,Aes hoe,← Co,← Co,List.append_nil,hk]
 ·congr 1
  simp only [List.length_append,List.length_take,List.length_drop,hk];omega
 ·simp only [List.length_append,List.length_take,List.length_drop,hk];omega
 ·rw [List.append_nil,A2 (sz:=sz)]
  ·congr 1
   simp only [List.length_append,List.length_take,List.length_drop,hk];omega
  ·exact ((A3.append (fun x hx=>hoe x (List.mem_of_mem_take hx)) ho).append (fun x hx=>hoe x (List.mem_of_mem_drop hx)))
end rules
theorem Ajc {u:PH}(hn:n≤1000000):Fn0 prog 247 [.int .u64 1,.int .u64 (n:Int)] u fun v _=>v=.tuple #[.int .u64 0,.int .u64 (n:Int)]:=by
 refine Fn0.ofW (fun v _=>v=.tuple #[.int .u64 0,.int .u64 (n:Int)]) (fun w _=>(Tryz.bits_Mul 1 n (by omega) (by omega) w).mono fun _ _ ⟨e,h⟩=>⟨_,e,?_,by rw [h]; exact Ext.refl _⟩) (fun _ _ _ h _ _ _=>h);rw [Nat.one_mul,Nat.div_eq_of_lt (by omega),Nat.mod_eq_of_lt (by omega)]; rfl
theorem X8 {z:Int}(h1:0≤z)(h2:z < 18446744073709551616):IntKind.u64.wrap z=z:=by
 simp only [IntKind.wrap,IntKind.signed,IntKind.bits]; simp; omega
theorem Yb (hk:k+q≤n):(List.replicate k e++List.replicate (n - k) z).take k++List.replicate q e++(List.replicate k e++List.replicate (n - k) z).drop (k+(List.replicate q e).length)=List.replicate (k+q) e++List.replicate (n - (k+q)) z:=by
 rw [List.take_left' (by simp),List.length_replicate,List.drop_append,List.drop_of_length_le (by simp),List.length_replicate,List.nil_append,List.drop_replicate,List.replicate_append_replicate]
 congr 2; omega
theorem Ai3 {g q k r:Nat}{u m m0:PH}{t:TypeId}(ho:A3 sz [e])(hq:q≤k)(hsz:0 < sz)(hA:Ae m0 m (.slice (some ⟨g,0,none⟩) n n) t sz (List.replicate k e++List.replicate r z)) :
  ∀ w,Eb u w→Eb m w→∀ (j:Nat) (v:Value),(Az (List.replicate q e))[j]?=some v→w.cell? ((⟨g,0,none⟩:Addr).add j)=some v:=by
 intro w _ hp j v hj;refine El.cells (u:=m) (b:=g) (off:=0) hsz (fun i x hi=>?_) (ho.replicate q) hp j v hj;have hlt:i < q:=by
  rcases Nat.lt_or_ge i q with h | h
  ·exact h
  ·rw [List.getElem?_eq_none (by simpa using h)] at hi; cases hi
 have hx:x=e:=by rw [List.getElem?_replicate,if_pos hlt] at hi; exact (Option.some.inj hi).symm
 subst hx;refine hA.el ?_;rw [List.getElem?_append_left (by simp; omega),List.getElem?_replicate,if_pos (by omega)]
theorem Re {u:PH}{v e:Value}(h:Ab u v 1 [e])(ho:A3 1 [e])(hn:n≤1000000) :
  Fn0 prog 191 [v,.int .i64 (n:Int)] u fun v' u'=>Ab u' v' 1 (List.replicate n e):=by
 obtain ⟨a,c,rfl⟩:=h.opn;have hea:=Ab.at' h (j:=0) (e:=e) rfl;obtain ⟨b,off,rfl,hel⟩:=hea;refine Fn0.o func191 ?_;refine G.lF (n:Int) 0 ?_;refine G.convI .i64 .u64 .i64 1 1 (by kernel_rfl) (X8 (by omega) (by omega)) ?_;refine G.convI .i64 .u64 .i64 (n:Int) (n:Int) (by kernel_rfl) (X8 (by omega) (by omega)) ?_;refine G.c call247 (Ajc hn) ?_;rintro v1 u1 l1 rfl;refine G.cmpG .gtr .u64 0 0 false (by kernel_rfl) rfl rfl ?_;refine G.cmpG .gtr .u64 (n:Int) 9223372036854775807 false (by kernel_rfl) rfl (by simp only [B4,decide_eq_false_iff_not]; omega) ?_;refine G.convI .u64 .i64 .u64 (n:Int) (n:Int) (by kernel_rfl) (Cl (by omega) (by omega)) ?_;refine G.make 33 1 16 (.string (mkS [])) n (by kernel_rfl) rfl rfl (by omega) (by omega) (by omega) ?_;rintro v2 m2 hA ⟨a2,rfl⟩;obtain ⟨g,rfl,hg⟩:=hA.some';have hmn:Nat.min 1 (n - 0)≤1:=Nat.min_le_left _ _;refine G.copyA 84 84 33 1 g n 0 ⟨b,off,none⟩ 1 c n 33 PH.mt (List.replicate n (.string (mkS []))) (List.replicate (Nat.min 1 (n - 0)) e) (by kernel_rfl) (by kernel_rfl) (by kernel_rfl) hA (ho.replicate _) (by simp) (Nat.zero_le _) (fun w hp _ j x hj=>?_) ?_
 ·refine El.cells (u:=u) (b:=b) (off:=off) (sz:=1) (by omega) (fun i y hi=>?_) (ho.replicate _) (fun g o hg=>hp g o (l1 g o hg)) j x hj;have hlt:i < Nat.min 1 (n - 0):=by
   rcases Nat.lt_or_ge i (Nat.min 1 (n - 0)) with h | h
   ·exact h
   ·rw [List.getElem?_eq_none (by simpa using h)] at hi; cases hi
  rw [List.getElem?_replicate,if_pos hlt] at hi;have hy:y=e:=(Option.some.inj hi).symm;subst hy;have:i=0:=by omega
  subst this;exact hel
 intro m3 hA3;have hs3:=Yb (e:=e) (z:=.string (mkS [])) (n:=n) (k:=0) (q:=Nat.min 1 (n - 0)) (by have:Nat.min 1 (n - 0)≤n - 0:=Nat.min_le_right _ _; omega);simp only [List.replicate_zero,List.nil_append,Nat.sub_zero,Nat.zero_add] at hs3 hA3;rw [hs3] at hA3;clear hs3;refine G.l (ι:=Nat) (fun k=>[(7,.v (.slice (some ⟨g,0,none⟩) n n)),(8,.v (.int .i64 (k:Int)))]) (fun _=>[])
  (fun k u' m'=>k≤n∧(k=0→n=0)∧Ae PH.mt m' (.slice (some ⟨g,0,none⟩) n n) 33 1 (List.replicate k e++List.replicate (n - k) (.string (mkS [])))) (fun k=>n - k) (Nat.min 1 n)
  ⟨Nat.min_le_right _ _,fun h=>by have h':min 1 n=0:=h; omega,hA3⟩ ?_
 rintro J k hJ u4 m4 l4 ⟨hk,hk0,hA4⟩;by_cases hlt:k < n
 ·refine G.lT (k:Int) (n:Int) ?_;refine G.sliceFrom g 0 n n k 1 (by kernel_rfl) (by omega) hlt ?_;refine G.sliceTo 1 (some ⟨g,0,none⟩) n n k (by kernel_rfl) (by omega) ?_;have hq1:Nat.min k (n - k)≤k:=Nat.min_le_left _ _;have hq2:Nat.min k (n - k)≤n - k:=Nat.min_le_right _ _;have hq3:0 < Nat.min k (n - k):=by show 0 < min k (n - k); omega
  refine G.copyA 84 84 33 1 g n k ⟨g,0,none⟩ k n (n - k) 33 PH.mt _ (List.replicate (Nat.min k (n - k)) e) (by kernel_rfl) (by kernel_rfl) (by kernel_rfl) hA4 (ho.replicate _) (by simp) hk (Ai3 ho hq1 (by omega) hA4) ?_;intro m5 hA5;rw [Yb (by omega)] at hA5;generalize Nat.min k (n - k)=q at *
  refine G.p (k:Int) (q:Int) ((k+q:Nat):Int) ?_;exact G.b (hJ (k+q) _ _ _ cv l4 ⟨by omega,by omega,hA5⟩ (by omega))
 ·obtain rfl:k=n:=by omega
  refine G.lF (k:Int) (k:Int) ?_;rw [Nat.sub_self,List.replicate_zero,List.append_nil] at hA4;refine G.give PH.mt _ _ (by kernel_rfl) hA4 (fun _=>.inl rfl) ?_;intro u5 l5 hL;exact G.r (.slice (some ⟨g,0,none⟩) k k) ⟨rfl,hL⟩
end
section
variable {q:Rat}
def sg (q:Rat):Int:=if q < 0 then -1 else if 0 < q then 1 else 0
theorem Xs (h:0 < q):sg q=1:=by unfold sg; rw [if_neg (by grind),if_pos h]
theorem Anm (h:q < 0):sg q = -1:=by unfold sg; rw [if_pos h]
theorem Aed:sg 0=0:=by simp [sg]
theorem Ai6 (q:Rat):(q < 0∧sg q = -1)∨(q=0∧sg q=0)∨(0 < q∧sg q=1):=by
 by_cases h:q < 0
 ·exact .inl ⟨h,Anm h⟩
 ·by_cases h':0 < q
  ·exact .inr (.inr ⟨h',Xs h'⟩)
  ·have:q=0:=by grind
   exact .inr (.inl ⟨this,by rw [this]; exact Aed⟩)
end
section
def gR (l:List Rat)(i:Nat):Rat:=l.getD i 0
def gM (M:List (List Rat))(i:Nat):List Rat:=M.getD i []
end
section

end
section

end
section
open Go.RowKit
variable {es:List Value}{j k:Nat}{q r:Rat}
section rules
variable {P:Program} [Ba P] {fn:Func} {Post:B0} {st:List KI×S} {u m:PH}
end rules
theorem Ab.take' {u:PH}{a:Option Addr}{n c sz:Nat}(h:Ab u (.slice a n c) sz es)(k:Nat)(hk:k≤es.length):Ab u (.slice a k c) sz (es.take k):=by
 obtain ⟨a',c',h1,h2,h3⟩:=h;simp only [Value.slice.injEq] at h1;obtain ⟨rfl,_,rfl⟩:=h1;refine ⟨a,c,by rw [List.length_take,Nat.min_eq_left hk],by rw [List.length_take]; omega,fun j e hj=>?_⟩;rw [List.getElem?_take] at hj;split at hj
 ·exact h3 j e hj
 ·cases hj
theorem AtP.at {α:Type}{R:PH→Value→α→Prop}{u:PH}{xs:List α}(h:AtP R u es xs)(hj:j < xs.length):∃ e,es[j]?=some e∧R u e xs[j]:=h.2 j _ (List.getElem?_eq_getElem hj)
theorem Mj {l:List Rat}{i:Nat}(h:i < l.length):gR l i=l[i]:=by simp [gR,h]
theorem Xn (q:Rat):sgn q.num=sg q:=by
 rcases Ai6 q with ⟨h,e⟩ | ⟨h,e⟩ | ⟨h,e⟩
 ·rw [e]; refine C0 ?_;have:¬ (0≤q.num):=fun h'=>by have:=Rat.num_nonneg.1 h'; grind
  omega
 ·subst h; rw [e]; rfl
 ·rw [e]; refine B9 ?_;have h1:0≤q.num:=Rat.num_nonneg.2 (by grind);have h2:q.num≠0:=fun h'=>by have:=Rat.num_eq_zero.1 h'; grind
  omega
theorem Agl {z:Int}(h:z.natAbs < 1000000000):Sz (z:Rat) 1:=⟨A4 (by simpa using h),A4 (by simp)⟩
theorem Ly (h:Sz q j)(h':Sz r k):Sz (q+r) (j+k+1):=by
 rw [← Nx q r];have a1:=Fp q.num.natAbs r.den;have a2:=Fp r.num.natAbs q.den;have a3:=Fp q.den r.den;have a4:=Aie (q.num.natAbs*r.den) (r.num.natAbs*q.den);have a5:(q.num*(r.den:Int)+r.num*(q.den:Int)).natAbs≤q.num.natAbs*r.den+r.num.natAbs*q.den:=by
  refine Nat.le_trans (Int.natAbs_add_le _ _) ?_;rw [Int.natAbs_mul,Int.natAbs_mul]; simp
 have a6:=C6 a5;have:=h.1; have:=h.2; have:=h'.1; have:=h'.2;exact Hd (Kv q r) (by omega) (by rw [Int.natAbs_mul]; simp only [Int.natAbs_natCast]; omega)
theorem Aok (h:Sz q k):Sz (-q) k:=⟨by rw [Rat.neg_num,Int.natAbs_neg]; exact h.1,by rw [Rat.neg_den]; exact h.2⟩
theorem Ie (h:Sz q j)(h':Sz r k):Sz (q - r) (j+k+1):=by
 rw [Rat.sub_eq_add_neg]; exact Ly h (Aok h')
theorem In (h:Sz q j)(h':Sz r k):Sz (q*r) (j+k):=by
 rw [← Wf q r];have a1:=Fp q.num.natAbs r.num.natAbs;have a3:=Fp q.den r.den;have:=h.1; have:=h.2; have:=h'.1; have:=h'.2;exact Hd (Kv q r) (by rw [Int.natAbs_mul]; omega) (by rw [Int.natAbs_mul]; simp only [Int.natAbs_natCast]; omega)
end
section
open Go.RowKit
end
section
open Go.RowKit
variable {M:List (List Rat)}{q:Rat}
theorem Bag.perm {l l':List Arr}(h:l.Perm l'):∀ {m:PH},Bag m l→Bag m l':=by
 induction h with
 | nil=>exact fun h=>h
 | cons x _ ih=>exact fun ⟨m0,h1,h2⟩=>⟨m0,h1,ih h2⟩
 | swap x y l =>
  rintro m ⟨m1,hy,m0,hx,hl⟩;obtain ⟨m2,k1,k2,_⟩:=At.swap hy hx;exact ⟨m2,k2,m0,k1,hl⟩
 | trans _ _ h1 h2=>exact fun h=>h2 (h1 h)
section bag
variable {o:Arr} {rows:List (Value×List Value)} {rest:List Arr} {i j n:Nat} {r r':Value×List Value} {x x':Arr}
end bag
theorem Ka {i j:Nat}{q:List Rat}(hi:i < M.length):gM (M.set i q) j=if i=j then q else gM M j:=by
 unfold gM;simp only [List.getD_eq_getElem?_getD,List.getElem?_set];split
 ·rename_i e; subst e; simp
 ·rfl
def SzM (M:List (List Rat))(k:Nat):Prop:=∀ i j,i < M.length→j < (gM M i).length→Sz (gR (gM M i) j) k
theorem SzM.mono {M:List (List Rat)}{j k:Nat}(h:SzM M j)(hjk:j≤k):SzM M k:=fun a b h1 h2=>(h a b h1 h2).mono hjk
theorem Aoj {l:List Rat}{i j:Nat}(hi:i < l.length):gR (l.set i q) j=if i=j then q else gR l j:=by
 unfold gR;simp only [List.getD_eq_getElem?_getD,List.getElem?_set];split
 ·rename_i e; subst e; simp
 ·rfl
theorem N6 {i:Nat}(h:i < M.length):gM M i=M[i]:=by simp [gM,h]
theorem Acf {q r:Rat}{j k:Nat}(h:Sz q j)(h':Sz r k)(hr:r≠0):Sz (q / r) (j+k):=by
 rw [← Xh q r];have a1:=Fp q.num.natAbs r.den;have a3:=Fp q.den r.num.natAbs;have b1:=h.1; have b2:=h.2; have b3:=h'.1; have b4:=h'.2;have hn:r.num≠0:=fun e=>hr (Rat.num_eq_zero.1 e);have hd:(q.den:Int)≠0:=by have:=q.den_pos; omega
 have c1:nl (q.num*(r.den:Int)).natAbs≤j+k:=by rw [Int.natAbs_mul]; simp only [Int.natAbs_natCast]; omega
 have c2:nl ((q.den:Int)*r.num).natAbs≤j+k:=by rw [Int.natAbs_mul]; simp only [Int.natAbs_natCast]; omega
 rcases Int.lt_or_lt_of_ne (Int.mul_ne_zero hd hn) with hlt | hgt
 ·have e:Rat.divInt (q.num*(r.den:Int)) ((q.den:Int)*r.num)=Rat.divInt (-(q.num*(r.den:Int))) (-((q.den:Int)*r.num)):=(Rat.neg_divInt_neg _ _).symm;rw [e];exact Hd (by omega) (by rw [Int.natAbs_neg]; exact c1) (by rw [Int.natAbs_neg]; exact c2)
 ·exact Hd hgt c1 c2
end
section
open Go.RowKit
theorem Xv:Sz 0 1:=Agl (z:=0) (by decide)
section steps
variable {fn:Func} {Post:B0} {u m:PH}
end steps
end
section
open Go.RowKit
end
section
open Go.RowKit
end
section
def Ku (q:Rat):Bool:=decide (q.num.natAbs < 10 ^ 100) && decide (q.den < 10 ^ 100)
end
section
open Go.RowKit
variable {q:Rat}
theorem Ed:∀ {k n:Nat} (_:0 < k) (_:n < 10 ^ k),Lib.nDigits n≤k
 | 0,n,hk,h=>by omega
 | k+1,n,hk,h=>by
  by_cases hn:n < 10
  ·rw [Lib.nDigits_small hn]; omega
  ·rw [Lib.nDigits_big hn];have hk0:0 < k:=by
    rcases Nat.eq_zero_or_pos k with h0 | h0
    ·subst h0; simp at h; omega
    ·exact h0
   have:=Ed (k:=k) (n:=n / 10) hk0 (by rw [Nat.div_lt_iff_lt_mul (by omega),← Nat.pow_succ]; exact h);omega
theorem Qg (h:Ku q=true):Tx q∧Sz q 12:=by
 simp only [Ku,Bool.and_eq_true,decide_eq_true_eq] at h;have h1:=Ed (by omega) h.1;have h2:=Ed (by omega) h.2;have e:(10:Nat) ^ 100≤1000000000 ^ 12:=by decide
 exact ⟨⟨by omega,by omega⟩,A4 (Nat.lt_of_lt_of_le h.1 e),A4 (Nat.lt_of_lt_of_le h.2 e)⟩
theorem Xp {u:PH}{x x':Value}{q r:Rat}(h:Av u x q)(h':Av u x' r)(h1:Sz q 1000000000000)(h2:Sz r 1000000000000):Fn0 prog 59 [x,x'] u fun v _=>v=.int .i64 (sg (q - r)):=by
 rw [← Xn,← Al3]; exact Wb h h' h1 h2
end
section
open Go.RowKit
section rules
variable {P:Program} [Ba P] {fn:Func} {Post:B0} {st:List KI×S} {u m:PH}
theorem G.buildM (e:TypeId)(sz bt:Nat)(z:Value)(es:List Value)(h:Al P (adv P st)=.buildS (some (e,sz,bt,z)) es.length (es.zipIdx.map fun p=>(p.2,p.1)))(ho:A3 sz es)(hzs:z.cells.size=sz)(hsz:0 < sz)(hn0:0 < es.length)(hb:es.length*sz≤16777216)
  (k:∀ g m',Ae m m' (.slice (some ⟨g,0,none⟩) es.length es.length) e sz es→G P fn Post (nx (adv P st) (.slice (some ⟨g,0,none⟩) es.length es.length)) u m'):G P fn Post st u m:=by
 refine G.big (K:=fun v' u' m'=>u'=u∧PH.le m m'∧∃ g,v'=.slice (some ⟨g,0,none⟩) es.length es.length∧Ae m m' (.slice (some ⟨g,0,none⟩) es.length es.length) e sz es) h (by simp) (fun env op hv=>?_) (.inl fun v u' m' hk=>hk.2.1) (fun env o hview w hgd=>?_) (fun v' u' m' hle hk=>?_)
 ·obtain ⟨t,qs,rfl,_⟩:=E1 hv; rfl
 ·obtain ⟨t,qs,e1,e2,hi⟩:=E1 hview;obtain ⟨dst,opp,type,pos,after,guard⟩:=o;simp only at e1; subst e1;obtain ⟨hu,i,hi1,hi2,rfl,rfl⟩:=Df hi;obtain ⟨g1,g2,g3,g4⟩:=hgd.newM (cs:=(Az es).toArray) (t:=e) (by simpa using Ep ho);have hfl:=A2 ho;have hne:es.length*i.size≠0:=by have:=Nat.mul_pos hn0 hsz; omega
  have hfill:=Oz es 0 ((Array.range (es.length*i.size)).map (z.cells[· % z.cells.size]!)) ho (by simp);have e0:((Array.range (es.length*i.size)).map (z.cells[· % z.cells.size]!)).toList.drop (es.length*i.size) = []:=by
   apply List.drop_eq_nil_of_le; simp
  simp only [Nat.zero_mul,List.take_zero,List.nil_append,Nat.zero_add,e0,List.append_nil] at hfill;refine Bq (w':=w.alloc (.cells (Az es).toArray e (0,0))) (v:=.slice (some ⟨w.heap.size,0,none⟩) es.length es.length) ?_ ⟨u,_,g1,g2,rfl,Jw _ g3,_,rfl,ho,.inr ⟨w.heap.size,es.length,[],g3,by rw [List.append_nil],rfl,Nat.le_refl _,by rw [List.append_nil,hfl],by simp⟩⟩;simp only [execOp,e2];simp [Instr.buildSlice,run_underlying hu,sizeOf,typeInfo,zeroValue,hi1,hi2,hne,hfill,newRow,show ¬ 16777216 < es.length*i.size by omega]
 ·obtain ⟨rfl,_,g,rfl,hk⟩:=hk;exact k g m' hk
end rules
end
section
variable [Cc] [Dy]
open Go.RowKit
section rules
variable {P:Program} [Ba P] {fn:Func} {Post:B0} {st:List KI×S} {u m:PH}
theorem Zy {env:Operand→Value}{o:Op}{t:TypeId}{x:Value}{f:Nat}(h:A7 P env o=.fieldA t x f):∃ X,o=.fieldAddr t X f∧env X=x:=by
 cases o <;> simp only [A7] at h <;> try cases h
 any_goals ((repeat' split at h) <;> cases h; done)
 ·exact ⟨_,rfl,rfl⟩
theorem G.fieldA (t:TypeId)(b off f fo:Nat)(h:Al P (adv P st)=.fieldA t (.pointer (some ⟨b,off,none⟩)) f)(hf:Lq P t f=some fo)(k:G P fn Post (nx (adv P st) (.pointer (some ⟨b,off+fo,none⟩))) u m):G P fn Post st u m:=by
 refine G.ask h (by simp) (fun env o hview w _=>?_) k;obtain ⟨X,e,e1⟩:=Zy hview;obtain ⟨dst,opp,type,pos,after,guard⟩:=o;simp only at e; subst e;unfold Lq at hf;split at hf
 ·rename_i fs hfs;split at hf
  ·rename_i fd hfd;split at hf
   ·rename_i n hn;simp only [Option.some.injEq] at hf;subst hf;simp [execOp,Instr.fieldAt,run_underlying hfs,hfd,Instr.sureAddr,e1,fieldPlace,Bf hn,Db]
   ·cases hf
  ·cases hf
 ·cases hf
theorem G.remZ (x y z:Int)(h:Al P (adv P st)=.bin .rem (.int .i64 x) (.int .i64 y))(hy:0 < y)(hy2:y≤9223372036854775807)(hz:x.tmod y=z)
  (k:G P fn Post (nx (adv P st) (.int .i64 z)) u m):G P fn Post st u m:=by
 refine G.bin _ h Cy (fun t w=>?_) k;have h4:¬ y=0:=by omega
 have h5:-y < z∧z < y:=by
  rw [← hz];have a1:=Int.tmod_lt_of_pos x hy;have a2:=Int.lt_tmod_of_pos x hy;exact ⟨a2,a1⟩
 simp [binOp,Op.intDiv,h4,hz]
end rules
end
section
variable [Cc]
open Go.RowKit
variable {P : Program} [Ba P] {fn : Func} {Post : B0} {st : List KI × S} {u m : PH}
theorem G.f (t : TypeId) (b off f fo : Nat) (k : G P fn Post (nx (adv P st) (.pointer (some ⟨b, off + fo, none⟩))) u m) (h : Al P (adv P st) = .fieldA t (.pointer (some ⟨b, off, none⟩)) f := by kernel_rfl) (hf : Lq P t f = some fo := by kernel_rfl) : G P fn Post st u m := G.fieldA t b off f fo h hf k
end
section
open Go.RowKit
end
section
open Go.RowKit
variable {k:Nat}{m0:PH}
theorem Aii (m:PH):m.or PH.mt=m:=by
 funext g; unfold PH.or; split
 ·rename_i o e; rw [e]
 ·rename_i e; rw [e]; rfl
theorem Agz (m0 m:PH){g:Nat}(o:Obj)(h:m0 g=none):m0.or (m.upd g o)=(m0.or m).upd g o:=by
 funext k
 by_cases e:k=g
 ·subst e; rw [PH.or_r h,Ac,Ac]
 ·rw [Ad _ _ e];unfold PH.or; split
  ·rfl
  ·rw [Ad _ _ e]
theorem Ae.list {m0 m u:PH}{v:Value}{t:TypeId}{sz:Nat}{es:List Value}(h:Ae m0 m v t sz es)(hl:PH.le m u):Ab u v sz es:=by
 obtain ⟨ho,h⟩:=h;rcases h with ⟨rfl,rfl,_⟩ | ⟨g,cap,rest,_,rfl,rfl,hcap,hlen,_⟩
 ·exact Ab.nil _ _ _ _
 ·refine ⟨_,_,rfl,hcap,fun j e hj=>⟨g,0,rfl,fun i x hx=>⟨_,_,_,hl _ _ (Ac _ _ _),?_⟩⟩⟩;rw [List.getElem?_toArray,Nat.zero_add];have:=Gm ho hj hx;rw [List.getElem?_append_left (by obtain ⟨h,_⟩:=List.getElem?_eq_some_iff.1 this; exact h)]; exact this
theorem Bag.list {l:List Arr}{m u:PH}(h:Bag m l)(hl:PH.le m u)(i:Nat){x:Arr}(hi:l[i]?=some x):Ab u x.v x.sz x.es:=by
 obtain ⟨m0,hx,_⟩:=h.focus i hi;exact Ae.list hx hl
section rules
variable [Cc] [Dy] {P:Program} [Ba P] {fn:Func} {Post:B0} {st:List KI×S} {u m:PH}
theorem G.callA (f:Nat)(args:List Value){mf mc:PH}{R:Value→PH→PH→Prop}(h:Al P (adv P st)=.call f args)(hdr:Tc (adv P st)=true)(hc:∀ args w,(callFunc f args).run P w=.ok (.enter f args) w)(hm:m=mf.or mc)(hd:Ki mf mc)(c:Ai P f args u mc R)
  (k:∀ v u' mc',PH.le u u'→R v u' mc'→Ki mf mc'→G P fn Post (nx (adv P st) v) u' (mf.or mc')):G P fn Post st u m:=by
 subst hm;refine G.bigN (K:=fun v u' m'=>∃ mc',m'=mf.or mc'∧R v u' mc'∧Ki mf mc') h (by simp) hdr Fm (fun env o hview w hgd=>?_) (fun v u' m' h1 h2=>?_)
 ·have hgc:Bx u mc w:=hgd.less (fun g o hg=>by
   cases hx:mf g with
   | some o'=>have:=(hd g).resolve_left (by rw [hx]; simp); rw [this] at hg; cases hg
   | none=>rw [PH.or_r hx]; exact hg)
  refine Lz hview hc w _ (Calls.mono (c w hgc) fun e w' he=>?_);obtain ⟨v,u',mc',e1,e2,e3,e4⟩:=he;obtain ⟨g1,g2⟩:=hgd.frameM hd e2 e3;refine ⟨v,e1,u',mf.or mc',g1,g2,mc',rfl,e4,fun g=>?_⟩;cases hx:mf g with
  | none=>exact .inl rfl
  | some o =>
   right;have hlt:=Bw (hgd.pm g o (PH.or_l hx));exact e3.ms g hlt ((hd g).resolve_left (by rw [hx]; simp))
 ·obtain ⟨mc',rfl,hR,hA⟩:=h2;exact k v u' mc' h1 hR hA
theorem G.giveP {ma sm:PH}(h:Fd (ctl P 100 st).1=true)(hm:m=ma.or sm)(ha:Ki ma sm)(h0:∀ g,Post.m0 g=none∨sm g≠none)(k:∀ u',PH.le u u'→PH.le ma u'→G P fn Post (ctl P 100 st) u' sm):G P fn Post st u m:=by
 subst hm;refine ⟨Is 100 st ?_⟩;rw [Sym.ofNo h];intro c ρ a w hm0 hr;have hap:∀ g o,ma g=some o→u g=none:=fun g o hg=>(hr.gd.ap g).resolve_right (by rw [PH.or_l hg]; simp);have hsm:∀ g o,sm g=some o→ma g=none:=fun g o hg=>(ha g).resolve_right (by rw [hg]; simp);have hnew:∀ g o,ma g=some o→c.w0.heap.size≤g:=by
  intro g o hg;rcases Nat.lt_or_ge g c.w0.heap.size with hlt | hge
  ·have hpm:c.m0 g=none:=by
    rw [hm0];rcases h0 g with e | e
    ·exact e
    ·cases hs:sm g with
     | none=>exact absurd hs e
     | some o'=>have:=hsm g o' hs; rw [this] at hg; cases hg
   have:=hr.gr.ms g hlt hpm;rw [PH.or_l hg] at this; cases this
  ·exact hge
 have hle:PH.le u (ma.or u):=fun g o hg=>by
  cases hx:ma g with
  | none=>rw [PH.or_r hx]; exact hg
  | some o'=>have:=hap g o' hx; rw [this] at hg; cases hg
 have hk:=(k (ma.or u) hle (fun g o hg=>PH.or_l hg)).out;rw [Sym.ofNo h] at hk;refine hk c ρ a w hm0 ⟨hr.sz,hr.tm,hr.df.of fun r e _ hu hm=>(by
  have hma:ma r=none:=(by
   cases hx:ma r with
   | none=>rfl
   | some o=>rw [PH.or_l hx] at hm; cases hm)
  rw [PH.or_r hma] at hm;exact ⟨e,by rw [PH.or_r hma]; exact hu,hm⟩),fun kk b hb=>?_,hr.inj,hr.lv,⟨fun g' o hg=>?_,fun g' o hg=>?_,fun g'=>?_,fun g' cs t' fr j z hg hj=>?_⟩,⟨hr.gr.sz,hr.gr.old,fun g' hg=>?_,fun g' hg hm=>?_,hr.gr.io,hr.gr.dr⟩⟩
 ·obtain ⟨e1,e2,e3,e4⟩:=hr.box kk b hb;have hma:ma (ρ kk)=none:=by
   cases hx:ma (ρ kk) with
   | none=>rfl
   | some o=>rw [PH.or_l hx] at e4; cases e4
  rw [PH.or_r hma] at e4;exact ⟨e1,e2,by rw [PH.or_r hma]; exact e3,e4⟩
 ·cases hx:ma g' with
  | some o'=>rw [PH.or_l hx] at hg; cases hg; exact hr.gd.pm g' _ (PH.or_l hx)
  | none=>rw [PH.or_r hx] at hg; exact hr.gd.pu g' o hg
 ·exact hr.gd.pm g' o (by rw [PH.or_r (hsm g' o hg)]; exact hg)
 ·cases hx:ma g' with
  | some o'=>right; exact (ha g').resolve_left (by rw [hx]; simp)
  | none =>
   rw [PH.or_r hx];have:=hr.gd.ap g';rw [PH.or_r hx] at this; exact this
 ·cases hx:ma g' with
  | some o' =>
   rw [PH.or_l hx,← hg];exact (hr.gd.pm g' _ (PH.or_l hx)).symm
  | none=>rw [PH.or_r hx]; exact hr.gd.cl g' cs t' fr j z hg hj
 ·have hx:ma g'=none:=by
   cases hx:ma g' with
   | none=>rfl
   | some o=>have:=hnew g' o hx; omega
  rw [PH.or_r hx]; exact hr.gr.us g' hg
 ·have:=hr.gr.ms g' hg hm;cases hx:ma g' with
  | some o=>have:=hnew g' o hx; omega
  | none=>rw [PH.or_r hx] at this; exact this
end rules
structure Src where
 g:Nat
 a:Option Addr
 n:Nat
 c:Nat
def Src.ptr (s:Src):Value:=.pointer (some ⟨s.g,0,none⟩)
def Src.el (s:Src)(k:Nat):Value:=.agg #[.slice s.a s.n s.c,.int .i64 (k:Int)]
def Src.M (s:Src)(k:Nat):PH:=PH.mt.upd s.g (.cells #[.slice s.a s.n s.c,.int .i64 (k:Int)] 97 (0,0))
def Src.arr (s:Src)(k:Nat):Arr:=⟨.slice (some ⟨s.g,0,none⟩) 1 1,97,2,[s.el k]⟩
theorem Src.el_ok (s:Src)(k:Nat):A3 2 [s.el k]:=by
 intro x hx;simp at hx; subst hx;exact ⟨rfl,fun y hy=>by simp [Src.el,Value.cells] at hy; rcases hy with rfl | rfl <;> rfl⟩
theorem Src.at {s:Src}(h:m0 s.g=none):(s.arr k).At m0 (m0.or (s.M k)):=by
 refine ⟨s.el_ok k,.inr ⟨s.g,1,[],h,?_,rfl,Nat.le_refl _,rfl,by simp⟩⟩;unfold Src.M;rw [Agz _ _ _ h,Aii]; rfl
theorem Src.split {s:Src}{m0 m:PH}(h:(s.arr k).At m0 m):m=m0.or (s.M k)∧m0 s.g=none:=by
 obtain ⟨_,h⟩:=h;rcases h with ⟨h,_,_⟩ | ⟨g,cap,rest,h1,rfl,h2,h3,h4,h5⟩
 ·simp [Src.arr] at h
 ·simp only [Src.arr,Value.slice.injEq,Option.some.injEq,Addr.mk.injEq,and_true] at h2;obtain ⟨rfl,_,rfl⟩:=h2;have hr:rest = []:=by
   simp [Src.arr,Az,Src.el,Value.cells] at h4;exact h4
  subst hr;refine ⟨?_,h1⟩;unfold Src.M;rw [Agz _ _ _ h1,Aii]; rfl
theorem Src.apart {s:Src}(h:m0 s.g=none):Ki m0 (s.M k):=fun g=>by
 by_cases e:g=s.g
 ·subst e; exact .inl h
 ·right; unfold Src.M; rw [Ad _ _ e]; rfl
structure H0 (u:PH)(s:Src)(ts:List Int):Prop where
 list:Ab u (.slice s.a s.n s.c) 1 (Dx ts)
 n:s.n=ts.length
 le:ts.length≤600
 lo:∀ t∈ts,-9223372036854775808≤t
 hi:∀ t∈ts,t≤9223372036854775807
theorem H0.mono {u u':PH}{s:Src}{ts:List Int}(h:H0 u s ts)(hl:PH.le u u'):H0 u' s ts:=⟨h.list.mono hl,h.n,h.le,h.lo,h.hi⟩
theorem Src.cell0 (s:Src)(k:Nat):ElP (s.M k) s.g (0+0) (.slice s.a s.n s.c):=fun i y hy=>by
 match i,hy with
 | 0,hy=>simp [Value.cells] at hy; subst hy; exact ⟨_,_,_,Ac _ _ _,rfl⟩
theorem Src.cell1 (s:Src)(k:Nat):ElP (s.M k) s.g (0+1) (.int .i64 (k:Int)):=fun i y hy=>by
 match i,hy with
 | 0,hy=>simp [Value.cells] at hy; subst hy; exact ⟨_,_,_,Ac _ _ _,rfl⟩
end
section
variable [Cc]
open Go.RowKit
variable {P : Program} [Ba P] {fn : Func} {Post : B0} {st : List KI × S} {u m : PH}
theorem G.A {f : Nat} {args : List Value} {R : Value → PH → PH → Prop} (hc : ∀ args w, (callFunc f args).run P w = .ok (.enter f args) w) (c : Ai P f args u m R) (k : ∀ v u' mc', PH.le u u' → R v u' mc' → Ki PH.mt mc' → G P fn Post (nx (adv P st) v) u' (PH.mt.or mc')) (h : Al P (adv P st) = .call f args := by kernel_rfl) (hdr : Tc (adv P st) = true := by kernel_rfl) : G P fn Post st u m := G.callA f args h hdr hc (C2 _).symm (Sj _) c k
theorem G.D {f : Nat} {args : List Value} {mf mc : PH} {R : Value → PH → PH → Prop} (hc : ∀ args w, (callFunc f args).run P w = .ok (.enter f args) w) (hd : Ki mf mc) (c : Ai P f args u mc R) (k : ∀ v u' mc', PH.le u u' → R v u' mc' → Ki mf mc' → G P fn Post (nx (adv P st) v) u' (mf.or mc')) (h : Al P (adv P st) = .call f args := by kernel_rfl) (hdr : Tc (adv P st) = true := by kernel_rfl) : G P fn Post st u (mf.or mc) := G.callA f args h hdr hc rfl hd c k
end
section
open Go.MapKept
variable {et t:TypeId}{g:Nat}{o:Obj}{w:World}
structure Rr (P:Program)(kt:TypeId){κ:Type}[DecidableEq κ](enc:κ→Value):Prop where
 eq:∀ a b w,(Op.equal kt (enc a) (enc b)).run P w=.ok (decide (a=b)) w
 now:∃ d,P.underlying kt=some d∧((∀ a b,Instr.sameNow d (enc a) (enc b)=none)∨(∀ a b,Instr.sameNow d (enc a) (enc b)=some (decide (a=b))))
 chk:∀ e a w,(Instr.checkKey e 10000 kt (enc a)).run P w=.ok () w
 bits:∀ a,Instr.sameBits 10000 (enc a) (enc a)=true
 inj:∀ a b,enc a=enc b→a=b
def Ec {κ:Type}(enc:κ→Value)(o:Obj)(l:List (κ×Value)):Prop :=
 ∃ es clock,o=.map es clock∧es.toList.map (fun e=>(e.key,e.val))=l.map (fun p=>(enc p.1,p.2))∧Stamped es clock
def Fi {κ:Type}[DecidableEq κ](a:κ):List (κ×Value)→Option Value
 | []=>none
 | (b,v)::l=>if a=b then some v else Fi a l
def H5 {κ:Type}[DecidableEq κ](a:κ)(x:Value):List (κ×Value)→List (κ×Value)
 | []=>[(a,x)]
 | (b,v)::l=>if a=b then (b,x)::l else (b,v)::H5 a x l
def Alz {κ:Type}[DecidableEq κ](a:κ):List (κ×Value)→List (κ×Value)
 | []=>[]
 | (b,v)::l=>if a=b then l else (b,v)::Alz a l
def Gn {κ:Type}[DecidableEq κ](a:κ):List (κ×Value)→Nat→Option (Nat×Value)
 | [],_=>none
 | (b,v)::l,i=>if a=b then some (i,v) else Gn a l (i+1)
def Aem (z:Value)(r:Option Value)(ok:Bool):Value:=match r with | some v=>(if ok then .tuple #[v,.bool true] else v) | none=>(if ok then .tuple #[z,.bool false] else z)
theorem Kb {α β:Type}{f:α→β}{l:List α}(h:(l.map f).Nodup):l.Nodup:=(List.pairwise_map.1 h).imp fun h e=>h (by rw [e])
section
variable {κ:Type} [DecidableEq κ] {enc:κ→Value}
theorem Vd (a:κ):∀ (l:List (κ×Value)) (i:Nat),(Gn a l i).map (·.2)=Fi a l
 | [],_=>rfl
 | (b,v)::l,i=>by
  unfold Gn Fi;split
  ·rfl
  ·exact Vd a l (i+1)
theorem Sb {a:κ}:∀ {l:List (κ×Value)} {i:Nat},Gn a l i=none→a∉l.map (·.1)
 | [],_,_=>by simp
 | (b,v)::l,i,h=>by
  unfold Gn at h;split at h
  ·cases h
  ·rename_i hne;simp only [List.map_cons,List.mem_cons,not_or];exact ⟨hne,Sb h⟩
theorem Rc {a:κ}:∀ {l:List (κ×Value)} {i j:Nat} {v:Value},Gn a l i=some (j,v)→i≤j∧l[j - i]?=some (a,v)∧(∀ x,H5 a x l=l.set (j - i) (a,x))∧Alz a l=l.eraseIdx (j - i)
 | [],_,_,_,h=>by cases h
 | (b,w)::l,i,j,v,h=>by
  unfold Gn at h;split at h
  ·rename_i e;simp only [Option.some.injEq,Prod.mk.injEq] at h;obtain ⟨rfl,rfl⟩:=h;subst e;exact ⟨Nat.le_refl _,by simp,fun x=>by simp [H5],by simp [Alz]⟩
  ·rename_i hne;obtain ⟨h1,h2,h3,h4⟩:=Rc h;have e:j - i=(j - (i+1))+1:=by omega
   refine ⟨by omega,by rw [e,List.getElem?_cons_succ]; exact h2,fun x=>?_,?_⟩
   ·rw [e,List.set_cons_succ,← h3 x]; simp [H5,hne]
   ·rw [e,List.eraseIdx_cons_succ,← h4]; simp [Alz,hne]
theorem Aap {a:κ}:∀ {l:List (κ×Value)} (x:Value),a∉l.map (·.1)→H5 a x l=l++[(a,x)]
 | [],_,_=>rfl
 | (b,v)::l,x,h=>by
  simp only [List.map_cons,List.mem_cons,not_or] at h;unfold H5;rw [if_neg h.1,Aap x h.2]; rfl
theorem Fz {a:κ}:∀ {l:List (κ×Value)},Fi a l=none↔a∉l.map (·.1)
 | []=>by simp [Fi]
 | (b,v)::l=>by
  unfold Fi;split
  ·rename_i e; simp [e]
  ·rename_i hne; rw [Fz]; simp [hne]
variable {P:Program} {kt:TypeId}
theorem K0 (K:Rr P kt enc)(a:κ)(w:World):∀ (es:List MapEntry) (l:List (κ×Value)) (i:Nat),es.map (fun e=>(e.key,e.val))=l.map (fun p=>(enc p.1,p.2))→(Instr.findAsking kt (enc a) es i).run P w=.ok (Gn a l i) w
 | [],[],i,_=>by simp [Instr.findAsking,Gn]
 | [],_::_,_,h=>by simp at h
 | _::_,[],_,h=>by simp at h
 | e::es,(b,v)::l,i,h=>by
  simp only [List.map_cons,List.cons.injEq,Prod.mk.injEq] at h;obtain ⟨⟨h1,h2⟩,h3⟩:=h;unfold Instr.findAsking;simp only [Sem.run_bind,h1,K.eq,Result.andThen_ok];unfold Gn;by_cases e':a=b
  ·simp [e',h2]
  ·simp only [decide_eq_false e',Bool.false_eq_true,if_false,if_neg e'];exact K0 K a w es l (i+1) h3
theorem Tp {d:TypeDesc}(hn:∀ a b,Instr.sameNow d (enc a) (enc b)=some (decide (a=b)))(a:κ):∀ (es:List MapEntry) (l:List (κ×Value)) (i:Nat),es.map (fun e=>(e.key,e.val))=l.map (fun p=>(enc p.1,p.2))→Instr.findNow d (enc a) es i=some (Gn a l i)
 | [],[],i,_=>by simp [Instr.findNow,Gn]
 | [],_::_,_,h=>by simp at h
 | _::_,[],_,h=>by simp at h
 | e::es,(b,v)::l,i,h=>by
  simp only [List.map_cons,List.cons.injEq,Prod.mk.injEq] at h;obtain ⟨⟨h1,h2⟩,h3⟩:=h;unfold Instr.findNow Gn;rw [h1,hn];by_cases e':a=b
  ·simp [e',h2]
  ·simp only [decide_eq_false e',if_neg e'];exact Tp hn a es l (i+1) h3
theorem Qj (K:Rr P kt enc)(a:κ)(w:World){es:List MapEntry}{l:List (κ×Value)}(h:es.map (fun e=>(e.key,e.val))=l.map (fun p=>(enc p.1,p.2))):(Instr.findKey kt (enc a) es).run P w=.ok (Gn a l 0) w:=by
 obtain ⟨d,hd,hn⟩:=K.now;unfold Instr.findKey;simp only [Sem.run_bind,run_underlying hd,Result.andThen_ok];rcases hn with hn | hn
 case inr=>rw [Tp hn a es l 0 h]; rfl
 cases es with
 | nil =>
  cases l with
  | nil=>simp [Instr.findNow,Gn]
  | cons=>simp at h
 | cons e es =>
  have hf:Instr.findNow d (enc a) (e::es) 0=none:=by
   cases l with
   | nil=>simp at h
   | cons p l =>
    simp only [List.map_cons,List.cons.injEq,Prod.mk.injEq] at h;unfold Instr.findNow;rw [h.1.1,hn]
  rw [hf];exact K0 K a w _ _ _ h
theorem Ec.empty:Ec enc (.map #[] 0) []:=⟨#[],0,rfl,by simp,stamped_empty 0⟩
theorem Ec.nodup {l:List (κ×Value)}(h:Ec enc o l):(l.map (·.1)).Nodup:=by
 obtain ⟨es,clock,rfl,he,hs⟩:=h;have h1:es.toList.map (·.key)=l.map (fun p=>enc p.1):=by
  have:=congrArg (List.map (·.1)) he;simpa [Function.comp_def] using this
 have h2:=hs.2.2;rw [h1] at h2;have:l.map (fun p=>enc p.1)=(l.map (·.1)).map enc:=by simp [Function.comp_def]
 rw [this] at h2;exact Kb h2
theorem Ab5 (K:Rr P kt enc)(ht:P.underlying t=some (.map kt et)){z:Value}(hz:∀ w,(zeroValue et).run P w=.ok z w){l:List (κ×Value)}(hg:w.heap[g]?=some o)(ho:Ec enc o l)(a:κ)(ok:Bool) :
  (Instr.lookup t (.map (some g)) (enc a) ok).run P w=.ok (Aem z (Fi a l) ok) w:=by
 obtain ⟨es,clock,rfl,he,hs⟩:=ho;have hf:=Qj K a w he;rw [← Vd a l 0];simp only [Instr.lookup,Sem.run_bind,run_underlying ht,Result.andThen_ok,MapKept.run_getObj_map hg,K.chk,Sem.run_pure,hf];cases Gn a l 0 with
 | none=>simp only [Aem,Option.map_none,Sem.run_bind,hz,Result.andThen_ok,Sem.run_pure]
 | some p=>simp only [Aem,Option.map_some,Sem.run_bind,Sem.run_pure,Result.andThen_ok]
theorem Ab3 (K:Rr P kt enc)(ht:P.underlying t=some (.map kt et)){l:List (κ×Value)}(hg:w.heap[g]?=some o)(ho:Ec enc o l)(a:κ)(x:Value) :
  ∃ o',Ec enc o' (H5 a x l)∧(Instr.mapUpdate t (.map (some g)) (enc a) x).run P w=.ok () { w with heap:=w.heap.setIfInBounds g o' }:=by
 obtain ⟨es,clock,rfl,he,hs⟩:=ho;have hf:=Qj K a w he;have hlen:es.toList.length=l.length:=by simpa using congrArg List.length he
 cases hfk:Gn a l 0 with
 | none =>
  rw [hfk] at hf;have hn:=Sb hfk;refine ⟨.map (es.push { key:=enc a,val:=x,born:=clock }) (clock+1),⟨_,_,rfl,?_,stamped_push hs (fun e hm hk=>?_)⟩,?_⟩
  ·rw [Aap x hn]; simp only [Array.toList_push,List.map_append,he,List.map_cons,List.map_nil]
  ·obtain ⟨j,hj,rfl⟩:=List.mem_iff_getElem.1 hm;have:=congrArg (fun t=>t[j]?) he;simp only [List.getElem?_map,List.getElem?_eq_getElem hj,Option.map_some] at this;rw [List.getElem?_eq_getElem (by omega)] at this;simp only [Option.map_some,Option.some.injEq,Prod.mk.injEq] at this;rw [this.1] at hk;exact hn (List.mem_map.2 ⟨_,List.getElem_mem (by omega),K.inj _ _ hk⟩)
  ·simp only [Instr.mapUpdate,Sem.run_bind,run_underlying ht,Result.andThen_ok,MapKept.run_getObj_map hg,K.chk,hf];exact MapKept.run_setObj_map _ hg
 | some p =>
  obtain ⟨j,v⟩:=p;rw [hfk] at hf;obtain ⟨_,h2,h3,_⟩:=Rc hfk;rw [Nat.sub_zero] at h2 h3;have hjl:j < l.length:=(List.getElem?_eq_some_iff.1 h2).1;have hje:j < es.toList.length:=by omega
  obtain ⟨e0,he0⟩:∃ e0,es.toList[j]?=some e0:=⟨_,List.getElem?_eq_getElem hje⟩;have hek:e0.key=enc a:=by
   have:=congrArg (fun t=>t[j]?) he;simp only [List.getElem?_map,he0,Option.map_some,h2,Option.some.injEq,Prod.mk.injEq] at this;exact this.1
  have hej:es[j]?=some e0:=by rw [← Array.getElem?_toList]; exact he0
  refine ⟨.map (es.modify j fun e=>{ e with key:=enc a,val:=x }) clock,⟨_,_,rfl,?_,stamped_modify hs j _ (fun _ _=>rfl) (fun e _ h=>?_)⟩,?_⟩
  ·rw [h3 x,List.map_set];apply List.ext_getElem?;intro i;simp only [List.getElem?_map,Array.getElem?_toList,Array.getElem?_modify,List.getElem?_set];have hi:=congrArg (fun t=>t[i]?) he;simp only [List.getElem?_map,Array.getElem?_toList] at hi;by_cases e:j=i
   ·subst e;rw [if_pos rfl,if_pos rfl,hej,if_pos (by simpa using hjl)]; rfl
   ·rw [if_neg e,if_neg e]; exact hi
  ·rw [hej] at h; cases h; exact hek.symm
  ·have hkey:((es[j]?).map (·.key)).getD (enc a)=enc a:=by rw [hej]; simp [hek]
   simp only [Instr.mapUpdate,Sem.run_bind,run_underlying ht,Result.andThen_ok,MapKept.run_getObj_map hg,K.chk,hf,hkey];have hst:(Instr.keyThatStays (enc a) (enc a)).run P w=.ok (enc a) w:=by unfold Instr.keyThatStays; rw [if_pos (K.bits a)]; rfl
   rw [hst];simp only [Result.andThen_ok];exact MapKept.run_setObj_map _ hg
end
end
section
variable {D:List MapEntry}{clock g:Nat}{env:Operand→Value}{es:Array MapEntry}{o o':Obj}
variable [Cc]
open Go.MapKept
inductive Km where
 | other
 | mk
 | look (t:Option TypeDesc) (x k:Value) (ok:Bool)
 | put (t:Option TypeDesc) (x k v:Value)
 | range (t:Option TypeDesc) (x:Value)
 | next (it:Value)
 | entry (it:Value)
def Kj (P:Program)(env:Operand→Value):Op→Km
 | .makeMap _ none=>.mk
 | .lookup t x i ok=>.look (P.underlying t) (env x) (env i) ok
 | .mapUpdate t x k v=>.put (P.underlying t) (env x) (env k) (env v)
 | .insert t x k v=>.put (P.underlying t) (env x) (env k) (env v)
 | .range t x=>.range (P.underlying t) (env x)
 | .next it false=>.next (env it)
 | .entry it=>.entry (env it)
 | _=>.other
def Kn (P:Program)(st:List KI×S):Km :=
 match st.1 with
 | .reg _ ops _ (i::_)::_=>match ops[i]? with
  | some o=>match Fw st.2 o && (Ko st.2 o.op && Ls o.op) with
   | true=>match gv st.2 ops o with
    | some true=>Kj P (Kg st.2) o.op
    | _=>.other
   | false=>.other
  | none=>.other
 | _=>.other
def R8:Obj→Bool
 | .cells ..=>false
 | _=>true
section good
variable {u m:PH} {w:World}
def Qu (w:World)(g:Nat)(o:Obj):World:={ w with heap:=w.heap.setIfInBounds g o }
theorem Uo (h:w.heap[g]?=some o):(Qu w g o').heap[g]?=some o':=by
 show (w.heap.setIfInBounds g o')[g]?=_;rw [Array.getElem?_setIfInBounds_self]; simp [Bw h]
theorem Qx {g k:Nat}(h:k≠g):(Qu w g o').heap[k]?=w.heap[k]?:=by
 show (w.heap.setIfInBounds g o')[k]?=_;rw [Array.getElem?_setIfInBounds_ne (fun e=>h e.symm)]
theorem Af6 (g:Nat)(o':Obj):(Qu w g o').heap.size=w.heap.size:=by show (w.heap.setIfInBounds g o').size=_; simp
theorem Bx.setO (h : Bx u m w)   (hg : m g = some o) (hn : R8 o' = true) : Bx u (m.upd g o') (Qu w g o') ∧ Bz u m w u (m.upd g o') (Qu w g o') := by
  have hb := h.pm g _ hg
  have hug : u g = none := by rcases h.ap g with e | e
                              · exact e
                              · rw [hg] at e; cases e
  refine ⟨⟨fun k o hk => ?_, fun k o hk => ?_, fun k => ?_, fun k cs1 t1 fr1 j z hk hj => ?_⟩, ⟨by rw [Af6]; exact Nat.le_refl _, fun k hk hm => Qx (fun e => by rw [e, hg] at hm; cases hm), fun _ _ => rfl, fun k hk hm => by rw [Ad _ _ (fun e => by rw [e, hg] at hm; cases hm)]; exact hm, ⟨rfl, rfl⟩, fun _ => ⟨rfl, Nat.le_refl _⟩⟩⟩
  · rw [Qx (fun e => by rw [e, hug] at hk; cases hk)]; exact h.pu k o hk
  · by_cases e : k = g
    · subst e; rw [Ac] at hk; rw [Uo hb]; exact hk
    · rw [Ad _ _ e] at hk; rw [Qx e]; exact h.pm k o hk
  · by_cases e : k = g
    · subst e; exact .inl hug
    · rw [Ad _ _ e]; exact h.ap k
  · by_cases e : k = g
    · subst e
      rw [Uo hb] at hk
      simp only [Option.some.injEq] at hk
      subst hk; cases hn
    · rw [Qx e] at hk; exact h.cl k cs1 t1 fr1 j z hk hj
theorem Bx.newO (h:Bx u m w)(hn:R8 o=true):Bx u (m.upd w.heap.size o) (w.alloc o)∧Bz u m w u (m.upd w.heap.size o) (w.alloc o)∧m w.heap.size=none∧u w.heap.size=none:=by
 have hm:m w.heap.size=none:=h.pm.none (Nat.le_refl _);have hu:u w.heap.size=none:=h.pu.none (Nat.le_refl _);refine ⟨⟨fun g o' hg=>?_,fun g o' hg=>?_,fun g=>?_,fun g cs t fr j z hg hj=>?_⟩,⟨by rw [Br]; omega,fun g hg _=>A9 _ _ hg,fun _ _=>rfl,fun g hg hm=>by rw [Ad _ _ (by omega)]; exact hm,⟨rfl,rfl⟩,fun _=>⟨rfl,Nat.le_refl _⟩⟩,hm,hu⟩
 ·rw [A9 _ _ (h.pu.lt hg)]; exact h.pu g o' hg
 ·by_cases e:g=w.heap.size
  ·subst e; rw [Ac] at hg; rw [Ca]; exact hg
  ·rw [Ad _ _ e] at hg; rw [A9 _ _ (h.pm.lt hg)]; exact h.pm g o' hg
 ·by_cases e:g=w.heap.size
  ·subst e; exact .inl hu
  ·rw [Ad _ _ e]; exact h.ap g
 ·by_cases e:g=w.heap.size
  ·subst e;rw [Ca] at hg;simp only [Option.some.injEq] at hg;subst hg; cases hn
  ·have hlt:=Bw hg;rw [Br] at hlt;rw [A9 _ _ (by omega)] at hg;exact h.cl g cs t fr j z hg hj
theorem Bx.drewG (h:Bx u m w):Bz u m w u m w.drew:=⟨Nat.le_refl _,fun _ _ _=>rfl,fun _ _=>rfl,fun _ _ h=>h,⟨rfl,rfl⟩,fun _=>⟨rfl,Nat.le_succ _⟩⟩
end good
section rules
variable {P:Program} [Ba P] {fn:Func} {Post:B0} {st:List KI×S} {u m:PH}
theorem Sp {V:Km}(h:Kn P st=V)(hV:V≠.other):∃ id ops dr i l k s o,st=(.reg id ops dr (i::l)::k,s)∧ops[i]?=some o∧gv s ops o=some true∧Fw s o=true∧Ko s o.op=true∧Ls o.op=true∧Kj P (Kg s) o.op=V ∧
  ∀ v,nx st v=(.reg id ops dr l::k,s.put o.dst (.v v)):=by
 obtain ⟨ks,s⟩:=st;unfold Kn at h;simp only at h;split at h
 ·rename_i id ops dr i l k;split at h
  ·rename_i o ho;split at h
   ·rename_i hb;simp only [Bool.and_eq_true] at hb;split at h
    ·rename_i hg;exact ⟨id,ops,dr,i,l,k,s,o,rfl,ho,hg,hb.1,hb.2.1,hb.2.2,h,fun v=>by simp [nx,ho]⟩
    ·exact absurd h.symm hV
   ·exact absurd h.symm hV
  ·exact absurd h.symm hV
 ·exact absurd h.symm hV
def M1:Km→Bool
 | .look ..=>true
 | _=>false
theorem Ab1 {o:Op}{V:Km}(h:Kj P env o=V)(hV:V≠.other)(hl:M1 V=false):D6 o=false:=by
 unfold Kj at h;split at h <;> first | rfl | exact absurd h.symm hV | (rw [← h] at hl; cases hl)
theorem G.bigX {V:Km}{K:Value→PH→PH→Prop}(h:Kn P (adv P st)=V)(hV:V≠.other∧M1 V=false)(hk:(∀ v u' m',K v u' m'→PH.le m m')∨Tc (adv P st)=true)
  (hr:∀ env (o:Oper),Kj P env o.op=V→∀ w,Bx u m w→D3 P env o w fun v w'=>∃ u' m',Bx u' m' w'∧Bz u m w u' m' w'∧K v u' m')
  (k:∀ v u' m',PH.le u u'→K v u' m'→G P fn Post (nx (adv P st) v) u' m'):G P fn Post st u m:=by
 refine G.stp ?_;obtain ⟨id,ops,dr,i,l,kk,s,o,e,ho,hg,hd,hv,hs,hview,hnx⟩:=Sp h hV.1;rw [e] at hk ⊢;refine ⟨?_⟩;refine Ob.big (K:=K) ho hg hd hv hs (Ab1 hview hV.1 hV.2) (fun v u' m' hK=>?_) (fun w hgd=>hr _ o hview w hgd) (fun v u' m' h1 h2=>?_)
 ·rcases hk with hk | hk
  ·exact .inl (hk v u' m' hK)
  ·exact .inr (Um ho hk)
 ·have:=(k v u' m' h1 h2).out;rw [hnx] at this;exact this
theorem Aff {o:Oper}{w w':World}{K:Value→World→Prop}(h:(execOp env o).run P w=.ok .skip w')(hk:K undef w'):D3 P env o w K:=by
 unfold D3; rw [h]; exact hk
theorem G.mapMk (h:Kn P (adv P st)=.mk)(k:∀ g,m g=none→u g=none→G P fn Post (nx (adv P st) (.map (some g))) u (m.upd g (.map #[] 0))):G P fn Post st u m:=by
 refine G.bigX (K:=fun v u' m'=>u'=u∧PH.le m m'∧∃ g,m g=none∧u g=none∧v=.map (some g)∧m'=m.upd g (.map #[] 0)) h (by simp [M1]) (.inl fun v u' m' hk=>hk.2.1) (fun env o hview w hgd=>?_) (fun v' u' m' hle hk=>?_)
 ·obtain ⟨dst,opp,type,pos,after,guard⟩:=o;simp only at hview;unfold Kj at hview;split at hview <;> try (cases hview; done)
  obtain ⟨g1,g2,g3,g4⟩:=hgd.newO (o:=.map #[] 0) rfl;refine Bq (w':=w.alloc (.map #[] 0)) (v:=.map (some w.heap.size)) ?_ ⟨u,_,g1,g2,rfl,Jw _ g3,w.heap.size,g3,g4,rfl,rfl⟩;simp [execOp,Instr.makeMap,World.alloc_eq]
 ·obtain ⟨rfl,_,g,h1,h2,rfl,rfl⟩:=hk;exact k g h1 h2
def U8 (P:Program)(t:TypeId):Option Value:=match P.info? t with | some i=>i.zero | none=>none
theorem U3 {t:TypeId}{z:Value}(h:U8 P t=some z)(w:World):(zeroValue t).run P w=.ok z w:=by
 unfold U8 at h;split at h
 ·rename_i i hi;simp [zeroValue,typeInfo,hi,h]
 ·cases h
variable {κ:Type} [DecidableEq κ] {enc:κ→Value} {kt et:TypeId}
theorem G.mapGet (K:Rr P kt enc)(z:Value)(g:Nat)(o:Obj)(l:List (κ×Value))(a:κ)(ok:Bool)(h:Kn P (adv P st)=.look (some (.map kt et)) (.map (some g)) (enc a) ok)(hz:U8 P et=some z)(hg:u g=some o∨m g=some o)(ho:Ec enc o l)
  (k:G P fn Post (nx (adv P st) (Aem z (Fi a l) ok)) u m):G P fn Post st u m:=by
 refine G.stp ?_;obtain ⟨id,ops,dr,i,l',kk,s,o',e,ho',hgv,hd,hv,hs,hview,hnx⟩:=Sp h (by simp);have k:=k.out;rw [hnx] at k;rw [e];have hal:Ea o'.op=false:=by
  unfold Kj at hview;split at hview <;> first | (cases hview; done) | (rename_i e; rw [e]; rfl)
 refine ⟨Ob.ask ho' hgv hd hv hs hal (fun w hp=>?_) k⟩;obtain ⟨dst,opp,type,pos,after,guard⟩:=o';simp only at hview hp;unfold Kj at hview;split at hview <;> try (cases hview; done)
 rename_i t x i ok';simp only [Km.look.injEq] at hview;obtain ⟨h1,h2,h3,rfl⟩:=hview;obtain ⟨pu,pm⟩:=hp rfl;have hw:w.heap[g]?=some o:=hg.elim (pu g o) (pm g o);have hr:=Ab5 K h1 (fun w=>U3 hz w) hw ho a ok';simp only [execOp,h2,h3];simp [hr]
theorem G.mapHas (K:Rr P kt enc)(z:Value)(g:Nat)(o:Obj)(l:List (κ×Value))(a:κ)(x:Value)(h:Kn P (adv P st)=.look (some (.map kt et)) (.map (some g)) (enc a) true)(hz:U8 P et=some z)(hg:u g=some o∨m g=some o)(ho:Ec enc o l)(hx:Fi a l=some x)
  (k:G P fn Post (nx (adv P st) (.tuple #[x,.bool true])) u m):G P fn Post st u m :=
 G.mapGet K z g o l a true h hz hg ho (by rw [hx]; exact k)
theorem G.mapNot (K:Rr P kt enc)(z:Value)(g:Nat)(o:Obj)(l:List (κ×Value))(a:κ)(h:Kn P (adv P st)=.look (some (.map kt et)) (.map (some g)) (enc a) true)(hz:U8 P et=some z)(hg:u g=some o∨m g=some o)(ho:Ec enc o l)(hx:Fi a l=none)
  (k:G P fn Post (nx (adv P st) (.tuple #[z,.bool false])) u m):G P fn Post st u m :=
 G.mapGet K z g o l a true h hz hg ho (by rw [hx]; exact k)
theorem G.mapPut (K:Rr P kt enc)(g:Nat)(o:Obj)(l:List (κ×Value))(a:κ)(x:Value)(h:Kn P (adv P st)=.put (some (.map kt et)) (.map (some g)) (enc a) x)(hdr:Tc (adv P st)=true)(hg:m g=some o)(ho:Ec enc o l)
  (k:∀ o',Ec enc o' (H5 a x l)→G P fn Post (nx (adv P st) undef) u (m.upd g o')):G P fn Post st u m:=by
 refine G.bigX (K:=fun v u' m'=>u'=u∧v=undef∧∃ o',Ec enc o' (H5 a x l)∧m'=m.upd g o') h (by simp [M1]) (.inr hdr) (fun env o' hview w hgd=>?_) (fun v' u' m' hle hk=>?_)
 ·obtain ⟨dst,opp,type,pos,after,guard⟩:=o';simp only at hview;have key:∀ t X A Y,P.underlying t=some (.map kt et)→env X=.map (some g)→env A=enc a→env Y=x→(opp=.mapUpdate t X A Y∨opp=.insert t X A Y)→D3 P env ⟨dst,opp,type,pos,after,guard⟩ w fun v w'=>∃ u' m',Bx u' m' w'∧Bz u m w u' m' w'∧u'=u∧v=undef∧∃ o',Ec enc o' (H5 a x l)∧m'=m.upd g o':=by
   intro t X A Y h1 h2 h3 h4 he;have hw:w.heap[g]?=some o:=hgd.pm g o hg;obtain ⟨o',ho',hr⟩:=Ab3 K h1 hw ho a x;have hn:R8 o'=true:=by obtain ⟨es,c,rfl,_⟩:=ho'; rfl
   obtain ⟨g1,g2⟩:=hgd.setO hg hn;refine Aff (w':=Qu w g o') ?_ ⟨u,_,g1,g2,rfl,rfl,o',ho',rfl⟩;rcases he with rfl | rfl
   ·simp only [execOp,h2,h3,h4];simp [hr,Qu]
   ·simp only [execOp,h2,h3,h4];simp [hr,Qu]
  unfold Kj at hview;split at hview <;> try (cases hview; done)
  ·simp only [Km.put.injEq] at hview;obtain ⟨h1,h2,h3,h4⟩:=hview;exact key _ _ _ _ h1 h2 h3 h4 (.inl rfl)
  ·simp only [Km.put.injEq] at hview;obtain ⟨h1,h2,h3,h4⟩:=hview;exact key _ _ _ _ h1 h2 h3 h4 (.inr rfl)
 ·obtain ⟨rfl,rfl,o',h1,rfl⟩:=hk;exact k o' h1
def Ar (D:List MapEntry):Array Nat:=(D.map (·.born)).toArray
structure Qr (es:Array MapEntry)(D:List MapEntry):Prop where
 sub:∀ e∈D,e∈es.toList
 nod:(D.map (·.born)).Nodup
theorem Qr.nil (es:Array MapEntry):Qr es []:=⟨by simp,by simp⟩
theorem G.mapRange (g:Nat)(es:Array MapEntry)(clock:Nat)(kt et:TypeId)(h:Kn P (adv P st)=.range (some (.map kt et)) (.map (some g)))(hg:u g=some (.map es clock)∨m g=some (.map es clock))
  (k:∀ i,m i=none→u i=none→G P fn Post (nx (adv P st) (.pointer (some ⟨i,0,none⟩))) u (m.upd i (.mapIter (some g) clock (Ar []) clock))):G P fn Post st u m:=by
 refine G.bigX (K:=fun v u' m'=>u'=u∧PH.le m m'∧∃ i,m i=none∧u i=none∧v=.pointer (some ⟨i,0,none⟩)∧m'=m.upd i (.mapIter (some g) clock (Ar []) clock)) h (by simp [M1]) (.inl fun v u' m' hk=>hk.2.1) (fun env o hview w hgd=>?_) (fun v' u' m' hle hk=>?_)
 ·obtain ⟨dst,opp,type,pos,after,guard⟩:=o;simp only at hview;unfold Kj at hview;split at hview <;> try (cases hview; done)
  simp only [Km.range.injEq] at hview;obtain ⟨h1,h2⟩:=hview;have hw:w.heap[g]?=some (.map es clock):=hg.elim (hgd.pu g _) (hgd.pm g _);obtain ⟨g1,g2,g3,g4⟩:=hgd.newO (o:=.mapIter (some g) clock (Ar []) clock) rfl;have hr:=run_range_map (P:=P) w _ kt et g es clock h1 hw;refine Bq (w':=w.alloc (.mapIter (some g) clock (Ar []) clock)) (v:=.pointer (some ⟨w.heap.size,0,none⟩)) ?_ ⟨u,_,g1,g2,rfl,Jw _ g3,w.heap.size,g3,g4,rfl,rfl⟩;simp only [execOp,h2];simp [hr,Ar]
 ·obtain ⟨rfl,_,i,h1,h2,rfl,rfl⟩:=hk;exact k i h1 h2
theorem Yf (n:Nat)(hn:0 < n)(w:World):∃ j w1,j < n∧(w1=w∨w1=w.drew)∧(choose (.mapNext n)).run P w=.ok j w1:=by
 by_cases hf:n≤1
 ·exact ⟨0,w,hn,.inl rfl,by simp [choose,Sem.run,Question.forced,hf]⟩
 ·exact ⟨_,w.drew,Nat.mod_lt _ hn,.inr rfl,by
   simp only [choose,Sem.run,Question.forced,decide_eq_true_eq,hf,if_false,Question.cut];rfl⟩
theorem Agd {w:World}{it g:Nat}(ty:TypeId)(hi:w.heap[it]?=some (.mapIter (some g) clock (Ar D) clock))(hg:w.heap[g]?=some (.map es clock))(hs:Stamped es clock) :
  ((leftOf es (Ar D)).size=0∧(Instr.next (.pointer (some ⟨it,0,none⟩)) false ty).run P w=.ok (.tuple #[.bool false]) w) ∨
  ∃ e∈(leftOf es (Ar D)).toList,∃ w1,(w1=w∨w1=w.drew)∧(Instr.next (.pointer (some ⟨it,0,none⟩)) false ty).run P w=.ok (.tuple #[.bool true,e.key,e.val]) (Qu w1 it (.mapIter (some g) clock (Ar (D++[e])) clock)):=by
 have e0:(Ar D).push=fun b=>(Ar D).push b:=rfl;have hpush:∀ e:MapEntry,(Ar D).push e.born=Ar (D++[e]):=fun e=>by simp [Ar]
 simp only [Instr.next,getObj,Sem.run_bind,Sem.run,hi,hg,Result.andThen,next_test_false (Ar D) es clock clock hs.1 (Nat.le_refl _),Bool.false_eq_true,if_false];have hmem:∀ x∈(leftOf es (Ar D)).toList,x.born < clock:=fun x hx=>hs.1 x (mem_left hx).1;have hL:es.filter (fun e=>!(Ar D).contains e.born)=leftOf es (Ar D):=rfl;simp only [hL];generalize leftOf es (Ar D)=L at hmem ⊢;have e1:L.filter (fun x=>decide (x.born < clock))=L:=Array.filter_eq_self.2 (fun x hx=>by simpa using hmem x (by simpa using hx));have e2:L.filter (fun x=>decide (x.born≥clock)) = #[]:=by
  rw [Array.filter_eq_empty_iff];intro x hx;have:=hmem x (by simpa using hx);simp;omega
 simp only [e1,e2,Array.append_empty];by_cases h0:L.size=0
 ·left;have:L = #[]:=Array.eq_empty_of_size_eq_zero h0;subst this;refine ⟨rfl,?_⟩;simp [choose,Sem.run,Question.forced]
 ·right;have hne:L.isEmpty=false:=by simp [Array.isEmpty,h0]
  simp only [hne,Bool.false_eq_true,if_false,Array.empty_append,Array.size_map];obtain ⟨j,w1,hj,hal,hrun⟩:=Yf (P:=P) L.size (by omega) w;refine ⟨L[j],by simp,w1,hal,?_⟩;have hi1:w1.heap[it]?=some (.mapIter (some g) clock (Ar D) clock):=by rcases hal with rfl | rfl <;> exact hi
  have hset:∀ o':Obj,(setObj it o').run P w1=.ok () (Qu w1 it o'):=fun o'=>by
   simp only [setObj,Sem.run,hi1,Qu]
  simp only [hrun,Array.getElem?_map,Array.getElem?_eq_getElem hj,Option.map_some,Sem.run_bind,hset,Result.andThen,hpush];rfl
theorem Mn (D:List MapEntry)(b:Nat):(Ar D).contains b=true↔b∈D.map (·.born):=by
 unfold Ar; simp
theorem Age (hs:Stamped es clock)(hD:Qr es D)(h:(leftOf es (Ar D)).size=0):D.Perm es.toList:=by
 have hnd:es.toList.Nodup:=Kb hs.2.1;have hdd:D.Nodup:=Kb hD.nod;refine (List.perm_ext_iff_of_nodup hdd hnd).2 fun e=>⟨hD.sub e,fun he=>?_⟩;have hem:leftOf es (Ar D) = #[]:=Array.eq_empty_of_size_eq_zero h;have hc:(Ar D).contains e.born=true:=by
  cases hc:(Ar D).contains e.born with
  | true=>rfl
  | false =>
   have:e∈leftOf es (Ar D):=Array.mem_filter.2 ⟨by simpa using he,by rw [hc]; rfl⟩;rw [hem] at this; simp at this
 obtain ⟨d,hd,hb⟩:=List.mem_map.1 ((Mn D _).1 hc);have h1:=find_born e es.toList hs.2.1 he;have h2:=find_born d es.toList hs.2.1 (hD.sub d hd);rw [hb] at h2;rw [h1] at h2;have h3:=Option.some.inj h2;rw [h3]; exact hd
theorem Qr.snoc (h:Qr es D){e:MapEntry}(he:e∈(leftOf es (Ar D)).toList):Qr es (D++[e]):=by
 obtain ⟨h1,h2⟩:=mem_left he;refine ⟨fun x hx=>?_,?_⟩
 ·simp only [List.mem_append,List.mem_singleton] at hx;rcases hx with hx | rfl
  ·exact h.sub x hx
  ·exact h1
 ·simp only [List.map_append,List.map_cons,List.map_nil];refine List.nodup_append.2 ⟨h.nod,by simp,fun a ha b hb=>?_⟩;simp only [List.mem_singleton] at hb;subst hb;rintro rfl;rw [(Mn D _).2 ha] at h2; cases h2
theorem G.mapNext (it g:Nat)(es:Array MapEntry)(clock:Nat)(D:List MapEntry)(h:Kn P (adv P st)=.next (.pointer (some ⟨it,0,none⟩)))(hdr:Tc (adv P st)=true)(hi:m it=some (.mapIter (some g) clock (Ar D) clock))(hg:u g=some (.map es clock)∨m g=some (.map es clock))(hs:Stamped es clock)(hD:Qr es D)
  (k0:D.Perm es.toList→G P fn Post (nx (adv P st) (.tuple #[.bool false])) u m)
  (k1:∀ e,e∈es.toList→Qr es (D++[e])→G P fn Post (nx (adv P st) (.tuple #[.bool true,e.key,e.val])) u (m.upd it (.mapIter (some g) clock (Ar (D++[e])) clock))):G P fn Post st u m:=by
 refine G.bigX (K:=fun v u' m'=>u'=u∧((m'=m∧v=.tuple #[.bool false]∧D.Perm es.toList)∨∃ e,e∈es.toList∧Qr es (D++[e])∧v=.tuple #[.bool true,e.key,e.val]∧m'=m.upd it (.mapIter (some g) clock (Ar (D++[e])) clock))) h (by simp [M1]) (.inr hdr) (fun env o hview w hgd=>?_) (fun v' u' m' hle hk=>?_)
 ·obtain ⟨dst,opp,type,pos,after,guard⟩:=o;simp only at hview;unfold Kj at hview;split at hview <;> try (cases hview; done)
  simp only [Km.next.injEq] at hview;have hw:w.heap[g]?=some (.map es clock):=hg.elim (hgd.pu g _) (hgd.pm g _);have hwi:=hgd.pm it _ hi;rcases Agd (P:=P) type hwi hw hs with ⟨h0,hr⟩ | ⟨e,he,w1,hw1,hr⟩
  ·refine Bq (w':=w) (v:=.tuple #[.bool false]) ?_ ⟨u,m,hgd,Bz.refl _ _ _,rfl,.inl ⟨rfl,rfl,Age hs hD h0⟩⟩;simp only [execOp,hview];simp [hr]
  ·have hgd1:Bx u m w1:=by rcases hw1 with rfl | rfl; exact hgd; exact hgd.drew'
   have hgr1:Bz u m w u m w1:=by rcases hw1 with rfl | rfl; exact Bz.refl _ _ _; exact hgd.drewG
   obtain ⟨g1,g2⟩:=hgd1.setO (o':=.mapIter (some g) clock (Ar (D++[e])) clock) hi rfl;refine Bq (w':=Qu w1 it (.mapIter (some g) clock (Ar (D++[e])) clock)) (v:=.tuple #[.bool true,e.key,e.val]) ?_ ⟨u,_,g1,hgr1.trans g2,rfl,.inr ⟨e,(mem_left he).1,hD.snoc he,rfl,rfl⟩⟩;simp only [execOp,hview];simp [hr]
 ·obtain ⟨rfl,⟨rfl,rfl,hp⟩ | ⟨e,h1,h2,rfl,rfl⟩⟩:=hk
  ·exact k0 hp
  ·exact k1 e h1 h2
theorem G.mapEntry (it g:Nat)(es:Array MapEntry)(clock:Nat)(D:List MapEntry)(e:MapEntry)(h:Kn P (adv P st)=.entry (.pointer (some ⟨it,0,none⟩)))(hi:m it=some (.mapIter (some g) clock (Ar (D++[e])) clock))(hg:u g=some (.map es clock)∨m g=some (.map es clock))(hs:Stamped es clock)(he:e∈es.toList)
  (k:G P fn Post (nx (adv P st) (.tuple #[e.key,e.val])) u m):G P fn Post st u m:=by
 refine G.bigX (K:=fun v u' m'=>u'=u∧m'=m∧v=.tuple #[e.key,e.val]) h (by simp [M1]) (.inl fun v u' m' hk=>by rw [hk.2.1]; exact PH.le_refl _) (fun env o hview w hgd=>?_) (fun v' u' m' hle hk=>?_)
 ·obtain ⟨dst,opp,type,pos,after,guard⟩:=o;simp only at hview;unfold Kj at hview;split at hview <;> try (cases hview; done)
  simp only [Km.entry.injEq] at hview;have hw:w.heap[g]?=some (.map es clock):=hg.elim (hgd.pu g _) (hgd.pm g _);have hwi:=hgd.pm it _ hi;have hb:(Ar (D++[e])).back?=some e.born:=by simp [Ar]
  have hf:es.find? (fun x=>x.born == e.born)=some e:=by rw [← Array.find?_toList]; exact find_born e es.toList hs.2.1 he
  have hr:(Instr.entry (.pointer (some ⟨it,0,none⟩))).run P w=.ok (.tuple #[e.key,e.val]) w:=by
   simp only [Instr.entry,getObj,Sem.run_bind,Sem.run,hwi,hw,Result.andThen,hb,bne_self_eq_false,Bool.false_eq_true,if_false,hf];rfl
  refine Bq (w':=w) ?_ ⟨u,m,hgd,Bz.refl _ _ _,rfl,rfl,rfl⟩;simp only [execOp,hview];simp [hr]
 ·obtain ⟨rfl,rfl,rfl⟩:=hk;exact k
end rules
end
section
variable {g:Nat}
variable [Cc]
def Qt (g:Nat)(o:Obj):PH:=PH.mt.upd g o
def PH.del (m:PH)(g:Nat):PH:=fun h=>if h=g then none else m h
theorem Cg (g:Nat)(o:Obj):Qt g o g=some o:=Ac _ _ _
theorem Xq {g h:Nat}(o:Obj)(hn:h≠g):Qt g o h=none:=by unfold Qt; rw [Ad _ _ hn]; rfl
theorem Aer {m:PH}{o:Obj}(h:m g=some o):m=(m.del g).or (Qt g o)∧Ki (m.del g) (Qt g o):=by
 constructor
 ·funext k
  by_cases e:k=g
  ·subst e;rw [PH.or_r (by simp [PH.del]),Cg,h]
  ·cases hk:m k with
   | none=>rw [PH.or_r (by simp [PH.del,e,hk]),Xq o e]
   | some p=>rw [PH.or_l (o:=p) (by simp [PH.del,e,hk])]
 ·intro k;by_cases e:k=g
  ·left; simp [PH.del,e]
  ·right; exact Xq o e
theorem Ajw {m:PH}{o:Obj}:(m.del g).or (Qt g o)=m.upd g o:=by
 funext k
 by_cases e:k=g
 ·subst e; rw [PH.or_r (by simp [PH.del]),Cg,Ac]
 ·rw [Ad _ _ e];cases hk:m k with
  | none=>rw [PH.or_r (by simp [PH.del,e,hk]),Xq o e]
  | some p=>rw [PH.or_l (o:=p) (by simp [PH.del,e,hk])]
section
variable {P:Program} [Ba P] {fn:Func} {Post:B0} {st:List KI×S} {u m:PH}
theorem G.callG (f:Nat)(args:List Value){g:Nat}{o:Obj}{R:Value→PH→Obj→Prop}(h:Al P (adv P st)=.call f args)(hdr:Tc (adv P st)=true)(hc:∀ args w,(callFunc f args).run P w=.ok (.enter f args) w)(hg:m g=some o)
  (c:Ai P f args u (Qt g o) (fun v u' m'=>∃ o',m'=Qt g o'∧R v u' o')) (k:∀ v u' o',PH.le u u'→R v u' o'→G P fn Post (nx (adv P st) v) u' (m.upd g o')):G P fn Post st u m:=by
 obtain ⟨h1,h2⟩:=Aer hg;refine G.callA f args h hdr hc h1 h2 c ?_;rintro v u' m' hl ⟨o',rfl,hR⟩ _;rw [Ajw];exact k v u' o' hl hR
theorem Ai.giveAll {f:FuncId}{args:List Value}{R:Value→PH→PH→Prop}(c:Ai P f args u PH.mt R):Fn0 P f args u (fun v u'=>∃ u1 m1,PH.le u1 u'∧PH.le m1 u'∧R v u1 m1):=by
 intro w hg;refine Calls.mono (c w hg) fun e w' he=>?_;obtain ⟨v,u',m',e1,e2,e3,e4⟩:=he;have hle:PH.le u' (m'.or u'):=fun g o hh=>by
  cases hx:m' g with
  | none=>rw [PH.or_r hx]; exact hh
  | some p=>have:=(e2.ap g).resolve_right (by rw [hx]; simp); rw [this] at hh; cases hh
 refine ⟨v,m'.or u',PH.mt,e1,⟨fun g o hh=>?_,Eb.mt _,fun g=>.inr rfl,fun g cs t fr j z hh hj=>?_⟩,⟨e3.sz,e3.old,fun g hgl=>?_,fun _ _ _=>rfl,e3.io,e3.dr⟩,rfl,u',m',hle,fun g o hh=>PH.or_l hh,e4⟩
 ·cases hx:m' g with
  | none=>rw [PH.or_r hx] at hh; exact e2.pu g o hh
  | some p=>rw [PH.or_l hx] at hh; cases hh; exact e2.pm g _ hx
 ·exact hle g _ (e2.cl g cs t fr j z hh hj)
 ·rw [PH.or_r (e3.ms g hgl rfl)]; exact e3.us g hgl
end
abbrev SlI:Type:=Option Addr×Nat×Nat
def E9 {κ:Type}(enc:κ→Value)(R:PH→Value→Rat→Prop)(nz:Bool)(u:PH)(o:Obj)(f:κ→Rat)(N s:Nat):Prop :=
 ∃ l:List (κ×Value),Ec enc o l∧(∀ p∈l,R u p.2 (f p.1)∧(nz=true→f p.1≠0)∧Sz (f p.1) s)∧(∀ k,k∉l.map (·.1)→f k=0)∧l.length≤N
section
variable {κ:Type} [DecidableEq κ] {enc:κ→Value} {R:PH→Value→Rat→Prop} {nz:Bool} {u:PH} {o:Obj} {f:κ→Rat} {N s:Nat}
theorem E9.up {N' s':Nat}(h:E9 enc R nz u o f N s)(hN:N≤N')(hs:s≤s'):E9 enc R nz u o f N' s':=by
 obtain ⟨l,h1,h2,h3,h4⟩:=h;exact ⟨l,h1,fun p hp=>⟨(h2 p hp).1,(h2 p hp).2.1,(h2 p hp).2.2.mono hs⟩,h3,Nat.le_trans h4 hN⟩
theorem E9.congr {f':κ→Rat}(h:E9 enc R nz u o f N s)(e:∀ k,f k=f' k):E9 enc R nz u o f' N s:=by
 rw [← funext e]; exact h
theorem E9.empty (s:Nat):E9 enc R nz u (.map #[] 0) (fun _=>0) 0 s:=⟨[],Ec.empty,by simp,fun _ _=>rfl,Nat.le_refl _⟩
theorem Hk {a:κ}:∀ {l:List (κ×Value)} {v:Value},Fi a l=some v→(a,v)∈l
 | (b,w)::l,v,h=>by
  unfold Fi at h;split at h
  ·rename_i e; cases h; rw [e]; simp
  ·exact List.mem_cons_of_mem _ (Hk h)
theorem Wo {a:κ}:∀ {l:List (κ×Value)} {v:Value},(l.map (·.1)).Nodup→(a,v)∈l→Fi a l=some v
 | (b,w)::l,v,hn,h=>by
  simp only [List.map_cons,List.nodup_cons] at hn;unfold Fi;rcases List.mem_cons.1 h with e | e
  ·cases e; rw [if_pos rfl]
  ·have:a≠b:=fun e'=>hn.1 (by rw [← e']; exact List.mem_map.2 ⟨_,e,rfl⟩);rw [if_neg this]; exact Wo hn.2 e
theorem Ry {a:κ}{x:Value}:∀ {l:List (κ×Value)} {p:κ×Value},(l.map (·.1)).Nodup→p∈H5 a x l→p=(a,x)∨(p∈l∧p.1≠a)
 | [],p,_,h=>by simp [H5] at h; exact .inl h
 | (b,w)::l,p,hn,h=>by
  simp only [List.map_cons,List.nodup_cons] at hn;unfold H5 at h;split at h
  ·rename_i e;subst e;rcases List.mem_cons.1 h with h | h
   ·exact .inl h
   ·refine .inr ⟨List.mem_cons_of_mem _ h,fun e'=>hn.1 ?_⟩;rw [← e']; exact List.mem_map.2 ⟨p,h,rfl⟩
  ·rename_i e;rcases List.mem_cons.1 h with h | h
   ·subst h; exact .inr ⟨by simp,fun e'=>e e'.symm⟩
   ·rcases Ry hn.2 h with h | ⟨h,h'⟩
    ·exact .inl h
    ·exact .inr ⟨List.mem_cons_of_mem _ h,h'⟩
theorem Pm {a:κ}{x:Value}{k:κ}:∀ {l:List (κ×Value)},k∈(H5 a x l).map (·.1)↔k=a∨k∈l.map (·.1)
 | []=>by simp [H5]
 | (b,w)::l=>by
  unfold H5;split
  ·rename_i e; subst e; simp
  ·simp only [List.map_cons,List.mem_cons,Pm (l:=l)];constructor
   ·rintro (h | h | h)
    ·exact .inr (.inl h)
    ·exact .inl h
    ·exact .inr (.inr h)
   ·rintro (h | h | h)
    ·exact .inr (.inl h)
    ·exact .inl h
    ·exact .inr (.inr h)
theorem Lc {a:κ}{x:Value}:∀ {l:List (κ×Value)},(H5 a x l).length≤l.length+1
 | []=>by simp [H5]
 | (b,w)::l=>by
  unfold H5;split
  ·simp
  ·have:=Lc (a:=a) (x:=x) (l:=l); simp; omega
def Hb (f:κ→Rat)(a:κ)(q:Rat):κ→Rat:=fun k=>if k=a then q else f k
theorem E9.put {o':Obj}{a:κ}{x:Value}{q:Rat}{l:List (κ×Value)}(ho:Ec enc o l)(h2:∀ p∈l,R u p.2 (f p.1)∧(nz=true→f p.1≠0)∧Sz (f p.1) s)(h3:∀ k,k∉l.map (·.1)→f k=0)(h4:l.length≤N)
  (h':Ec enc o' (H5 a x l)) (hx:R u x q) (hq:nz=true→q≠0) {s':Nat} (hs:Sz q s') (hss:s≤s'):E9 enc R nz u o' (Hb f a q) (N+1) s':=by
 refine ⟨_,h',fun p hp=>?_,fun k hk=>?_,Nat.le_trans Lc (by omega)⟩
 ·unfold Hb;rcases Ry ho.nodup hp with rfl | ⟨hp,hne⟩
  ·simp only [if_true]; exact ⟨hx,hq,hs⟩
  ·rw [if_neg hne]; exact ⟨(h2 p hp).1,(h2 p hp).2.1,(h2 p hp).2.2.mono hss⟩
 ·rw [Pm,not_or] at hk;unfold Hb; rw [if_neg hk.1]; exact h3 k hk.2
end
end
section
abbrev Par:=Int×List UInt8
theorem Pv:∀ a:List UInt8,Op.bytesLess a a=false
 | []=>rfl
 | x::a=>by unfold Op.bytesLess; rw [Pv a]; simp
theorem Oa:∀ {a b c:List UInt8},Op.bytesLess a b=true→Op.bytesLess b c=true→Op.bytesLess a c=true
 | _,[],_,h,_=>by simp [Op.bytesLess] at h
 | _,_::_,[],_,k=>by simp [Op.bytesLess] at k
 | [],_::_,_::_,_,_=>rfl
 | x::a,y::b,z::c,h,k=>by
  unfold Op.bytesLess at h k ⊢;simp only [Bool.or_eq_true,decide_eq_true_eq,Bool.and_eq_true,beq_iff_eq] at h k ⊢;rcases h with h | ⟨rfl,h⟩
  ·rcases k with k | ⟨rfl,k⟩
   ·exact .inl (UInt8.lt_trans h k)
   ·exact .inl h
  ·rcases k with k | ⟨rfl,k⟩
   ·exact .inl k
   ·exact .inr ⟨rfl,Oa h k⟩
theorem Wk:∀ {a b:List UInt8},Op.bytesLess a b=false→Op.bytesLess b a=false→a=b
 | [],[],_,_=>rfl
 | [],_::_,h,_=>by simp [Op.bytesLess] at h
 | _::_,[],_,k=>by simp [Op.bytesLess] at k
 | x::a,y::b,h,k=>by
  unfold Op.bytesLess at h k;simp only [Bool.or_eq_false_iff,decide_eq_false_iff_not,Bool.and_eq_false_iff,beq_eq_false_iff_ne] at h k;have hxy:x=y:=by
   rcases Nat.lt_trichotomy x.toNat y.toNat with e | e | e
   ·exact absurd (UInt8.lt_iff_toNat_lt.2 e) h.1
   ·exact UInt8.toNat_inj.1 e
   ·exact absurd (UInt8.lt_iff_toNat_lt.2 e) k.1
  subst hxy;have h2:=h.2.resolve_left (fun e=>e rfl);have k2:=k.2.resolve_left (fun e=>e rfl);rw [Wk h2 k2]
def Qp (a b:List UInt8):Int:=if Op.bytesLess a b then -1 else if a=b then 0 else 1
def Na (x y:Int):Int:=if x < y then -1 else if y < x then 1 else 0
def A8 (a b:Par):Int:=if Na a.1 b.1≠0 then Na a.1 b.1 else Qp a.2 b.2
def Lg (a b:Par×Par):Int:=if A8 a.1 b.1≠0 then A8 a.1 b.1 else A8 a.2 b.2
structure Ord {κ:Type}(c:κ→κ→Int):Prop where
 refl:∀ a,c a a=0
 eq:∀ a b,c a b=0→a=b
 sym:∀ a b,c a b < 0↔0 < c b a
 trans:∀ a b d,c a b < 0→c b d < 0→c a d < 0
theorem Apz:Ord Qp:=by
 refine ⟨fun a=>by simp [Qp,Pv],fun a b h=>?_,fun a b=>?_,fun a b d h k=>?_⟩
 ·unfold Qp at h;split at h
  ·cases h
  ·split at h
   ·assumption
   ·cases h
 ·unfold Qp;by_cases h:Op.bytesLess a b=true
  ·rw [if_pos h];have h2:¬ (Op.bytesLess b a=true):=fun k=>by have:=Oa h k; rw [Pv] at this; cases this
   have h3:¬ (b=a):=fun e=>by rw [e,Pv] at h; cases h
   rw [if_neg h2,if_neg h3]; omega
  ·rw [if_neg h];constructor
   ·intro k; split at k <;> omega
   ·intro k;by_cases h2:Op.bytesLess b a=true
    ·rw [if_pos h2] at k; omega
    ·rw [if_neg h2] at k;have:=Wk (Bool.eq_false_iff.2 h2) (Bool.eq_false_iff.2 h);rw [if_pos this] at k; omega
 ·have h1:Op.bytesLess a b=true:=by
   unfold Qp at h;split at h
   ·assumption
   ·split at h <;> omega
  have k1:Op.bytesLess b d=true:=by
   unfold Qp at k;split at k
   ·assumption
   ·split at k <;> omega
  unfold Qp; rw [if_pos (Oa h1 k1)]; omega
theorem Apy:Ord Na:=by
 refine ⟨fun a=>by simp [Na],fun a b h=>?_,fun a b=>?_,fun a b d h k=>?_⟩;all_goals unfold Na at *
 ·split at h <;> (try split at h) <;> omega
 ·split <;> split <;> (try split) <;> omega
 ·split at h <;> split at k <;> (try split at h) <;> (try split at k) <;> split <;> (try split) <;> omega
theorem Ord.lex {α β:Type}{c:α→α→Int}{d:β→β→Int}(h:Ord c)(k:Ord d):Ord (fun (a b:α×β)=>if c a.1 b.1≠0 then c a.1 b.1 else d a.2 b.2):=by
 refine ⟨fun a=>by simp [h.refl,k.refl],fun a b e=>?_,fun a b=>?_,fun a b x e f=>?_⟩
 ·by_cases h0:c a.1 b.1=0
  ·simp only [h0,ne_eq,not_true,if_false] at e;exact Prod.ext (h.eq _ _ h0) (k.eq _ _ e)
  ·simp only [h0,ne_eq,not_false_eq_true,if_true] at e
 ·have h1:=h.sym a.1 b.1;have h2:=h.sym b.1 a.1;by_cases h0:c a.1 b.1=0
  ·have e:=h.eq _ _ h0;have h3:c b.1 a.1=0:=by rw [← e]; exact h.refl _
   simp only [h0,h3,ne_eq,not_true,if_false];exact k.sym _ _
  ·have h3:c b.1 a.1≠0:=fun h4=>h0 (by rw [h.eq _ _ h4]; exact h.refl _);simp only [h0,h3,ne_eq,not_false_eq_true,if_true];exact h1
 ·have g:∀ y z:α×β,(if c y.1 z.1≠0 then c y.1 z.1 else d y.2 z.2) < 0↔(c y.1 z.1 < 0∨(y.1=z.1∧d y.2 z.2 < 0)):=fun y z=>by
   by_cases h0:c y.1 z.1=0
   ·have e:=h.eq _ _ h0;simp only [h0,ne_eq,not_true,if_false];constructor
    ·intro hh; exact .inr ⟨e,hh⟩
    ·rintro (hh | ⟨_,hh⟩)
     ·omega
     ·exact hh
   ·simp only [h0,ne_eq,not_false_eq_true,if_true];constructor
    ·intro hh; exact .inl hh
    ·rintro (hh | ⟨e',_⟩)
     ·exact hh
     ·exact absurd (by rw [e']; exact h.refl _) h0
  have e':=(g a b).1 e;have f':=(g b x).1 f;refine (g a x).2 ?_;rcases e' with e' | ⟨e1,e2⟩
  ·rcases f' with f' | ⟨f1,f2⟩
   ·exact .inl (h.trans _ _ _ e' f')
   ·rw [← f1]; exact .inl e'
  ·rcases f' with f' | ⟨f1,f2⟩
   ·rw [e1]; exact .inl f'
   ·exact .inr ⟨e1.trans f1,k.trans _ _ _ e2 f2⟩
theorem Dp:Ord A8:=Ord.lex Apy Apz
theorem Anq:Ord Lg:=Ord.lex Dp Dp
section
variable {κ:Type} {c:κ→κ→Int}
def Ef (c:κ→κ→Int)(l:List κ):Prop:=l.Pairwise fun a b=>c a b < 0
theorem Ord.irr (h:Ord c)(a:κ):¬ c a a < 0:=by rw [h.refl]; omega
theorem Ys (h:Ord c):∀ {l l':List κ},Ef c l→Ef c l'→(∀ a,a∈l↔a∈l')→l=l'
 | [],[],_,_,_=>rfl
 | [],b::l',_,_,e=>by have:=(e b).2 (by simp); simp at this
 | a::l,[],_,_,e=>by have:=(e a).1 (by simp); simp at this
 | a::l,b::l',h1,h2,e=>by
  obtain ⟨p1,p2⟩:=List.pairwise_cons.1 h1;obtain ⟨q1,q2⟩:=List.pairwise_cons.1 h2;have hab:a=b:=by
   rcases List.mem_cons.1 ((e a).1 (by simp)) with r | r
   ·exact r
   ·rcases List.mem_cons.1 ((e b).2 (by simp)) with s | s
    ·exact s.symm
    ·exact absurd (h.trans _ _ _ (p1 b s) (q1 a r)) (h.irr a)
  subst hab
  congr 1
  refine Ys h p2 q2 fun x=>?_;constructor
  ·intro hx;rcases List.mem_cons.1 ((e x).1 (by simp [hx])) with r | r
   ·subst r; exact absurd (p1 x hx) (h.irr x)
   ·exact r
  ·intro hx;rcases List.mem_cons.1 ((e x).2 (by simp [hx])) with r | r
   ·subst r; exact absurd (q1 x hx) (h.irr x)
   ·exact r
theorem Ef.nodup (h:Ord c){l:List κ}(hs:Ef c l):l.Nodup:=hs.imp fun hh e=>by rw [e] at hh; exact h.irr _ hh
structure Can (c:κ→κ→Int)(f:κ→Rat)(l:List (κ×Rat)):Prop where
 srt:Ef c (l.map (·.1))
 val:∀ p∈l,p.2=f p.1∧p.2≠0
 out:∀ k,k∉l.map (·.1)→f k=0
end
structure CF where
 c:Rat
 s:Par→Rat
 t:Par×Par→Rat
def Ap (p q:Par):Par×Par:=if 0 < A8 p q then (q,p) else (p,q)
theorem Ta (p q:Par):Ap p q=Ap q p:=by
 unfold Ap;have h1:=Dp.sym p q;have h2:=Dp.sym q p;by_cases h:0 < A8 p q
 ·rw [if_pos h,if_neg (by omega)]
 ·rw [if_neg h];by_cases h':0 < A8 q p
  ·rw [if_pos h']
  ·rw [if_neg h'];have:=Dp.eq p q (by omega);rw [this]
def CF.zero:CF:=⟨0,fun _=>0,fun _=>0⟩
def CF.add (a b:CF):CF:=⟨a.c+b.c,fun p=>a.s p+b.s p,fun q=>a.t q+b.t q⟩
def CF.scale (k:Rat)(a:CF):CF:=⟨a.c*k,fun p=>a.s p*k,fun q=>a.t q*k⟩
def G3 (a b:CF)(q:Par×Par):Rat:=if 0 < A8 q.1 q.2 then 0 else if q.1=q.2 then 2*(a.s q.1*b.s q.1) else a.s q.1*b.s q.2+a.s q.2*b.s q.1
def CF.mul (a b:CF):CF:=⟨a.c*b.c,fun p=>b.s p*a.c+a.s p*b.c,fun q=>b.t q*a.c+a.t q*b.c+G3 a b q⟩
theorem CF.ext' {a b:CF}(h1:a.c=b.c)(h2:∀ p,a.s p=b.s p)(h3:∀ q,a.t q=b.t q):a=b:=by
 cases a; cases b; simp only at h1 h2 h3;rw [h1,funext h2,funext h3]
theorem Acz (a b:CF)(q:Par×Par):G3 a b q=G3 b a q:=by
 unfold G3; split
 ·rfl
 ·split <;> grind
theorem CF.mul_comm (a b:CF):a.mul b=b.mul a:=CF.ext' (by simp only [CF.mul]; grind) (fun p=>by simp only [CF.mul]; grind) (fun q=>by simp only [CF.mul]; rw [Acz]; grind)
theorem CF.mul_zero (a:CF):a.mul CF.zero=CF.zero:=by
 refine CF.ext' (by simp only [CF.mul,CF.zero]; grind) (fun p=>by simp only [CF.mul,CF.zero]; grind) (fun q=>?_);simp only [CF.mul,CF.zero,G3];split
 ·grind
 ·split <;> grind
end
section
variable {k:IntKind}{o:Nat}{t ti ts:TypeId}{xs:Array Value}
def An (p:Par):Value:=.agg #[.int .i64 p.1,.string (mkS p.2)]
def prV (q:Par×Par):Value:=.agg #[.int .i64 q.1.1,.string (mkS q.1.2),.int .i64 q.2.1,.string (mkS q.2.2)]
def Kk (f:Field):Bool×TypeId×Nat:=(f.name != "_",f.type,f.offset)
section
variable {P:Program}
theorem Hc {v:Value}(h:Jr P t=some false)(hv:xs[o]?=some v)(w:World):(part t xs o).run P w=.ok v w:=by
 simp [part,Dg h,hv]
theorem Cw {n:Nat}(h:Jr P t=some true)(hn:szB P t=some n)(w:World):(part t xs o).run P w=.ok (.agg (xs.extract o (o+n))) w:=by
 simp [part,Dg h,Bf hn]
theorem Ni (h:P.underlying t=some (.int k)):Jr P t=some false:=by unfold Jr; rw [h]
theorem M2 (h:P.underlying t=some .string):Jr P t=some false:=by unfold Jr; rw [h]
theorem Amp (a b:List UInt8):((mkS a).toList == (mkS b).toList)=decide (a=b):=I8 a b
theorem Q9 {A B:Type}{h:A→B}{fs:List A}{x y:B}(hf:fs.map h = [x,y]):∃ f g,fs = [f,g]:=by
 have h0:=congrArg List.length hf;simp only [List.length_map,List.length_cons,List.length_nil] at h0
 match fs,h0 with
 | [f,g],_=>exact ⟨f,g,rfl⟩
theorem H3 (hf:(P.fieldsOf t).toList.map Kk = [(true,ti,0),(true,ts,1)])(ht:P.underlying t=some (.struct (P.fieldsOf t)))(hp:P.stoodInHeld t=false)(hi:P.underlying ti=some (.int k))(hs:P.underlying ts=some .string)(d:Nat)(a b:Par)(w:World) :
  (Op.equalIn (d+2) t (An a) (An b)).run P w=.ok (decide (a=b)) w:=by
 unfold An;rw [run_equalIn_struct w (d+1) t _ _ ht hp];generalize (P.fieldsOf t).toList=fs at hf;obtain ⟨f,g,hfs⟩:=Q9 hf;subst hfs
 ·simp only [List.map_cons,List.map_nil,List.cons.injEq,Kk,Prod.mk.injEq,bne_iff_ne,ne_eq,and_true] at hf;obtain ⟨⟨n1,rfl,o1⟩,n2,rfl,o2⟩:=hf;obtain ⟨a1,a2⟩:=a;obtain ⟨b1,b2⟩:=b;simp only [Op.eqFields,ne_eq,n1,n2,not_false_eq_true,if_true,Sem.run_bind];rw [Hc (Ni hi) (v:=.int .i64 a1) (by rw [o1]; rfl),Result.andThen_ok,Hc (Ni hi) (v:=.int .i64 b1) (by rw [o1]; rfl),Result.andThen_ok,run_equalIn_int w d _ _ _ _ _ hi,Result.andThen_ok];by_cases e:a1=b1
  ·subst e;simp only [beq_self_eq_true,Bool.not_true,Bool.false_eq_true,if_false,Sem.run_bind];rw [Hc (M2 hs) (v:=.string (mkS a2)) (by rw [o2]; rfl),Result.andThen_ok,Hc (M2 hs) (v:=.string (mkS b2)) (by rw [o2]; rfl),Result.andThen_ok,run_equalIn_string w d _ _ _ hs,Result.andThen_ok,Amp];by_cases e2:a2=b2
   ·subst e2; simp
   ·simp [e2]
  ·have:(a1 == b1)=false:=by simpa using e
   simp [this,e]
theorem Af7 {t tp ti ts:TypeId}{k:IntKind}(hf:(P.fieldsOf t).toList.map Kk = [(true,tp,0),(true,tp,2)])(ht:P.underlying t=some (.struct (P.fieldsOf t)))(hp:P.stoodInHeld t=false)
  (hf':(P.fieldsOf tp).toList.map Kk = [(true,ti,0),(true,ts,1)]) (ht':P.underlying tp=some (.struct (P.fieldsOf tp))) (hp':P.stoodInHeld tp=false) (hsz:szB P tp=some 2) (hi:P.underlying ti=some (.int k)) (hs:P.underlying ts=some .string) (d:Nat) (a b:Par×Par) (w:World) :
  (Op.equalIn (d+3) t (prV a) (prV b)).run P w=.ok (decide (a=b)) w:=by
 have hag:Jr P tp=some true:=by unfold Jr; rw [ht']
 unfold prV;rw [run_equalIn_struct w (d+2) t _ _ ht hp];generalize (P.fieldsOf t).toList=fs at hf;obtain ⟨f,g,hfs⟩:=Q9 hf;subst hfs
 ·simp only [List.map_cons,List.map_nil,List.cons.injEq,Kk,Prod.mk.injEq,bne_iff_ne,ne_eq,and_true] at hf;obtain ⟨⟨n1,e1,o1⟩,n2,e2,o2⟩:=hf;obtain ⟨⟨a1,a2⟩,a3,a4⟩:=a;obtain ⟨⟨b1,b2⟩,b3,b4⟩:=b;simp only [Op.eqFields,ne_eq,n1,n2,not_false_eq_true,if_true,Sem.run_bind,e1,e2,o1,o2];rw [Cw hag hsz,Result.andThen_ok,Cw hag hsz,Result.andThen_ok];have q1:=H3 hf' ht' hp' hi hs d (a1,a2) (b1,b2) w;have q2:=H3 hf' ht' hp' hi hs d (a3,a4) (b3,b4) w;unfold An at q1 q2;have x1:(#[Value.int .i64 a1,.string (mkS a2),.int .i64 a3,.string (mkS a4)].extract 0 (0+2)) = #[.int .i64 a1,.string (mkS a2)]:=rfl;have x2:(#[Value.int .i64 b1,.string (mkS b2),.int .i64 b3,.string (mkS b4)].extract 0 (0+2)) = #[.int .i64 b1,.string (mkS b2)]:=rfl;have x3:(#[Value.int .i64 a1,.string (mkS a2),.int .i64 a3,.string (mkS a4)].extract 2 (2+2)) = #[.int .i64 a3,.string (mkS a4)]:=rfl;have x4:(#[Value.int .i64 b1,.string (mkS b2),.int .i64 b3,.string (mkS b4)].extract 2 (2+2)) = #[.int .i64 b3,.string (mkS b4)]:=rfl;simp only [x1,x2,q1,Result.andThen_ok];by_cases e:((a1,a2):Par)=(b1,b2)
  ·simp only [e,decide_true,Bool.not_true,Bool.false_eq_true,if_false,Sem.run_bind];rw [Cw hag hsz,Result.andThen_ok,Cw hag hsz,Result.andThen_ok];simp only [x3,x4,q2,Result.andThen_ok];by_cases e':((a3,a4):Par)=(b3,b4)
   ·simp [e']
   ·simp [e']
  ·simp [e]
theorem O1 (h:(∃ k,P.underlying t=some (.int k))∨P.underlying t=some .string)(e:Bool)(d:Nat)(v:Value)(w:World):(Instr.checkKey e (d+1) t v).run P w=.ok () w:=by
 unfold Instr.checkKey;rcases h with ⟨k,h⟩ | h <;> simp [run_underlying h]
theorem Gp (hf:(P.fieldsOf t).toList.map Kk = [(true,ti,0),(true,ts,1)])(ht:P.underlying t=some (.struct (P.fieldsOf t)))(hi:P.underlying ti=some (.int k))(hs:P.underlying ts=some .string)(e:Bool)(d:Nat)(a:Par)(w:World) :
  (Instr.checkKey e (d+2) t (An a)).run P w=.ok () w:=by
 unfold An;rw [Instr.checkKey];simp only [Sem.run_bind,run_underlying ht,Result.andThen_ok];rw [← Array.forIn_toList];generalize (P.fieldsOf t).toList=fs at hf;obtain ⟨f,g,hfs⟩:=Q9 hf;subst hfs
 ·simp only [List.map_cons,List.map_nil,List.cons.injEq,Kk,Prod.mk.injEq,bne_iff_ne,ne_eq,and_true] at hf;obtain ⟨⟨n1,e1,o1⟩,n2,e2,o2⟩:=hf;simp only [List.forIn_cons,List.forIn_nil,ne_eq,n1,n2,not_false_eq_true,if_true,Sem.run_bind,e1,e2,o1,o2];rw [Hc (Ni hi) (v:=.int .i64 a.1) rfl,Result.andThen_ok,O1 (.inl ⟨k,hi⟩)];simp only [Result.andThen_ok,Sem.run_pure,Sem.run_bind];rw [Hc (M2 hs) (v:=.string (mkS a.2)) rfl,Result.andThen_ok,O1 (.inr hs)];simp
theorem Aax {t tp ti ts:TypeId}{k:IntKind}(hf:(P.fieldsOf t).toList.map Kk = [(true,tp,0),(true,tp,2)])(ht:P.underlying t=some (.struct (P.fieldsOf t)))
  (hf':(P.fieldsOf tp).toList.map Kk = [(true,ti,0),(true,ts,1)]) (ht':P.underlying tp=some (.struct (P.fieldsOf tp))) (hsz:szB P tp=some 2) (hi:P.underlying ti=some (.int k)) (hs:P.underlying ts=some .string) (e:Bool) (d:Nat) (a:Par×Par) (w:World) :
  (Instr.checkKey e (d+3) t (prV a)).run P w=.ok () w:=by
 have hag:Jr P tp=some true:=by unfold Jr; rw [ht']
 unfold prV;rw [Instr.checkKey];simp only [Sem.run_bind,run_underlying ht,Result.andThen_ok];rw [← Array.forIn_toList];generalize (P.fieldsOf t).toList=fs at hf;obtain ⟨f,g,hfs⟩:=Q9 hf;subst hfs
 ·simp only [List.map_cons,List.map_nil,List.cons.injEq,Kk,Prod.mk.injEq,bne_iff_ne,ne_eq,and_true] at hf;obtain ⟨⟨n1,e1,o1⟩,n2,e2,o2⟩:=hf;have q1:=Gp hf' ht' hi hs e d a.1 w;have q2:=Gp hf' ht' hi hs e d a.2 w;unfold An at q1 q2;simp only [List.forIn_cons,List.forIn_nil,ne_eq,n1,n2,not_false_eq_true,if_true,Sem.run_bind,e1,e2,o1,o2];rw [Cw hag hsz,Result.andThen_ok];have x1:(#[Value.int .i64 a.1.1,.string (mkS a.1.2),.int .i64 a.2.1,.string (mkS a.2.2)].extract 0 (0+2)) = #[.int .i64 a.1.1,.string (mkS a.1.2)]:=rfl;have x2:(#[Value.int .i64 a.1.1,.string (mkS a.1.2),.int .i64 a.2.1,.string (mkS a.2.2)].extract 2 (2+2)) = #[.int .i64 a.2.1,.string (mkS a.2.2)]:=rfl;rw [x1,q1];simp only [Result.andThen_ok,Sem.run_pure,Sem.run_bind];rw [Cw hag hsz,Result.andThen_ok,x2,q2];simp
theorem Aij (a b:Par)(h:An a=An b):a=b:=by
 unfold An at h;simp only [Value.agg.injEq,Array.mk.injEq,List.cons.injEq,Value.int.injEq,Value.string.injEq,true_and,and_true] at h;exact Prod.ext h.1 (Wx.1 h.2)
theorem Adl (a b:Par×Par)(h:prV a=prV b):a=b:=by
 unfold prV at h;simp only [Value.agg.injEq,Array.mk.injEq,List.cons.injEq,Value.int.injEq,Value.string.injEq,true_and,and_true] at h;exact Prod.ext (Prod.ext h.1 (Wx.1 h.2.1)) (Prod.ext h.2.2.1 (Wx.1 h.2.2.2))
theorem Z4 (d:Nat)(k:IntKind)(z:Int):Instr.sameBits d (.int k z) (.int k z)=true:=by unfold Instr.sameBits; simp
theorem Zj (d:Nat)(z:ByteArray):Instr.sameBits d (.string z) (.string z)=true:=by
 obtain ⟨⟨l⟩⟩:=z;have:((⟨⟨l⟩⟩:ByteArray) == ⟨⟨l⟩⟩)=true:=by rw [beq_toListBytes]; simp
 unfold Instr.sameBits; exact this
theorem Ah2 (a:Par):Instr.sameBits 10000 (An a) (An a)=true:=by
 show Instr.sameBits (9999+1) _ _=true;unfold An Instr.sameBits;simp [Z4,Zj]
theorem Adq (a:Par×Par):Instr.sameBits 10000 (prV a) (prV a)=true:=by
 show Instr.sameBits (9999+1) _ _=true;unfold prV Instr.sameBits;simp [Z4,Zj]
end
theorem Bt : Rr prog 79 An :=
  ⟨fun a b w => H3 (P := prog) (t := 79) (ti := 3) (ts := 9) (k := .i64) (by kernel_rfl) (by kernel_rfl) (by kernel_rfl) (by kernel_rfl) (by kernel_rfl) 9998 a b w,
   ⟨_, (by kernel_rfl : prog.underlying 79 = some (.struct (prog.fieldsOf 79))), .inl fun _ _ => rfl⟩,
   fun e a w => Gp (P := prog) (t := 79) (ti := 3) (ts := 9) (k := .i64) (by kernel_rfl) (by kernel_rfl) (by kernel_rfl) (by kernel_rfl) e 9998 a w, Ah2, Aij⟩
theorem Aiy : Rr prog 228 prV :=
  ⟨fun a b w => Af7 (P := prog) (t := 228) (tp := 79) (ti := 3) (ts := 9) (k := .i64) (by kernel_rfl) (by kernel_rfl) (by kernel_rfl) (by kernel_rfl) (by kernel_rfl) (by kernel_rfl) (by kernel_rfl) (by kernel_rfl) (by kernel_rfl) 9997 a b w,
   ⟨_, (by kernel_rfl : prog.underlying 228 = some (.struct (prog.fieldsOf 228))), .inl fun _ _ => rfl⟩,
   fun e a w => Aax (P := prog) (t := 228) (tp := 79) (ti := 3) (ts := 9) (k := .i64) (by kernel_rfl) (by kernel_rfl) (by kernel_rfl) (by kernel_rfl) (by kernel_rfl) (by kernel_rfl) (by kernel_rfl) e 9997 a w, Adq, Adl⟩
end
section
section
variable {P:Program}
theorem Aa0 {t e ti ts:TypeId}{k:IntKind}(ht:P.underlying t=some (.array 2 e))(hi:(P.info? e).isSome=true)(hc:P.cellsOf e=2)(hsz:szB P e=some 2)
  (hf':(P.fieldsOf e).toList.map Kk = [(true,ti,0),(true,ts,1)]) (ht':P.underlying e=some (.struct (P.fieldsOf e))) (hp':P.stoodInHeld e=false) (hti:P.underlying ti=some (.int k)) (hs:P.underlying ts=some .string) (d:Nat) (a b:Par×Par) (w:World) :
  (Op.equalIn (d+3) t (prV a) (prV b)).run P w=.ok (decide (a=b)) w:=by
 have hag:Jr P e=some true:=by unfold Jr; rw [ht']
 obtain ⟨i,hi⟩:=Option.isSome_iff_exists.1 hi;unfold prV;rw [run_equalIn_array w (d+2) _ _ ht hi,hc];obtain ⟨⟨a1,a2⟩,a3,a4⟩:=a;obtain ⟨⟨b1,b2⟩,b3,b4⟩:=b;rw [show List.range 2 = [0,1] from rfl];simp only [Op.eqItems,Sem.run_bind,Nat.zero_mul,Nat.one_mul];rw [Cw hag hsz,Result.andThen_ok,Cw hag hsz,Result.andThen_ok];have q1:=H3 hf' ht' hp' hti hs d (a1,a2) (b1,b2) w;have q2:=H3 hf' ht' hp' hti hs d (a3,a4) (b3,b4) w;unfold An at q1 q2;have x1:(#[Value.int .i64 a1,.string (mkS a2),.int .i64 a3,.string (mkS a4)].extract 0 (0+2)) = #[.int .i64 a1,.string (mkS a2)]:=rfl;have x2:(#[Value.int .i64 b1,.string (mkS b2),.int .i64 b3,.string (mkS b4)].extract 0 (0+2)) = #[.int .i64 b1,.string (mkS b2)]:=rfl;have x3:(#[Value.int .i64 a1,.string (mkS a2),.int .i64 a3,.string (mkS a4)].extract 2 (2+2)) = #[.int .i64 a3,.string (mkS a4)]:=rfl;have x4:(#[Value.int .i64 b1,.string (mkS b2),.int .i64 b3,.string (mkS b4)].extract 2 (2+2)) = #[.int .i64 b3,.string (mkS b4)]:=rfl;simp only [x1,x2,q1,Result.andThen_ok];by_cases e:((a1,a2):Par)=(b1,b2)
 ·simp only [e,decide_true,Bool.not_true,Bool.false_eq_true,if_false,Sem.run_bind];rw [Cw hag hsz,Result.andThen_ok,Cw hag hsz,Result.andThen_ok];simp only [x3,x4,q2,Result.andThen_ok];by_cases e':((a3,a4):Par)=(b3,b4)
  ·simp [e']
  ·simp [e']
 ·simp [e]
theorem Zg {t e ti ts:TypeId}{k:IntKind}(ht:P.underlying t=some (.array 2 e))(hsz:szB P e=some 2)
  (hf':(P.fieldsOf e).toList.map Kk = [(true,ti,0),(true,ts,1)]) (ht':P.underlying e=some (.struct (P.fieldsOf e))) (hti:P.underlying ti=some (.int k)) (hs:P.underlying ts=some .string) (emp:Bool) (d:Nat) (a:Par×Par) (w:World) :
  (Instr.checkKey emp (d+3) t (prV a)).run P w=.ok () w:=by
 have hag:Jr P e=some true:=by unfold Jr; rw [ht']
 unfold prV;rw [Instr.checkKey];simp only [Sem.run_bind,run_underlying ht,Result.andThen_ok];have q1:=Gp hf' ht' hti hs emp d a.1 w;have q2:=Gp hf' ht' hti hs emp d a.2 w;unfold An at q1 q2;have x1:(#[Value.int .i64 a.1.1,.string (mkS a.1.2),.int .i64 a.2.1,.string (mkS a.2.2)].extract 0 (0+2)) = #[.int .i64 a.1.1,.string (mkS a.1.2)]:=rfl;have x2:(#[Value.int .i64 a.1.1,.string (mkS a.1.2),.int .i64 a.2.1,.string (mkS a.2.2)].extract 2 (2+2)) = #[.int .i64 a.2.1,.string (mkS a.2.2)]:=rfl;simp only [Std.Legacy.Range.forIn_eq_forIn_range',Std.Legacy.Range.size,Nat.sub_zero,Nat.add_one_sub_one,Nat.div_one,show List.range' 0 2 1 = [0,1] from rfl,List.forIn_cons,List.forIn_nil,Sem.run_bind,Bf hsz,Result.andThen_ok,Nat.zero_mul,Nat.one_mul];rw [Cw hag hsz,Result.andThen_ok,x1,q1];simp only [Result.andThen_ok,Sem.run_pure,Sem.run_bind,Bf hsz,Nat.one_mul];rw [Cw hag hsz,Result.andThen_ok,x2,q2];simp
end
theorem G1 : Rr prog 206 prV :=
  ⟨fun a b w => Aa0 (P := prog) (t := 206) (e := 79) (ti := 3) (ts := 9) (k := .i64) (by kernel_rfl) (by kernel_rfl) (by kernel_rfl) (by kernel_rfl) (by kernel_rfl) (by kernel_rfl) (by kernel_rfl) (by kernel_rfl) (by kernel_rfl) 9997 a b w,
   ⟨_, (by kernel_rfl : prog.underlying 206 = some (.array 2 79)), .inl fun _ _ => rfl⟩,
   fun e a w => Zg (P := prog) (t := 206) (e := 79) (ti := 3) (ts := 9) (k := .i64) (by kernel_rfl) (by kernel_rfl) (by kernel_rfl) (by kernel_rfl) (by kernel_rfl) (by kernel_rfl) e 9997 a w, Adq, Adl⟩
end
section
variable [Cc]
open Go.MapKept
theorem Pd {α β:Type}(f:α→β):∀ {l:List α} {x y:α},(l.map f).Nodup→x∈l→y∈l→f x=f y→x=y
 | [],_,_,_,h,_,_=>by simp at h
 | a::l,x,y,hn,hx,hy,e=>by
  simp only [List.map_cons,List.nodup_cons] at hn;rcases List.mem_cons.1 hx with e0 | hx
  ·subst e0;rcases List.mem_cons.1 hy with e' | hy
   ·exact e'.symm
   ·exact absurd (List.mem_map.2 ⟨y,hy,e.symm⟩) hn.1
  ·rcases List.mem_cons.1 hy with e' | hy
   ·rw [e'] at e; exact absurd (List.mem_map.2 ⟨x,hx,e⟩) hn.1
   ·exact Pd f hn.2 hx hy e
theorem Sc {α β:Type}(f:α→β):∀ {L l:List α},(L.map f).Nodup→(∀ p∈L,p∈l)→L.length≤l.length
 | [],_,_,_=>Nat.zero_le _
 | a::L,l,hn,hs=>by
  simp only [List.map_cons,List.nodup_cons] at hn;obtain ⟨s,t,rfl⟩:=List.append_of_mem (hs a (by simp));have:=Sc f (L:=L) (l:=s++t) hn.2 (fun p hp=>by
   have h1:=hs p (by simp [hp]);have hne:p≠a:=fun e=>hn.1 (by rw [← e]; exact List.mem_map.2 ⟨p,hp,rfl⟩);simp only [List.mem_append,List.mem_cons] at h1 ⊢;rcases h1 with h | h | h
   ·exact .inl h
   ·exact absurd h hne
   ·exact .inr h)
  simp only [List.length_append,List.length_cons] at this ⊢;omega
section
variable {κ:Type} [DecidableEq κ] {enc:κ→Value}
structure Eq (enc:κ→Value)(es:Array MapEntry)(l:List (κ×Value))(D:List MapEntry)(L:List (κ×Value)):Prop where
 it:Qr es D
 kv:D.map (fun e=>(e.key,e.val))=L.map (fun p=>(enc p.1,p.2))
 sub:∀ p∈L,p∈l
 nod:(L.map (·.1)).Nodup
theorem Eq.nil (es:Array MapEntry)(l:List (κ×Value)):Eq enc es l [] []:=⟨Qr.nil es,rfl,by simp,by simp⟩
theorem Eq.snoc (hinj:∀ a b,enc a=enc b→a=b){es:Array MapEntry}{l:List (κ×Value)}{D:List MapEntry}{L:List (κ×Value)}(hl:es.toList.map (fun e=>(e.key,e.val))=l.map (fun p=>(enc p.1,p.2)))(hn:(l.map (·.1)).Nodup)
  (h:Eq enc es l D L) {e:MapEntry} (he:e∈es.toList) (hi:Qr es (D++[e])):∃ p,p∈l∧e.key=enc p.1∧e.val=p.2∧p.1∉L.map (·.1)∧Eq enc es l (D++[e]) (L++[p]):=by
 have h1:(e.key,e.val)∈l.map (fun p=>(enc p.1,p.2)):=by rw [← hl]; exact List.mem_map.2 ⟨e,he,rfl⟩
 obtain ⟨p,hp,hpe⟩:=List.mem_map.1 h1;simp only [Prod.mk.injEq] at hpe;have hkn:(es.toList.map (·.key)).Nodup:=by
  have e1:es.toList.map (·.key)=(l.map (·.1)).map enc:=by
   have:=congrArg (List.map (·.1)) hl;simpa [Function.comp_def] using this
  rw [e1];exact List.pairwise_map.2 (hn.imp fun hne e'=>hne (hinj _ _ e'))
 have hnew:p.1∉L.map (·.1):=by
  intro hm;obtain ⟨q,hq,hqp⟩:=List.mem_map.1 hm;have hqe:q=p:=Pd (·.1) hn (h.sub q hq) hp hqp;subst hqe;have h2:(enc q.1,q.2)∈D.map (fun e=>(e.key,e.val)):=by rw [h.kv]; exact List.mem_map.2 ⟨q,hq,rfl⟩
  obtain ⟨e',he',hee⟩:=List.mem_map.1 h2;simp only [Prod.mk.injEq] at hee;have:e'=e:=Pd (·.key) hkn (h.it.sub e' he') he (hee.1.trans hpe.1);subst this;have:=hi.nod;rw [List.map_append,List.nodup_append] at this;exact this.2.2 e'.born (List.mem_map.2 ⟨e',he',rfl⟩) e'.born (by simp) rfl
 refine ⟨p,hp,hpe.1.symm,hpe.2.symm,hnew,hi,?_,fun q hq=>?_,?_⟩
 ·rw [List.map_append,List.map_append,h.kv]; simp [hpe.1,hpe.2]
 ·rcases List.mem_append.1 hq with hq | hq
  ·exact h.sub q hq
  ·simp at hq; subst hq; exact hp
 ·rw [List.map_append,List.nodup_append];exact ⟨h.nod,by simp,fun a ha b hb e'=>hnew (by simp at hb; rw [← hb,← e']; exact ha)⟩
theorem Eq.all (hinj:∀ a b,enc a=enc b→a=b){es:Array MapEntry}{l:List (κ×Value)}{D:List MapEntry}{L:List (κ×Value)}(hl:es.toList.map (fun e=>(e.key,e.val))=l.map (fun p=>(enc p.1,p.2)))
  (h:Eq enc es l D L) (hp:D.Perm es.toList):∀ p∈l,p∈L:=by
 intro p hpl;have h1:(enc p.1,p.2)∈es.toList.map (fun e=>(e.key,e.val)):=by rw [hl]; exact List.mem_map.2 ⟨p,hpl,rfl⟩
 obtain ⟨e,he,hee⟩:=List.mem_map.1 h1;have h2:(e.key,e.val)∈L.map (fun p=>(enc p.1,p.2)):=by rw [← h.kv]; exact List.mem_map.2 ⟨e,hp.mem_iff.2 he,rfl⟩
 obtain ⟨q,hq,hqe⟩:=List.mem_map.1 h2;simp only [Prod.mk.injEq] at hqe hee;have:q=p:=Prod.ext (hinj _ _ (hqe.1.trans hee.1)) (hqe.2.trans hee.2);subst this; exact hq
theorem Eq.len {es:Array MapEntry}{l:List (κ×Value)}{D:List MapEntry}{L:List (κ×Value)}(h:Eq enc es l D L):L.length≤l.length:=Sc (·.1) h.nod h.sub
end
section rules
variable {P:Program} [Ba P] {fn:Func} {Post:B0} {st:List KI×S} {u m:PH}
variable {κ:Type} [DecidableEq κ] {enc:κ→Value}
theorem G.mapNextL (hinj:∀ a b,enc a=enc b→a=b)(it g:Nat)(es:Array MapEntry)(clock:Nat)(l:List (κ×Value))(D:List MapEntry)(L:List (κ×Value))(h:Kn P (adv P st)=.next (.pointer (some ⟨it,0,none⟩)))(hdr:Tc (adv P st)=true)
  (hi:m it=some (.mapIter (some g) clock (Ar D) clock)) (hg:u g=some (.map es clock)∨m g=some (.map es clock)) (hs:Stamped es clock) (hl:es.toList.map (fun e=>(e.key,e.val))=l.map (fun p=>(enc p.1,p.2))) (hn:(l.map (·.1)).Nodup) (hS:Eq enc es l D L)
  (k0:(∀ p∈l,p∈L)→G P fn Post (nx (adv P st) (.tuple #[.bool false])) u m)
  (k1:∀ p e,p∈l→p.1∉L.map (·.1)→e∈es.toList→e.key=enc p.1→e.val=p.2→Eq enc es l (D++[e]) (L++[p])→G P fn Post (nx (adv P st) (.tuple #[.bool true,enc p.1,p.2])) u (m.upd it (.mapIter (some g) clock (Ar (D++[e])) clock))):G P fn Post st u m:=by
 refine G.mapNext it g es clock D h hdr hi hg hs hS.it (fun hp=>k0 (hS.all hinj hl hp)) (fun e he hi'=>?_);obtain ⟨p,h1,h2,h3,h4,h5⟩:=hS.snoc hinj hl hn he hi';rw [h2,h3];exact k1 p e h1 h4 he h2 h3 h5
end rules
end
section
open Go.RowKit
variable {k n:Nat}{q:Rat}{s:Src}{ts:List Int}{u:PH}
theorem Ap1 {x:Int}(h1:-9223372036854775808≤x)(h2:x≤9223372036854775807)(hn:0 < n)(hn2:n≤1000000) :
  Fn0 prog 157 [.int .i64 x,.int .i64 (n:Int)] u fun v _=>∃ r:Nat,v=.int .i64 (r:Int)∧r < n:=by
 refine Fn0.o func157 ?_;refine G.lF (n:Int) 1 ?_;have a1:=Int.tmod_lt_of_pos x (show (0:Int) < n by omega);have a2:=Int.lt_tmod_of_pos x (show (0:Int) < n by omega);refine G.remZ x (n:Int) (x.tmod n) (by kernel_rfl) (by omega) (by omega) rfl ?_;refine G.add (x.tmod n) (n:Int) (x.tmod n+n) (by kernel_rfl) rfl (by omega) (by omega) ?_;obtain ⟨y,hy⟩:∃ y:Nat,x.tmod n+n=(y:Int):=⟨(x.tmod n+n).toNat,by omega⟩;refine G.remZ (x.tmod n+n) (n:Int) ((y % n:Nat):Int) (by kernel_rfl) (by omega) (by omega) (by rw [hy,Int.tmod_eq_emod_of_nonneg (by omega)]; rfl) ?_;exact G.r _ ⟨rfl,y % n,rfl,Nat.mod_lt _ hn⟩
def Apq (s:Src)(n:Nat)(v:Value)(m':PH):Prop:=∃ r k:Nat,v=.int .i64 (r:Int)∧r < n∧k≤s.n∧m'=s.M k
theorem Ia (h:H0 u s ts)(hk:k≤s.n)(hn:0 < n)(hn2:n≤1000000) :
  Ai prog 73 [s.ptr,.int .i64 (n:Int)] u (s.M k) fun v _ m'=>Apq s n v m':=by
 have hsn:=h.n;have hle:=h.le;refine Ai.o func73 ?_;refine G.f 97 s.g 0 1 1 ?_;refine G.lM none s.g (0+1) (.int .i64 (k:Int)) (s.cell1 k) ?_;refine G.f 97 s.g 0 0 0 ?_;refine G.lM none s.g (0+0) (.slice s.a s.n s.c) (s.cell0 k) ?_;by_cases hlt:k < s.n
 ·refine G.hF (k:Int) (s.n:Int) ?_;refine G.f 97 s.g 0 1 1 ?_;refine G.lM none s.g (0+1) (.int .i64 (k:Int)) (s.cell1 k) ?_;refine G.i k ?_;refine G.f 97 s.g 0 1 1 ?_;refine G.storeM 1 s.g (0+1) 97 [.slice s.a s.n s.c,.int .i64 (k:Int)] (.int .i64 ((k+1:Nat):Int)) (by kernel_rfl) (Ac _ _ _) (fun x hx=>by simp at hx; rcases hx with rfl | rfl <;> rfl) (by simp) rfl rfl ?_
  have e:(s.M k).upd s.g (.cells (([Value.slice s.a s.n s.c,.int .i64 (k:Int)].take (0+1))++(Value.int .i64 ((k+1:Nat):Int)).cells.toList++([Value.slice s.a s.n s.c,.int .i64 (k:Int)].drop (0+1+1))).toArray 97 (0,0))=s.M (k+1):=by
   unfold Src.M; rw [Dh]; rfl
  rw [e];refine G.f 97 s.g 0 0 0 ?_;refine G.lM none s.g (0+0) (.slice s.a s.n s.c) (s.cell0 (k+1)) ?_;refine G.f 97 s.g 0 1 1 ?_;refine G.lM none s.g (0+1) (.int .i64 ((k+1:Nat):Int)) (s.cell1 (k+1)) ?_;refine G.s ((k+1:Nat):Int) 1 (k:Int) ?_;have hkt:k < ts.length:=by omega
  obtain ⟨b,off,ea,eb⟩:=Ab.at' h.list (j:=k) (e:=.int .i64 ts[k]) (by simp [Dx,List.getElem?_eq_getElem hkt]);obtain ⟨g,a,n',c⟩:=s;simp only at ea hlt hk hsn;subst ea;refine G.a b off n' c k 1 hlt ?_;refine G.lU none b (off+k*1) (.int .i64 ts[k]) eb ?_;refine G.c call157 (Ap1 (h.lo _ (List.getElem_mem hkt)) (h.hi _ (List.getElem_mem hkt)) hn hn2) ?_;rintro v1 u1 l1 ⟨r,rfl,hr⟩;exact G.r _ ⟨r,k+1,rfl,hr,by dsimp only; omega,rfl⟩
 ·refine G.hT (k:Int) (s.n:Int) ?_;exact G.r (.int .i64 0) ⟨0,k,rfl,hn,hk,rfl⟩
theorem Aet {lo hi:Int}(h:H0 u s ts)(hk:k≤s.n)(hlo:-1000000≤lo)(hlo2:lo≤1000000)(hn:hi - lo+1=(n:Int))(hn0:0 < n)(hn2:n≤1000000) :
  Ai prog 156 [s.ptr,.int .i64 lo,.int .i64 hi] u (s.M k) fun v _ m'=>∃ (r:Nat) (k':Nat),v=.int .i64 (lo+(r:Int))∧r < n∧k'≤s.n∧m'=s.M k':=by
 refine Ai.o func156 ?_;refine G.sub hi lo (hi - lo) (by kernel_rfl) rfl (by omega) (by omega) ?_;refine G.add (hi - lo) 1 (n:Int) (by kernel_rfl) hn (by omega) (by omega) ?_;refine G.A call73 (Ia h hk hn0 hn2) ?_;rintro v1 u1 m1 l1 ⟨r,k',rfl,hr,hk',rfl⟩ _;rw [C2];refine G.add lo (r:Int) (lo+(r:Int)) (by kernel_rfl) rfl (by omega) (by omega) ?_;exact G.r _ ⟨r,k',rfl,hr,hk',rfl⟩
theorem Za {v:Value}{L:List Int}(h:H0 u s ts)(hk:k≤s.n)(hL:Ab u v 1 (Dx L))(hn0:0 < L.length)(hn2:L.length≤1000000) :
  Ai prog 104 [s.ptr,v] u (s.M k) fun v _ m'=>∃ z∈L,∃ k':Nat,v=.int .i64 z∧k'≤s.n∧m'=s.M k':=by
 obtain ⟨a,c,rfl⟩:=hL.opn;rw [B1] at hL ⊢;refine Ai.o func104 ?_;refine G.A call73 (Ia h hk hn0 hn2) ?_;rintro v1 u1 m1 l1 ⟨r,k',rfl,hr,hk',rfl⟩ _;rw [C2];obtain ⟨b,off,rfl,e⟩:=Ab.at' (hL.mono l1) (j:=r) (e:=.int .i64 L[r]) (by simp [Dx,List.getElem?_eq_getElem hr]);refine G.a b off L.length c r 1 hr ?_;refine G.lU none b (off+r*1) (.int .i64 L[r]) e ?_;exact G.r _ ⟨L[r],List.getElem_mem hr,k',rfl,hk',rfl⟩
structure SmR (q:Rat):Prop where
 num:q.num.natAbs≤9
 den:q.den ∣ 12
theorem SmR.le (h:SmR q):q.den≤12:=Nat.le_of_dvd (by omega) h.den
theorem SmR.tx (h:SmR q):Tx q:=⟨Nat.le_trans (Ed (k:=2) (by omega) (by have:=h.num; omega)) (by omega),Nat.le_trans (Ed (k:=2) (by omega) (by have:=h.le; omega)) (by omega)⟩
end
section
open Go.RowKit
section rules
variable [Cc] {P:Program} [Ba P] {fn:Func} {Post:B0} {st:List KI×S} {u m:PH}
theorem G.appendM (e:TypeId)(sz bt:Nat)(z:Value)(m0:PH)(es xs:List Value)(v:Value)(b off n c:Nat)(h:Al P (adv P st)=.app (some (e,sz,bt,z)) true [v,.slice (some ⟨b,off,none⟩) n c])(hz:z.cells.toList.all Be=true)(hzs:z.cells.size=sz)(hsz:0 < sz)
  (ha:Ae m0 m v e sz es) (hx:El m b off sz xs) (ho:A3 sz xs) (hn:xs.length=n) (hn0:0 < n) (hb:(es.length+n)*bt≤140737488355328) (hb2:es.length+n≤9223372036854775807)
  (k:∀ v' m',Ae m0 m' v' e sz (es++xs)→G P fn Post (nx (adv P st) v') u m'):G P fn Post st u m:=by
 refine G.big (K:=fun v' u' m'=>u'=u∧Ae m0 m' v' e sz (es++xs)) h (by simp) (fun env op hv=>(Dl (P:=P) (o:=⟨none,op,0, "",#[],none⟩) hv).2.1) (.inr fun env op hv=>(Dl (P:=P) (o:=⟨none,op,0, "",#[],none⟩) hv).1) (fun env o hview w hgd=>?_) (fun v' u' m' _ hk=>?_)
 ·obtain ⟨_,_,t,hi,hex⟩:=Dl (P:=P) hview;obtain ⟨v',w',m',h1,h2,h3,h4⟩:=Nm (P:=P) m0 es xs v b off n c o.type hi hz hzs hsz ha ho hn hn0 hb hb2 hgd (hx.cells hsz ho hgd.pm);refine Bq (w':=w') (v:=v') ?_ ⟨u,m',h2,h3,rfl,h4⟩;rw [hex w,h1]; rfl
 ·obtain ⟨rfl,hk⟩:=hk;exact k v' m' hk
end rules
theorem Src.h0 (s:Src)(k k':Nat)(g:Nat):s.M k g=none∨s.M k' g≠none:=by
 by_cases e:g=s.g
 ·subst e; right; unfold Src.M; rw [Ac]; simp
 ·left; unfold Src.M; rw [Ad _ _ e]; rfl
theorem Alv {u:PH}{v:Value}{ts:List Int}(h:Ab u v 1 (Dx ts))(hl:ts.length≤600)(h1:∀ t∈ts,-9223372036854775808≤t)(h2:∀ t∈ts,t≤9223372036854775807) :
  Ai prog 9 [v] u PH.mt fun v' u' m'=>∃ s:Src,v'=s.ptr∧m'=s.M 0∧H0 u' s ts:=by
 have hcap:∃ a c,v=.slice a ts.length c∧ts.length≤c:=by
  obtain ⟨a,c,e1,e2,_⟩:=h;rw [B1] at e1 e2;exact ⟨a,c,e1,e2⟩
 obtain ⟨a,c,rfl,hcap⟩:=hcap;refine Ai.o func9 ?_;refine G.minI [3,3] (ts.length:Int) 600 (ts.length:Int) (by kernel_rfl) (by omega) ?_;refine G.sliceTo 1 a ts.length c ts.length (by kernel_rfl) hcap ?_;refine G.pub 1006 97 [.slice a ts.length c,.int .i64 0] (by kernel_rfl) (by kernel_rfl) ?_;intro g hu hm;exact G.r (.pointer (some ⟨g,0,none⟩)) ⟨⟨g,a,ts.length,c⟩,rfl,rfl,h,rfl,hl,h1,h2⟩
theorem Src.bag0 (s:Src)(k:Nat){l:List Arr}(h:Bag PH.mt l):Bag (s.M k) (s.arr k::l):=by
 have:=Src.at (s:=s) (k:=k) (m0:=PH.mt) rfl;rw [C2] at this;exact ⟨PH.mt,this,h⟩
theorem Y3 {o l:Arr}{rows:List Arr}:(l::o::rows).Perm (o::(rows++[l])):=by
 refine (List.Perm.swap _ _ _).trans (List.Perm.cons _ ?_);exact (List.perm_append_singleton l rows).symm
theorem Ak7 {M:List (List Rat)}{q:List Rat}(i:Nat):gM (M++[q]) i=if i < M.length then gM M i else if i=M.length then q else []:=by
 unfold gM;rw [List.getD_eq_getElem?_getD];by_cases h1:i < M.length
 ·rw [if_pos h1,List.getElem?_append_left h1,List.getD_eq_getElem?_getD]
 ·rw [if_neg h1,List.getElem?_append_right (by omega)];by_cases h2:i=M.length
  ·rw [if_pos h2,h2,Nat.sub_self]; rfl
  ·rw [if_neg h2,List.getElem?_eq_none (by simp; omega)]; rfl
end
section
open Go.RowKit
variable {l o s:Arr}{rows:List Arr}
theorem Oe (z:Int):Af (z:Rat)=Lib.itoa z:=by
 have h1:((z:Int):Rat).den=1:=by simp
 have h2:((z:Int):Rat).num=z:=by simp
 rw [Af,if_pos h1,h2]
theorem Afh :(s::l::o::rows).Perm (s::o::(rows++[l])):=List.Perm.cons _ Y3
theorem Afg :(l::s::o::rows).Perm (s::o::(rows++[l])):=(List.Perm.swap _ _ _).trans Afh
theorem Zc {rows:List (Value×List Value)}{i:Nat}{r r':Value×List Value}(h:rows[i]?=some r)(e:r'.1=r.1):(rows.set i r').map (·.1)=rows.map (·.1):=by
 rw [List.map_set];apply List.ext_getElem?;intro j;rw [List.getElem?_set];split
 ·rename_i e'; subst e';have hlt:i < rows.length:=by
   rcases Nat.lt_or_ge i rows.length with h' | h'
   ·exact h'
   ·rw [List.getElem?_eq_none h'] at h; cases h
  rw [if_pos (by simpa using hlt),List.getElem?_map,h,e]; rfl
 ·rfl
end
section
open Go.RowKit
theorem Ahw:Af 2 = [50]:=by
 have:Af ((2:Int):Rat)=Lib.itoa 2:=Oe 2;rw [show ((2:Int):Rat)=2 from by decide] at this;rw [this,Cz (by omega)]; exact Lib.decDigits_one (by omega)
end
section
open Go.RowKit
def T12 (q:Rat)(N:Nat):Prop:=∃ k:Int,q=Rat.divInt k 12∧k.natAbs≤N
theorem SmR.t12 {q:Rat}(h:SmR q):T12 q 108:=by
 obtain ⟨c,hc⟩:=h.den;refine ⟨q.num*(c:Int),?_,?_⟩
 ·have hd:=q.den_pos;have hc0:c≠0:=fun e=>by rw [e] at hc; simp at hc
  have h1:(12:Int)=(q.den:Int)*(c:Int):=by rw [← Int.natCast_mul,← hc]; rfl
  rw [h1,Rat.divInt_mul_right (by omega),Rat.num_divInt_den]
 ·have h1:=h.num;have h2:c≤12:=by
   have hd:=q.den_pos;have:1*c≤q.den*c:=Nat.mul_le_mul_right _ hd;omega
  rw [Int.natAbs_mul,Int.natAbs_natCast];have:q.num.natAbs*c≤9*12:=Nat.mul_le_mul h1 h2;omega
theorem Anj {n:Nat}(f:Nat→Rat){j:Nat}(hj:j < n):gR ((List.range n).map f) j=f j:=by
 unfold gR;rw [List.getD_eq_getElem?_getD,List.getElem?_map,List.getElem?_range hj]; rfl
end
section
variable {F G:CF}{M N d e:Nat}{a b k q r:Rat}
def Dn (d N:Nat)(q:Rat):Prop:=∃ k:Int,q*((12 ^ d:Nat):Rat)=(k:Rat)∧k.natAbs≤N
theorem W7 (d:Nat):0 < 12 ^ d:=Nat.pow_pos (by omega)
theorem Ao8 (d:Nat):((12 ^ d:Nat):Rat)≠0:=by
 intro h;have h1:((12 ^ d:Nat):Rat)=((0:Nat):Rat):=h;have:=Rat.natCast_inj.1 h1;have:=W7 d;omega
theorem Dn.mono (h:Dn d N q)(hm:N≤M):Dn d M q:=by
 obtain ⟨k,h1,h2⟩:=h;exact ⟨k,h1,by omega⟩
theorem Dn.add (h:Dn d N q)(h':Dn d M r):Dn d (N+M) (q+r):=by
 obtain ⟨k,h1,h2⟩:=h;obtain ⟨l,k1,k2⟩:=h';exact ⟨k+l,by rw [Rat.intCast_add,← h1,← k1]; grind,by omega⟩
theorem Dn.mul (h:Dn d N q)(h':Dn e M r):Dn (d+e) (N*M) (q*r):=by
 obtain ⟨k,h1,h2⟩:=h;obtain ⟨l,k1,k2⟩:=h';refine ⟨k*l,?_,by rw [Int.natAbs_mul]; exact Nat.mul_le_mul h2 k2⟩;rw [Rat.intCast_mul,← h1,← k1,Nat.pow_add,Rat.natCast_mul]; grind
theorem Dn.zero (d N:Nat):Dn d N 0:=⟨0,by rw [Rat.zero_mul]; rfl,Nat.zero_le _⟩
theorem Dn.two (h:Dn d N q):Dn d (2*N) (2*q):=by
 have:=h.add h;rw [show 2*q=q+q by grind,show 2*N=N+N by omega]; exact this
theorem Dn.frac (h:Dn d N q):q.num.natAbs≤N∧q.den≤12 ^ d:=by
 obtain ⟨k,h1,hk⟩:=h;have hp:=W7 d;have hq:q=Rat.divInt k ((12 ^ d:Nat):Int):=by
  rw [Rat.divInt_eq_div,Rat.intCast_natCast,← h1];have:=Ao8 d;grind
 obtain ⟨e1,e2,e3⟩:=Ju (y:=k) (z:=((12 ^ d:Nat):Int)) (by omega);have hg0:0 < Nat.gcd k.natAbs (12 ^ d):=Nat.gcd_pos_of_pos_right _ hp;rw [hq];constructor
 ·rw [e1,Int.natAbs_tdiv];exact Nat.le_trans (Nat.div_le_self _ _) hk
 ·have h2:((Rat.divInt k ((12 ^ d:Nat):Int)).den:Int)≤((12 ^ d:Nat):Int):=by
   rw [e2,show (((12 ^ d:Nat):Int)).natAbs=12 ^ d from rfl,Int.tdiv_eq_ediv_of_nonneg (by omega),← Int.natCast_ediv];exact Int.ofNat_le.2 (Nat.div_le_self _ _)
  exact Int.ofNat_le.1 h2
theorem Dn.small (h:Dn d N q)(hd:d≤50)(hN:N < 10 ^ 100):Ku q=true:=by
 obtain ⟨h1,h2⟩:=h.frac;have h3:12 ^ d≤12 ^ 50:=Nat.pow_le_pow_right (by omega) hd;have h4:12 ^ 50 < 10 ^ 100:=by decide +kernel
 simp only [Ku,Bool.and_eq_true,decide_eq_true_eq];exact ⟨Nat.lt_of_le_of_lt h1 hN,Nat.lt_of_le_of_lt h2 (Nat.lt_of_le_of_lt h3 h4)⟩
theorem SmR.dn (h:SmR q):Dn 1 108 q:=by
 obtain ⟨k,hk,hk2⟩:=h.t12;refine ⟨k,?_,hk2⟩;rw [hk,Rat.divInt_eq_div];have:((12 ^ 1:Nat):Rat)=((12:Int):Rat):=by decide +kernel
 rw [this];have:((12:Int):Rat)≠0:=by decide +kernel
 grind
structure CFD (d N:Nat)(F:CF):Prop where
 c:Dn d N F.c
 s:∀ p,Dn d N (F.s p)
 t:∀ q,Dn d N (F.t q)
theorem CFD.mono {d N M:Nat}{F:CF}(h:CFD d N F)(hm:N≤M):CFD d M F:=⟨h.c.mono hm,fun p=>(h.s p).mono hm,fun q=>(h.t q).mono hm⟩
theorem CFD.add {d N M:Nat}{F G:CF}(h:CFD d N F)(h':CFD d M G):CFD d (N+M) (F.add G):=⟨h.c.add h'.c,fun p=>(h.s p).add (h'.s p),fun q=>(h.t q).add (h'.t q)⟩
theorem CFD.scale (h:CFD d N F)(hk:Dn e M k):CFD (d+e) (N*M) (F.scale k):=⟨h.c.mul hk,fun p=>(h.s p).mul hk,fun q=>(h.t q).mul hk⟩
theorem CFD.mul {d e N M:Nat}{F G:CF}(h:CFD d N F)(h':CFD e M G):CFD (d+e) (4*(N*M)) (F.mul G):=by
 have sw:∀ {q r:Rat},Dn d N q→Dn e M r→Dn (d+e) (N*M) (r*q):=fun {q r} hq hr=>by rw [show r*q=q*r by grind]; exact hq.mul hr
 refine ⟨(h.c.mul h'.c).mono (by omega),fun p=>((sw h.c (h'.s p)).add ((h.s p).mul h'.c)).mono (by omega),fun q=>?_⟩;have e1:=(sw h.c (h'.t q)).add ((h.t q).mul h'.c);have e2:Dn (d+e) (N*M+N*M) (G3 F G q):=by
  unfold G3;split
  ·exact Dn.zero _ _
  ·split
   ·have:=((h.s q.1).mul (h'.s q.1)).two;exact this.mono (by omega)
   ·exact ((h.s q.1).mul (h'.s q.2)).add ((h.s q.2).mul (h'.s q.1))
 exact (e1.add e2).mono (by omega)
def Ang (c:UInt8):Bool:=decide (97≤c.toNat) && decide (c.toNat≤122)
def Gw (s:List UInt8):Bool:=match s with
 | []=>false
 | c::l=>Ang c && l.all (fun x=>Ang x || (decide (x.toNat=45) || (decide (48≤x.toNat) && decide (x.toNat≤57)))) && decide (s.length≤12)
structure PV (p:Par):Prop where
 lo:-1≤p.1
 hi:p.1≤1000
 cat:p.2 = []∨Gw p.2=true
structure CFV (F:CF):Prop where
 s:∀ p,F.s p≠0→PV p
 t:∀ q,F.t q≠0→PV q.1∧PV q.2∧¬ 0 < A8 q.1 q.2
theorem Ez (h:a+b≠0):a≠0∨b≠0:=by
 by_cases ha:a=0
 ·right; rintro rfl; apply h; rw [ha]; grind
 ·exact .inl ha
theorem B8 (h:a*b≠0):a≠0∧b≠0:=⟨fun e=>h (by rw [e]; grind),fun e=>h (by rw [e]; grind)⟩
theorem CFV.add (h:CFV F)(h':CFV G):CFV (F.add G) :=
 ⟨fun p hp=>(Ez hp).elim (h.s p) (h'.s p),fun q hq=>(Ez hq).elim (h.t q) (h'.t q)⟩
theorem CFV.scale (h:CFV F)(k:Rat):CFV (F.scale k):=⟨fun p hp=>h.s p (B8 hp).1,fun q hq=>h.t q (B8 hq).1⟩
theorem CFV.mul (h:CFV F)(h':CFV G):CFV (F.mul G):=by
 refine ⟨fun p hp=>(Ez hp).elim (fun e=>h'.s p (B8 e).1) (fun e=>h.s p (B8 e).1),fun q hq=>?_⟩;rcases Ez hq with e | e
 ·exact (Ez e).elim (fun e=>h'.t q (B8 e).1) (fun e=>h.t q (B8 e).1)
 ·unfold G3 at e;split at e
  ·exact absurd rfl e
  ·rename_i hno;split at e
   ·rename_i heq;have:=B8 (B8 e).2;exact ⟨h.s _ this.1,by rw [← heq]; exact h.s _ this.1,hno⟩
   ·rcases Ez e with e | e
    ·have:=B8 e; exact ⟨h.s _ this.1,h'.s _ this.2,hno⟩
    ·have:=B8 e; exact ⟨h'.s _ this.2,h.s _ this.1,hno⟩
theorem CFV.count (k:Rat):CFV ⟨k,fun _=>0,fun _=>0⟩:=⟨fun p h=>absurd rfl h,fun q h=>absurd rfl h⟩
theorem CFD.count (h:Dn d N k):CFD d N ⟨k,fun _=>0,fun _=>0⟩:=⟨h,fun _=>Dn.zero _ _,fun _=>Dn.zero _ _⟩
end
section
variable {F G:CF}{L:List (Par×Par)}{M N d e:Nat}{p q:Par}
structure CFS (F:CF):Prop where
 c:Ku F.c=true
 s:∀ p,Ku (F.s p)=true
 t:∀ q,Ku (F.t q)=true
theorem CFD.cfs (h:CFD d N F)(hd:d≤50)(hN:N < 10 ^ 100):CFS F:=⟨h.c.small hd hN,fun p=>(h.s p).small hd hN,fun q=>(h.t q).small hd hN⟩
def con (F G:CF)(x:Par×Par):Rat:=if x.1=x.2 then F.s x.1*G.s x.2+F.s x.1*G.s x.2 else F.s x.1*G.s x.2
def Dj (F G:CF):List (Par×Par)→Par×Par→Rat
 | [],_=>0
 | x::L,k=>(if Ap x.1 x.2=k then con F G x else 0)+Dj F G L k
theorem Ht (F G:CF)(x:Par×Par):∀ (L:List (Par×Par)) (k:Par×Par),Dj F G (L++[x]) k=if k=Ap x.1 x.2 then con F G x+Dj F G L k else Dj F G L k
 | [],k=>by
  simp only [List.nil_append,Dj];by_cases h:k=Ap x.1 x.2
  ·rw [if_pos h.symm,if_pos h]
  ·rw [if_neg (fun e=>h e.symm),if_neg h]; grind
 | y::L,k=>by
  simp only [List.cons_append,Dj];rw [Ht F G x L k];by_cases h:k=Ap x.1 x.2
  ·rw [if_pos h,if_pos h]; grind
  ·rw [if_neg h,if_neg h]
def two (F G:CF)(L:List (Par×Par))(k:Par×Par):Rat :=
 if 0 < A8 k.1 k.2 then 0 else if k.1=k.2 then (if k∈L then con F G k else 0) else (if k∈L then con F G k else 0)+(if (k.2,k.1)∈L then con F G (k.2,k.1) else 0)
theorem K8 (h:0 < A8 p q):Ap p q=(q,p):=by unfold Ap; rw [if_pos h]
theorem Ft (h:¬ 0 < A8 p q):Ap p q=(p,q):=by unfold Ap; rw [if_neg h]
theorem Pl (p q:Par):¬ 0 < A8 (Ap p q).1 (Ap p q).2:=by
 by_cases h:0 < A8 p q
 ·rw [K8 h];intro h';have:=(Dp.sym p q).1;have h1:=(Dp.sym q p).2 h;simp only at h';omega
 ·rw [Ft h]; exact h
theorem Ji {p q a b:Par}:Ap p q=(a,b)↔¬ 0 < A8 a b∧((p=a∧q=b)∨(p=b∧q=a)):=by
 constructor
 ·intro h;have:=Pl p q;rw [h] at this;refine ⟨this,?_⟩;by_cases h':0 < A8 p q
  ·rw [K8 h'] at h; cases h; exact .inr ⟨rfl,rfl⟩
  ·rw [Ft h'] at h; cases h; exact .inl ⟨rfl,rfl⟩
 ·rintro ⟨h,⟨rfl,rfl⟩ | ⟨rfl,rfl⟩⟩
  ·exact Ft h
  ·rw [Ta]; exact Ft h
theorem P5 (F G:CF):∀ (L:List (Par×Par)) (k:Par×Par),L.Nodup→Dj F G L k=two F G L k
 | [],k,_=>by
  unfold Dj two;split
  ·rfl
  ·split
   ·simp
   ·simp; grind
 | (p,q)::L,(a,b),hn=>by
  rw [List.nodup_cons] at hn;unfold Dj;rw [P5 F G L (a,b) hn.2];unfold two;simp only;by_cases h0:0 < A8 a b
  ·rw [if_pos h0,if_pos h0,if_neg (fun e=>(Ji.1 e).1 h0)]; grind
  ·rw [if_neg h0,if_neg h0];by_cases hab:a=b
   ·subst hab;rw [if_pos rfl,if_pos rfl];by_cases hx:(p,q)=(a,a)
    ·cases hx;rw [if_pos (Ji.2 ⟨h0,.inl ⟨rfl,rfl⟩⟩),if_neg hn.1,if_pos (by simp)]; grind
    ·rw [if_neg (fun e=>hx (by rcases (Ji.1 e).2 with ⟨rfl,rfl⟩ | ⟨rfl,rfl⟩ <;> rfl))]
     have:((a,a)∈(p,q)::L)↔(a,a)∈L:=by simp [List.mem_cons,Ne.symm hx]
     simp only [this]; grind
   ·rw [if_neg hab,if_neg hab];by_cases hx:(p,q)=(a,b)
    ·cases hx;rw [if_pos (Ji.2 ⟨h0,.inl ⟨rfl,rfl⟩⟩),if_neg hn.1,if_pos (show (p,q)∈(p,q)::L by simp)];have:((q,p)∈(p,q)::L)↔(q,p)∈L:=by simp [List.mem_cons,Ne.symm hab]
     simp only [this]; grind
    ·by_cases hy:(p,q)=(b,a)
     ·cases hy;rw [if_pos (Ji.2 ⟨h0,.inr ⟨rfl,rfl⟩⟩),if_neg hn.1,if_pos (show (p,q)∈(p,q)::L by simp)];have:((q,p)∈(p,q)::L)↔(q,p)∈L:=by simp [List.mem_cons,hab]
      simp only [this]; grind
     ·rw [if_neg (fun e=>by rcases (Ji.1 e).2 with ⟨rfl,rfl⟩ | ⟨rfl,rfl⟩; exact hx rfl; exact hy rfl)];have h1:((a,b)∈(p,q)::L)↔(a,b)∈L:=by simp [List.mem_cons,Ne.symm hx]
      have h2:((b,a)∈(p,q)::L)↔(b,a)∈L:=by simp [List.mem_cons,Ne.symm hy]
      simp only [h1,h2]; grind
theorem Aev (F G:CF)(hn:L.Nodup)(ha:∀ p q,F.s p≠0→G.s q≠0→(p,q)∈L)(k:Par×Par):Dj F G L k=G3 F G k:=by
 rw [P5 F G L k hn];have key:∀ p q:Par,(if (p,q)∈L then con F G (p,q) else 0)=con F G (p,q):=fun p q=>by
  by_cases h:(p,q)∈L
  ·rw [if_pos h]
  ·rw [if_neg h];have:F.s p=0∨G.s q=0:=by
    by_cases h1:F.s p=0
    ·exact .inl h1
    ·by_cases h2:G.s q=0
     ·exact .inr h2
     ·exact absurd (ha p q h1 h2) h
   unfold con;simp only;rcases this with h1 | h1 <;> rw [h1] <;> split <;> grind
 obtain ⟨a,b⟩:=k;unfold two G3;simp only [key];split
 ·rfl
 ·split
  ·rename_i e; subst e; unfold con; simp only [if_true]; grind
  ·rename_i e;unfold con;simp only [if_neg e,if_neg (fun e':b=a=>e e'.symm)]
theorem Aht (h:CFD d N F)(h':CFD e M G)(x:Par×Par):Dn (d+e) (2*(N*M)) (con F G x):=by
 unfold con;split
 ·exact (((h.s x.1).mul (h'.s x.2)).add ((h.s x.1).mul (h'.s x.2))).mono (by omega)
 ·exact ((h.s x.1).mul (h'.s x.2)).mono (by omega)
theorem Ag9 (h:CFD d N F)(h':CFD e M G)(hn:L.Nodup)(k:Par×Par):Dn (d+e) (4*(N*M)) (Dj F G L k):=by
 rw [P5 F G L k hn];have h1:∀ x,Dn (d+e) (2*(N*M)) (if x∈L then con F G x else 0):=fun x=>by
  split
  ·exact Aht h h' x
  ·exact Dn.zero _ _
 unfold two;split
 ·exact Dn.zero _ _
 ·split
  ·exact (h1 k).mono (by omega)
  ·exact ((h1 k).add (h1 _)).mono (by omega)
def Bi {κ:Type}[DecidableEq κ](a:κ):List (κ×Rat)→Rat
 | []=>0
 | (b,q)::l=>if a=b then q else Bi a l
section
variable {κ:Type} [DecidableEq κ]
theorem F9 {a:κ}{q:Rat}:∀ {l:List (κ×Rat)},(l.map (·.1)).Nodup→(a,q)∈l→Bi a l=q
 | (b,r)::l,hn,h=>by
  simp only [List.map_cons,List.nodup_cons] at hn;unfold Bi;rcases List.mem_cons.1 h with e | e
  ·cases e; rw [if_pos rfl]
  ·have:a≠b:=fun e'=>hn.1 (by rw [← e']; exact List.mem_map.2 ⟨_,e,rfl⟩);rw [if_neg this]; exact F9 hn.2 e
theorem Kc {a:κ}:∀ {l:List (κ×Rat)},a∉l.map (·.1)→Bi a l=0
 | [],_=>rfl
 | (b,r)::l,h=>by
  simp only [List.map_cons,List.mem_cons,not_or] at h;unfold Bi;rw [if_neg h.1]; exact Kc h.2
end
end
section
variable [Cc] [Dy]
def Amv:List KI→Bool
 | .code (.region _ _ _)::_=>true
 | _=>false
def Fn (P:Program):Nat→List KI×S→List KI×S
 | 0,st=>st
 | n+1,st=>cond (Amv st.1) st (match one P st.1 st.2 with | some st'=>Fn P n st' | none=>st)
section rules
variable {P:Program} [Ba P] {fn:Func} {Post:B0} {st:List KI×S} {u m:PH}
theorem Nf:∀ (n:Nat) (st:List KI×S),Sym P fn Post (Fn P n st).1 (Fn P n st).2 u m→Sym P fn Post st.1 st.2 u m
 | 0,st,h=>h
 | n+1,st,h=>by
  unfold Fn at h;cases hn:Amv st.1 with
  | true=>simp [hn] at h; exact h
  | false =>
   simp only [hn,cond_false] at h;split at h
   ·rename_i st' he;obtain ⟨ks',s'⟩:=st';exact L1 Ba.mx he (Nf n _ h)
   ·exact h
theorem G.canon (T:List (Nat×SV))(B:List (Nat×Blk))(h:Fd (Fn P 200 st).1=true)(hl:Qm T B=true)(h0:Cov (Fn P 200 st).2.n (Fn P 200 st).2 T B)(k:G P fn Post ((Fn P 200 st).1,S.of (Fn P 200 st).2.n T B) u m):G P fn Post st u m:=by
 refine ⟨Nf 200 st ?_⟩;have hk:=k.out;rw [Sym.ofNo h] at hk ⊢;intro c ρ a w hm0 hr;exact hk c ρ a w hm0 (hr.cov h0 hl)
theorem G.join {ι:Type}(b:Value)(T:ι→List (Nat×SV))(B:ι→List (Nat×Blk))(Inv:ι→PH→PH→Prop)(hl:∀ i,Qm (T i) (B i)=true)(hn:Fd (Fn P 200 (nx (adv P st) b)).1=true)
  (tail:∀ i u' m',PH.le u u'→Inv i u' m'→G P fn Post ((Fn P 200 (nx (adv P st) b)).1,S.of (Fn P 200 (nx (adv P st) b)).2.n (T i) (B i)) u' m')
  (k:(∀ i st' u' m',(Fn P 200 st').1=(Fn P 200 (nx (adv P st) b)).1→Cov (Fn P 200 (nx (adv P st) b)).2.n (Fn P 200 st').2 (T i) (B i)→PH.le u u'→Inv i u' m'→G P fn Post st' u' m')→G P fn Post st u m):G P fn Post st u m:=by
 refine k fun i st' u' m' h1 h2 h3 h4=>?_;have hc:Cov (Fn P 200 st').2.n (Fn P 200 st').2 (T i) (B i):=⟨rfl,h2.t,h2.b⟩;refine G.canon (T i) (B i) (by rw [h1]; exact hn) (hl i) hc ?_;rw [h1,h2.n];exact tail i u' m' h3 h4
end rules
end
section
open Go.RowKit
theorem Ake {x y:List UInt8}(h:Op.bytesLess x y=true):Op.bytesLess y x=false:=by
 cases h':Op.bytesLess y x with
 | false=>rfl
 | true=>have:=Oa h h'; rw [Pv] at this; cases this
theorem Apo (x y:List UInt8):(!(Op.bytesLess x y || decide (x=y)))=Op.bytesLess y x:=by
 cases h1:Op.bytesLess x y with
 | true=>rw [Ake h1]; rfl
 | false =>
  by_cases e:x=y
  ·subst e; rw [h1]; simp
  ·cases h2:Op.bytesLess y x with
   | true=>simp [e]
   | false=>exact absurd (Wk h1 h2) e
section rules
variable [Cc] {P:Program} [Ba P] {fn:Func} {Post:B0} {st:List KI×S} {u m:PH}
theorem G.ltS (a b:List UInt8)(r:Bool)(h:Al P (adv P st)=.bin .lss (.string (mkS a)) (.string (mkS b)))(hr:Op.bytesLess a b=r)(k:G P fn Post (nx (adv P st) (.bool r)) u m):G P fn Post st u m :=
 G.bin (.bool r) h (fun t X Y w=>Fx t X Y w) (fun t w=>by simp only [binOp,Op.stringOp,J9]; rw [hr]; rfl) k
theorem G.gtS (a b:List UInt8)(r:Bool)(h:Al P (adv P st)=.bin .gtr (.string (mkS a)) (.string (mkS b)))(hr:Op.bytesLess b a=r)(k:G P fn Post (nx (adv P st) (.bool r)) u m):G P fn Post st u m :=
 G.bin (.bool r) h (fun t X Y w=>Fx t X Y w) (fun t w=>by
  rw [← hr,← Apo];simp only [binOp,Op.stringOp,J9];rw [show (a == b)=decide (a=b) from by by_cases e:a=b <;> simp [e]]
  rfl) k
end rules
section
variable [Cc] {u:PH}
theorem Ac3 (x:Int):Fn0 prog 287 [.int .i64 x] u fun v _=>v=.bool false:=by
 refine Fn0.o func287 ?_;refine G.nF x x ?_;exact G.r (.bool false) ⟨rfl,rfl⟩
theorem Ad7 (x:List UInt8):Fn0 prog 288 [.string (mkS x)] u fun v _=>v=.bool false:=by
 refine Fn0.o func288 ?_;refine G.y x x rfl ?_;exact G.r (.bool false) ⟨rfl,rfl⟩
theorem Apf (x y:Int):Fn0 prog 245 [.int .i64 x,.int .i64 y] u fun v _=>v=.int .i64 (Na x y):=by
 refine Fn0.o func245 ?_;refine G.c call287 (Ac3 x) ?_;rintro v1 u1 l1 rfl;refine G.c call287 (Ac3 y) ?_;rintro v2 u2 l2 rfl;unfold Na;by_cases h:x < y
 ·refine G.lT' x y h ?_;exact G.r (.int .i64 (-1)) ⟨rfl,by rw [if_pos h]⟩
 ·refine G.lF' x y h ?_;by_cases h':x > y
  ·refine G.gT' x y h' ?_;exact G.r (.int .i64 1) ⟨rfl,by rw [if_neg h,if_pos h']⟩
  ·refine G.gF' x y h' ?_;exact G.r (.int .i64 0) ⟨rfl,by rw [if_neg h,if_neg h']⟩
theorem Api (x y:List UInt8):Fn0 prog 246 [.string (mkS x),.string (mkS y)] u fun v _=>v=.int .i64 (Qp x y):=by
 refine Fn0.o func246 ?_;refine G.c call288 (Ad7 x) ?_;rintro v1 u1 l1 rfl;refine G.c call288 (Ad7 y) ?_;rintro v2 u2 l2 rfl;unfold Qp;cases h:Op.bytesLess x y with
 | true =>
  refine G.ltS x y true (by kernel_rfl) h ?_;exact G.r (.int .i64 (-1)) ⟨rfl,by rw [if_pos rfl]⟩
 | false =>
  refine G.ltS x y false (by kernel_rfl) h ?_;cases h':Op.bytesLess y x with
  | true =>
   refine G.gtS x y true (by kernel_rfl) h' ?_;exact G.r (.int .i64 1) ⟨rfl,by rw [if_neg (by simp),if_neg (fun e=>by subst e; rw [Pv] at h'; cases h')]⟩
  | false =>
   refine G.gtS x y false (by kernel_rfl) h' ?_;exact G.r (.int .i64 0) ⟨rfl,by rw [if_neg (by simp),if_pos (Wk h h')]⟩
theorem Ao7 (x y:Int){b:Nat}(h:El u b 0 1 [.int .i64 x,.int .i64 y]):Fn0 prog 244 [.slice (some ⟨b,0,none⟩) 2 2] u fun v _=>v=.int .i64 (if x≠0 then x else y):=by
 refine Fn0.o func244 ?_;refine G.l (ι:=Nat) (fun i=>[(3,.v (.int .i64 0)),(6,.v (.slice (some ⟨b,0,none⟩) 2 2)),(7,.v (.int .i64 ((2:Nat):Int))),(8,.v (.int .i64 (i:Int)))]) (fun _=>[])
  (fun i u' m'=>i≤2∧m'=PH.mt∧(1≤i→x=0)∧(2≤i→y=0)) (fun i=>2 - i) 0 ⟨by omega,rfl,by omega,by omega⟩ ?_
 rintro J i hJ u' m' hle ⟨hi,rfl,hx,hy⟩;by_cases h2:i=2
 ·subst h2;refine G.lF ((2:Nat):Int) ((2:Nat):Int) ?_;exact G.r (.int .i64 0) ⟨rfl,by rw [if_neg (by simp [hx (by omega)]),hy (by omega)]⟩
 ·refine G.lT (i:Int) ((2:Nat):Int) ?_;refine G.a b 0 2 2 i 1 (by omega) ?_;obtain ⟨z,hz,h1,h2⟩:∃ z:Int,ElP u' b (0+i*1) (.int .i64 z)∧(z≠0→(if x≠0 then x else y)=z)∧(z=0→(1≤i+1→x=0)∧(2≤i+1→y=0)):=by
   rcases (by omega:i=0∨i=1) with rfl | rfl
   ·exact ⟨x,(h 0 _ rfl).mono hle,fun hz=>if_pos hz,fun hz=>⟨fun _=>hz,by omega⟩⟩
   ·exact ⟨y,(h 1 _ rfl).mono hle,fun hz=>if_neg (by simp [hx (by omega)]),fun hz=>⟨fun _=>hx (by omega),fun _=>hz⟩⟩
  refine G.lU none b (0+i*1) (.int .i64 z) hz ?_;by_cases h0:z=0
  ·refine G.nF z 0 ?_;refine G.i i ?_;exact G.b (hJ (i+1) _ _ _ cv hle ⟨by omega,rfl,(h2 h0).1,(h2 h0).2⟩ (by omega))
  ·refine G.nT' z 0 h0 ?_;exact G.r (.int .i64 z) ⟨rfl,by rw [h1 h0]⟩
theorem Tw (p q:Par):Fn0 prog 190 [An p,An q] u fun v _=>v=.int .i64 (A8 p q):=by
 refine Fn0.o func190 ?_;refine G.c call245 (Apf p.1 q.1) ?_;rintro v1 u1 l1 rfl;refine G.c call246 (Api p.2 q.2) ?_;rintro v2 u2 l2 rfl;refine G.B 3 1 8 (.int .i64 0) [.int .i64 (Na p.1 q.1),.int .i64 (Qp p.2 q.2)] (K9 [_,_]) ?_;intro g u3 l3 e3;refine G.c call244 (Ao7 _ _ e3) ?_;rintro v4 u4 l4 rfl;exact G.r _ ⟨rfl,rfl⟩
end
end
section
open Go.RowKit
variable {N s:Nat}{nz:Bool}{o:Obj}{q:Rat}{u u':PH}
abbrev SB (q:Rat):Prop:=Ku q=true
theorem SB.sz (h:SB q):Sz q 12:=(Qg h).2
theorem SB.tx (h:SB q):Tx q:=(Qg h).1
theorem SB.zero:SB 0:=by decide
abbrev fz:Value:=.agg #[.bool false,.slice none 0 0,.bool false,.slice none 0 0]
theorem Aqc :sgn q.num=0↔q=0:=by
 constructor
 ·intro h;have:q.num=0:=by
   rcases Int.lt_trichotomy q.num 0 with h1 | h1 | h1
   ·rw [C0 h1] at h; cases h
   ·exact h1
   ·rw [B9 h1] at h; cases h
  exact Rat.num_eq_zero.1 this
 ·rintro rfl; rfl
theorem E9.at {κ:Type}[DecidableEq κ]{enc:κ→Value}{R:PH→Value→Rat→Prop}{f:κ→Rat}(h:E9 enc R nz u o f N s):∃ l:List (κ×Value),Ec enc o l∧(∀ p∈l,R u p.2 (f p.1)∧(nz=true→f p.1≠0)∧Sz (f p.1) s)∧(∀ k,k∉l.map (·.1)→f k=0)∧l.length≤N:=h
theorem E9.mf {κ:Type}[DecidableEq κ]{enc:κ→Value}{f:κ→Rat}(h:E9 enc Av nz u o f N s)(hl:PH.le u u'):E9 enc Av nz u' o f N s:=by
 obtain ⟨l,h1,h2,h3,h4⟩:=h;exact ⟨l,h1,fun p hp=>⟨(h2 p hp).1.mono hl,(h2 p hp).2⟩,h3,h4⟩
def Ak4 (m' u:PH)(v:Value)(F:CF)(N:Nat):Prop :=
 ∃ b a n c b' a' n' c' g1 g2 o1 o2,v=.agg #[.bool b,.slice a n c,.bool b',.slice a' n' c',.map (some g1),.map (some g2)]∧Av u (.agg #[.bool b,.slice a n c,.bool b',.slice a' n' c']) F.c∧g1≠g2∧m'=(PH.mt.upd g1 o1).upd g2 o2∧E9 An Av true u o1 F.s N 12∧E9 prV Av true u o2 F.t N 12
def Mf (u:PH)(v:Value)(F:CF)(N:Nat):Prop :=
 ∃ b a n c b' a' n' c' g1 g2 o1 o2,v=.agg #[.bool b,.slice a n c,.bool b',.slice a' n' c',.map (some g1),.map (some g2)]∧Av u (.agg #[.bool b,.slice a n c,.bool b',.slice a' n' c']) F.c∧u g1=some o1∧u g2=some o2∧E9 An Av true u o1 F.s N 12∧E9 prV Av true u o2 F.t N 12
theorem Mf.mono {u u':PH}{v:Value}{F:CF}{N:Nat}(h:Mf u v F N)(hl:PH.le u u'):Mf u' v F N:=by
 obtain ⟨b,a,n,c,b',a',n',c',g1,g2,o1,o2,e,h1,h2,h3,h4,h5⟩:=h;exact ⟨b,a,n,c,b',a',n',c',g1,g2,o1,o2,e,h1.mono hl,hl _ _ h2,hl _ _ h3,h4.mf hl,h5.mf hl⟩
theorem Ak4.give {m' u u':PH}{v:Value}{F:CF}(h:Ak4 m' u v F N)(hl:PH.le u u')(hm:PH.le m' u'):Mf u' v F N:=by
 obtain ⟨b,a,n,c,b',a',n',c',g1,g2,o1,o2,e,h1,h2,rfl,h4,h5⟩:=h;exact ⟨b,a,n,c,b',a',n',c',g1,g2,o1,o2,e,h1.mono hl,hm _ _ (by rw [Ad _ _ h2,Ac]),hm _ _ (Ac _ _ _),h4.mf hl,h5.mf hl⟩
theorem Apg (p q:Par):Fn0 prog 193 [An p,An q] u fun v _=>v=prV (Ap p q):=by
 refine Fn0.o func193 ?_;refine G.c call190 (Tw p q) ?_;rintro v1 u1 l1 rfl;by_cases h:0 < A8 p q
 ·refine G.gT' (A8 p q) 0 h ?_;refine G.r (prV (q,p)) ⟨rfl,?_⟩;rw [K8 h]
 ·refine G.gF' (A8 p q) 0 h ?_;refine G.r (prV (p,q)) ⟨rfl,?_⟩;rw [Ft h]
theorem Apb {n:Int}(h1:-9223372036854775808≤n)(h2:n≤9223372036854775807):Ai prog 158 [.int .i64 n] u PH.mt fun v u' m'=>Ak4 m' u' v ⟨(n:Rat),fun _=>0,fun _=>0⟩ 0:=by
 refine Ai.o func158 ?_;refine G.c call98 (L8 h1 h2) ?_;intro v1 u1 l1 k1;obtain ⟨b,a,nn,c,b',a',n',c',rfl⟩:=k1.opn;refine G.mapMk (by kernel_rfl) ?_;intro g1 hm1 hu1;refine G.mapMk (by kernel_rfl) ?_;intro g2 hm2 hu2;have hne:g1≠g2:=fun e=>by subst e; rw [Ac] at hm2; cases hm2
 exact G.r (.agg #[.bool b,.slice a nn c,.bool b',.slice a' n' c',.map (some g1),.map (some g2)]) ⟨b,a,nn,c,b',a',n',c',g1,g2,_,_,rfl,k1,hne,rfl,E9.empty 12,E9.empty 12⟩
end
section
open Go.RowKit Go.MapKept
section
variable {κ:Type} [DecidableEq κ]
def Dd (f g:κ→Rat)(q:Rat)(L:List κ):κ→Rat:=fun k=>if k∈L then g k*q+f k else f k
theorem He (f g:κ→Rat)(q:Rat){L:List κ}{k:κ}(h:k∉L):Hb (Dd f g q L) k (g k*q+Dd f g q L k)=Dd f g q (L++[k]):=by
 funext j
 unfold Hb Dd;by_cases e:j=k
 ·subst e; rw [if_pos rfl,if_neg h,if_pos (by simp)]
 ·rw [if_neg e];by_cases hj:j∈L
  ·rw [if_pos hj,if_pos (by simp [hj])]
  ·rw [if_neg hj,if_neg (by simp [hj,e])]
theorem I4 (f g:κ→Rat)(q:Rat){L:List κ}(h:∀ k,k∉L→g k=0):Dd f g q L=fun k=>f k+g k*q:=by
 funext k
 unfold Dd;by_cases hk:k∈L
 ·rw [if_pos hk]; grind
 ·rw [if_neg hk,h k hk]; grind
theorem Md {f g:κ→Rat}{q:Rat}{L:List κ}(h1:∀ k,SB (f k))(h2:∀ k,SB (f k+g k*q))(k:κ):SB (Dd f g q L k):=by
 unfold Dd;split
 ·rw [Rat.add_comm]; exact h2 k
 ·exact h1 k
end
end
section
open Go.RowKit Go.MapKept
def Am9 (t:TypeId):Op→Bool
 | .binOp _ t' ..=>Nat.beq t' t
 | _=>false
section rules
variable [Cc] {P:Program} [Ba P] {fn:Func} {Post:B0} {st:List KI×S} {u m:PH}
theorem Aao {op:BinOp}{t:TypeId}{xs ys:Array Value}(X Y:Operand)(hg:P.eqGuardType P.depth t=false)(w:World):(eqGuard op t X Y (.agg xs) (.agg ys)).run P w=.ok () w:=by
 unfold eqGuard; split <;> simp [hg]
theorem G.eqAgg (t:TypeId)(xs ys:Array Value)(r:Bool)(h:Al P (adv P st)=.binT .eql (P.underlying t) (.agg xs) (.agg ys))(hq:U6 (Am9 t) (adv P st)=true)(hg:P.eqGuardType P.depth t=false)(he:∀ w,(Op.equal t (.agg xs) (.agg ys)).run P w=.ok r w)
  (k:G P fn Post (nx (adv P st) (.bool r)) u m):G P fn Post st u m:=by
 refine G.askQ (Am9 t) h hq (by simp) (fun env o hview hQ w _=>?_) k;obtain ⟨t',X,Y,yt,e,e1,e2,e3⟩:=Pz hview;obtain ⟨dst,opp,type,pos,after,guard⟩:=o;simp only at e; subst e;obtain rfl:t'=t:=Nat.eq_of_beq_eq_true hQ;simp [execOp,e1,e2,Aao X Y hg,binOp,he]
end rules
end
section
open Go.RowKit Go.MapKept
structure Am4 (F H:CF):Prop where
 a:CFS F
 b:CFS H
 c:CFS (H.scale F.c)
 d:CFS (F.scale H.c)
 e:CFS ((H.scale F.c).add (F.scale H.c))
 f:SB (F.c*H.c)
 pr:∀ p q,SB (F.s p*H.s q)
 con:∀ x,SB (con F H x)
 acc:∀ Ps:List (Par×Par),Ps.Nodup→∀ k,SB (((H.scale F.c).add (F.scale H.c)).t k+Dj F H Ps k)
theorem Apk {d e N M:Nat}{F H:CF}(h:CFD d N F)(h':CFD e M H)(hd:d+e≤50)(hN:8*(N*M) < 10 ^ 100)(h1:0 < N)(h2:0 < M):Am4 F H:=by
 have b1:N≤N*M:=Nat.le_mul_of_pos_right _ h2;have b2:M≤N*M:=Nat.le_mul_of_pos_left _ h1;have c1:CFD (d+e) (N*M) (H.scale F.c):=by have:=h'.scale h.c; rw [Nat.add_comm,Nat.mul_comm] at this; exact this
 have c2:CFD (d+e) (N*M) (F.scale H.c):=h.scale h'.c;exact ⟨h.cfs (by omega) (by omega),h'.cfs (by omega) (by omega),c1.cfs hd (by omega),c2.cfs hd (by omega),(c1.add c2).cfs hd (by omega),(h.c.mul h'.c).small hd (by omega),
  fun p q=>((h.s p).mul (h'.s q)).small hd (by omega),fun x=>(Aht h h' x).small hd (by omega),fun Ps hn k=>(((c1.add c2).t k).add (Ag9 h h' hn k)).small hd (by omega)⟩
end
end Go.Proofs.YtanfagpabkdmiaaGreatDoor
