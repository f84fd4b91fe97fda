/- Parts of one proof, joined by a program. -/
import Derived.Test.YtanfagpabkdmiaaGreatDoorL04
import Derived.Shelf.Strings.Builder1
import Derived.Shelf.Strings.Builder2
import Derived.Shelf.Small.Bits
import Derived.Shelf.Small.Wraps
import Derived.Shelf.Strings.BuilderF
import Derived.Shelf.Strings.BuilderK
import Derived.Shelf.Strings.Builder2Cap
import Derived.Shelf.Strconv.Itoa0
import Derived.Shelf.Strconv.Itoa1
import Derived.Shelf.LaysM
import Derived.Shelf.Strconv.Itoa2
import Derived.Shelf.Strconv.Itoa3
import Derived.Shelf.Strconv.Lower
import Derived.Shelf.Strconv.ParseUint10
import Derived.Shelf.Strconv.ParseUintEmpty
import Derived.Shelf.Strconv.ParseUint10b64
import Derived.Shelf.Strconv.ParseUint10b32
import Derived.Shelf.Strconv.ParseUint10b16
import Derived.Shelf.Strconv.ParseUint10b8
import Derived.Shelf.Strconv.ParseUint10At
import Derived.Ground.MpProg
import Derived.Shelf.Pu.ParseUintPublic10
import Derived.Shelf.Strings.Search1
import Derived.Shelf.Strings.Search2
import Derived.Shelf.Strings.Cut
import Derived.Shelf.Strings.Shaped
import Derived.Shelf.Strings.Prefix
import Derived.Shelf.Bits.Mul64
import Derived.Shelf.Strings.Repeat
import Derived.Shelf.Strings.BuilderCap
import Derived.Test.YtanfagpabkdmiaaGreatDoorProg
import Derived.Lib.AppendIntMem
import Derived.Lib.AtoiErrMem
import Derived.Lib.ConvBytes
set_option linter.unusedVariables false
set_option linter.unusedSimpArgs false
set_option linter.unusedSectionVars false
set_option maxHeartbeats 16000000
namespace Go.Proofs.YtanfagpabkdmiaaGreatDoor
open Go.Proofs.Tryz
section
open Go.RowKit
variable {j k n:Nat}{q r:Rat}{u:PH}{y z:Int}
theorem C4 (z:Int):Lib.itoa z=Bh (decide (z < 0)) (Lib.decDigits z.natAbs):=by
 by_cases h:z < 0
 ·rw [Ts h,decide_eq_true h]; rfl
 ·rw [Cz h,decide_eq_false h]; rfl
theorem Uy (z:Int):Bp (decide (z < 0)) (rd (Lib.decDigits z.natAbs))=z:=by rw [Abj]; exact Po z
theorem Ach (h:Lib.nDigits n≤k):nl n≤k:=by
 refine A4 (Nat.lt_of_lt_of_le (Lib.lt_pow_nDigits n) ?_);rw [Aat]; exact Nat.pow_le_pow_right (by omega) (by omega)
theorem Bs (h:Lib.nDigits n≤400):nl n≤400:=Ach h
theorem Ek (h:Lib.nDigits z.natAbs≤400):(Lib.itoa z).length≤401:=by
 rw [C4]; unfold Bh; split <;> simp [Lib.decDigits_length] <;> omega
theorem Ks (h:Lib.nDigits z.natAbs≤400):Fn0 prog 83 [.string (mkS (Lib.itoa z))] u fun v u'=>Cn u' v z:=by
 have:=Ago (u:=u) (decide (z < 0)) (Lib.decDigits z.natAbs) (Mc _) (Hy _) (by rw [Lib.decDigits_length]; omega);rw [Uy,← C4] at this;exact this
theorem Hd (hz:0 < z)(h1:nl y.natAbs≤j)(h2:nl z.natAbs≤k):nl (Rat.divInt y z).num.natAbs≤j∧nl (Rat.divInt y z).den≤k:=by
 obtain ⟨e1,e2,_⟩:=Ju (y:=y) hz;refine ⟨by rw [e1]; exact Q3 h1,?_⟩;have:(Rat.divInt y z).den=(z.tdiv (Nat.gcd y.natAbs z.natAbs:Nat)).natAbs:=by omega
 rw [this]; exact Q3 h2
theorem Kv (q r:Rat):0 < (q.den:Int)*(r.den:Int):=Int.mul_pos (by have:=q.den_pos; omega) (by have:=r.den_pos; omega)
theorem Sz.d (h:Sz q k):nl ((q.den:Int)).natAbs≤k:=by simpa using h.2
theorem Ap0 (h:Sz q k)(h':Sz r k):Sz (q+r) (2*k+1):=by
 rw [← Nx];obtain ⟨a,b⟩:=Hd (Kv q r) (Nq (Bl h.1 h'.d) (Bl h'.1 h.d)) (Bl h.d h'.d);exact ⟨a,Nat.le_trans b (by omega)⟩
theorem An5 (h:Sz q k)(h':Sz r k):Sz (q - r) (2*k+1):=by
 rw [← Wg];obtain ⟨a,b⟩:=Hd (Kv q r) (Ac9 (Bl h.1 h'.d) (Bl h'.1 h.d)) (Bl h.d h'.d);exact ⟨a,Nat.le_trans b (by omega)⟩
theorem Aj1:Lib.decDigits 0 = [48]:=Lib.decDigits_one (by omega)
theorem Ait:Lib.decDigits 1 = [49]:=Lib.decDigits_one (by omega)
theorem Dt:Lib.itoa 0 = [48]:=by rw [Cz (by omega)]; exact Aj1
theorem Gu:Lib.itoa 1 = [49]:=by rw [Cz (by omega)]; exact Ait
theorem S5 (n:Nat):Lib.itoa (n:Int)=Lib.decDigits n:=by rw [Cz (by omega)]; congr 1
def rdZ (t:List UInt8):Int:=match t with
 | 45::l=>-(rd l:Int)
 | l=>rd l
theorem Y5 (z:Int):rdZ (Lib.itoa z)=z:=by
 by_cases h:z < 0
 ·rw [Ts h]; simp only [rdZ,Abj]; omega
 ·rw [Cz h];have h1:=Y6 z.natAbs;have h2:=Abj z.natAbs;have h3:=Mc z.natAbs;generalize Lib.decDigits z.natAbs=l at *
  cases l with
  | nil=>simp at h1
  | cons b l =>
   have hb:=h3 b (by simp);unfold rdZ;split
   ·rename_i e; simp at e; rw [e.1] at hb; simp at hb
   ·rw [h2]; omega
theorem Gv (h:Lib.itoa y=Lib.itoa z):y=z:=by rw [← Y5 y,h,Y5]
theorem M5 (hz:0≤z)(h0:z≠0):∃ b,(Lib.itoa z)[0]?=some b∧49≤b.toNat∧b.toNat≤57:=by
 rw [Cz (by omega)];refine ⟨_,Y6 _,Af3 (by omega),?_⟩;rw [N5]; have:=Nat.mod_lt (z.natAbs / 10 ^ (Lib.nDigits z.natAbs - 1)) (show 0 < 10 by omega); omega
theorem Py (h:Lib.nDigits z.natAbs≤400):Fn0 prog 166 [.string (mkS (Lib.itoa z))] u fun v _=>v=.bool true:=by
 refine Fn0.o func166 ?_;by_cases h0:z=0
 ·subst h0;refine G.q (Lib.itoa 0) [48] Dt ?_;exact G.r (.bool true) ⟨rfl,rfl⟩
 refine G.w (Lib.itoa z) [48] (fun e=>h0 (Gv (e.trans Dt.symm))) ?_;have hsize:(mkS (Lib.itoa z)).size=(Lib.itoa z).length:=Go.Lib.size_mk _;have hlen:=Ek h;have hdl:=Lib.decDigits_length z.natAbs;have hdp:=Lib.nDigits_pos z.natAbs;have hdd:=Mc z.natAbs;obtain ⟨b0,hb0,hb1,hb2⟩:=M5 (z:=(z.natAbs:Int)) (by omega) (by omega);rw [S5] at hb0;have hs:=C4 z;generalize hL:Lib.decDigits z.natAbs=L at *
 generalize hT:Lib.itoa z=T at *
 have hTl:0 < T.length:=by rw [hs]; unfold Bh; split; simp; omega
 refine G.gT (T.length:Int) 0 ?_;by_cases hz:z < 0
 ·rw [decide_eq_true hz] at hs;refine G.idxS T 0 45 (by kernel_rfl) (by rw [hs]; rfl) ?_;refine G.cmpG .eql .u8 45 45 true (by kernel_rfl) rfl rfl ?_;refine G.sliceSFrom T 1 (by kernel_rfl) (by kernel_rfl) (by omega) ?_;rw [show T.drop 1=L by rw [hs]; rfl];refine G.eF (L.length:Int) 0 ?_;refine G.gF (L.length:Int) 400 ?_;refine G.idxS L 0 b0 (by kernel_rfl) hb0 ?_;refine G.cmpG .eql .u8 (b0.toNat:Int) 48 false (by kernel_rfl) rfl (by simp only [B4,decide_eq_false_iff_not]; omega) ?_;refine G.l (ι:=Nat) (fun i=>[(3,.v (.string (mkS L))),(4,.v (.int .i64 (i:Int)))]) (fun _=>[]) (fun i _ m'=>i≤L.length∧m'=PH.mt) (fun i=>L.length - i) 0 ⟨by omega,rfl⟩ ?_;rintro J i hJ u' m' hle ⟨hi,rfl⟩;by_cases hlt:i < L.length
  ·refine G.lT (i:Int) (L.length:Int) ?_;have hg:=Jc hdd hlt;refine G.idxS L i _ (by kernel_rfl) (C1 hlt) ?_;refine G.cmpG .lss .u8 ((L.getD i 0).toNat:Int) 48 false (by kernel_rfl) rfl (by simp only [B4,decide_eq_false_iff_not]; omega) ?_;refine G.idxS L i _ (by kernel_rfl) (C1 hlt) ?_;refine G.cmpG .gtr .u8 ((L.getD i 0).toNat:Int) 57 false (by kernel_rfl) rfl (by simp only [B4,decide_eq_false_iff_not]; omega) ?_;refine G.i i ?_;exact G.b (hJ (i+1) _ _ _ cv hle ⟨by omega,rfl⟩ (by omega))
  ·refine G.lF (i:Int) (L.length:Int) ?_;exact G.r (.bool true) ⟨rfl,rfl⟩
 ·rw [decide_eq_false hz] at hs;have hTL:T=L:=hs;subst hTL;refine G.idxS T 0 b0 (by kernel_rfl) hb0 ?_;refine G.cmpG .eql .u8 (b0.toNat:Int) 45 false (by kernel_rfl) rfl (by simp only [B4,decide_eq_false_iff_not]; omega) ?_;refine G.eF (T.length:Int) 0 ?_;refine G.gF (T.length:Int) 400 ?_;refine G.idxS T 0 b0 (by kernel_rfl) hb0 ?_;refine G.cmpG .eql .u8 (b0.toNat:Int) 48 false (by kernel_rfl) rfl (by simp only [B4,decide_eq_false_iff_not]; omega) ?_;refine G.l (ι:=Nat) (fun i=>[(3,.v (.string (mkS T))),(4,.v (.int .i64 (i:Int)))]) (fun _=>[]) (fun i _ m'=>i≤T.length∧m'=PH.mt) (fun i=>T.length - i) 0 ⟨by omega,rfl⟩ ?_;rintro J i hJ u' m' hle ⟨hi,rfl⟩;by_cases hlt:i < T.length
  ·refine G.lT (i:Int) (T.length:Int) ?_;have hg:=Jc hdd hlt;refine G.idxS T i _ (by kernel_rfl) (C1 hlt) ?_;refine G.cmpG .lss .u8 ((T.getD i 0).toNat:Int) 48 false (by kernel_rfl) rfl (by simp only [B4,decide_eq_false_iff_not]; omega) ?_;refine G.idxS T i _ (by kernel_rfl) (C1 hlt) ?_;refine G.cmpG .gtr .u8 ((T.getD i 0).toNat:Int) 57 false (by kernel_rfl) rfl (by simp only [B4,decide_eq_false_iff_not]; omega) ?_;refine G.i i ?_;exact G.b (hJ (i+1) _ _ _ cv hle ⟨by omega,rfl⟩ (by omega))
  ·refine G.lF (i:Int) (T.length:Int) ?_;exact G.r (.bool true) ⟨rfl,rfl⟩
theorem Afv {T:List UInt8}(h:∀ b∈T,b≠47)(hl:T.length≤1000000):Fn0 prog 82 [.string (mkS T)] u fun v _=>v=.tuple #[.string (mkS T),.string (mkS [49]),.bool false]:=by
 have hsize:(mkS T).size=T.length:=Go.Lib.size_mk _;refine Fn0.o func82 ?_;refine G.l (ι:=Nat) (fun i=>[(0,.v (.string (mkS T))),(5,.v (.int .i64 (i:Int)))]) (fun _=>[]) (fun i _ m'=>i≤T.length∧m'=PH.mt) (fun i=>T.length - i) 0 ⟨by omega,rfl⟩ ?_;rintro J i hJ u' m' hle ⟨hi,rfl⟩;by_cases hlt:i < T.length
 ·refine G.lT (i:Int) (T.length:Int) ?_;refine G.idxS T i _ (by kernel_rfl) (C1 hlt) ?_;have hne:T.getD i 0≠47:=by rw [List.getD_eq_getElem?_getD,List.getElem?_eq_getElem hlt]; exact h _ (List.getElem_mem hlt)
  refine G.cmpG .eql .u8 ((T.getD i 0).toNat:Int) 47 false (by kernel_rfl) rfl (by simp only [B4,decide_eq_false_iff_not]; intro h; exact hne (UInt8.toNat_inj.1 (by simpa using (by omega:(T.getD i 0).toNat=47)))) ?_;refine G.i i ?_;exact G.b (hJ (i+1) _ _ _ cv hle ⟨by omega,rfl⟩ (by omega))
 ·refine G.lF (i:Int) (T.length:Int) ?_;exact G.r (.tuple #[.string (mkS T),.string (mkS [49]),.bool false]) ⟨rfl,rfl⟩
theorem Agb {A B:List UInt8}(h:∀ b∈A,b≠47)(hl:(A++47::B).length≤1000000):Fn0 prog 82 [.string (mkS (A++47::B))] u fun v _=>v=.tuple #[.string (mkS A),.string (mkS B),.bool true]:=by
 have hT:∀ i,i < A.length→(A++47::B).getD i 0≠47:=by
  intro i hi;rw [List.getD_eq_getElem?_getD,List.getElem?_append_left hi,List.getElem?_eq_getElem hi]; exact h _ (List.getElem_mem hi)
 have hA:(A++47::B)[A.length]?=some 47:=by rw [List.getElem?_append_right (Nat.le_refl _)]; simp
 have hlen:(A++47::B).length=A.length+1+B.length:=by simp; omega
 have htk:(A++47::B).take A.length=A:=by simp
 have hdr:(A++47::B).drop (A.length+1)=B:=by rw [← List.drop_drop]; simp
 generalize A++47::B=T at *
 have hsize:(mkS T).size=T.length:=Go.Lib.size_mk _;refine Fn0.o func82 ?_;refine G.l (ι:=Nat) (fun i=>[(0,.v (.string (mkS T))),(5,.v (.int .i64 (i:Int)))]) (fun _=>[]) (fun i _ m'=>i≤A.length∧m'=PH.mt) (fun i=>T.length - i) 0 ⟨by omega,rfl⟩ ?_;rintro J i hJ u' m' hle ⟨hi,rfl⟩;refine G.lT (i:Int) (T.length:Int) ?_;by_cases hlt:i < A.length
 ·refine G.idxS T i _ (by kernel_rfl) (C1 (by omega)) ?_;have hne:=hT i hlt;refine G.cmpG .eql .u8 ((T.getD i 0).toNat:Int) 47 false (by kernel_rfl) rfl (by simp only [B4,decide_eq_false_iff_not]; intro h; exact hne (UInt8.toNat_inj.1 (by simpa using (by omega:(T.getD i 0).toNat=47)))) ?_;refine G.i i ?_;exact G.b (hJ (i+1) _ _ _ cv hle ⟨by omega,rfl⟩ (by omega))
 ·have:i=A.length:=by omega
  subst this;refine G.idxS T A.length 47 (by kernel_rfl) hA ?_;refine G.cmpG .eql .u8 47 47 true (by kernel_rfl) rfl rfl ?_;refine G.sliceSTo T A.length (by kernel_rfl) (by kernel_rfl) (by omega) ?_;rw [htk];refine G.p (A.length:Int) 1 ((A.length+1:Nat):Int) ?_;refine G.sliceSFrom T (A.length+1) (by kernel_rfl) (by kernel_rfl) (by omega) ?_;rw [hdr];exact G.r (.tuple #[.string (mkS A),.string (mkS B),.bool true]) ⟨rfl,rfl⟩
def Af (q:Rat):List UInt8:=if q.den=1 then Lib.itoa q.num else Lib.itoa q.num++47::Lib.itoa (q.den:Int)
def Tx (q:Rat):Prop:=Lib.nDigits q.num.natAbs≤400∧Lib.nDigits q.den≤400
theorem Tx.den (h:Tx q):Lib.nDigits ((q.den:Int)).natAbs≤400:=by simpa using h.2
theorem Tx.sz (h:Tx q):Sz q 400:=⟨Bs h.1,Bs h.2⟩
theorem Sz.mono (h:Sz q j)(hjk:j≤k):Sz q k:=⟨Nat.le_trans h.1 hjk,Nat.le_trans h.2 hjk⟩
theorem L3 (z:Int):∀ b∈Lib.itoa z,b≠47:=by
 have hd:=Mc z.natAbs;intro b hb e;subst e;rw [C4] at hb;unfold Bh at hb;split at hb
 ·simp at hb;have:=hd _ hb; simp at this
 ·have:=hd _ hb; simp at this
theorem Vf (h:Tx q):Fn0 prog 82 [.string (mkS (Af q))] u fun v _=>v=.tuple #[.string (mkS (Lib.itoa q.num)),.string (mkS (Lib.itoa (q.den:Int))),.bool (decide (q.den≠1))]:=by
 have l1:=Ek h.1;have l2:=Ek h.den;unfold Af;by_cases hd:q.den=1
 ·rw [if_pos hd,hd,show ((1:Nat):Int)=1 from rfl,Gu];exact Afv (L3 _) (by omega)
 ·rw [if_neg hd,decide_eq_true hd];exact Agb (L3 _) (by simp; omega)
theorem Eh (h:Tx q):Fn0 prog 31 [.string (mkS (Af q))] u fun v u'=>QP u' v q:=by
 refine Fn0.o func31 ?_;refine G.c call82 (Vf h) ?_;rintro v1 u1 l1 rfl;refine G.c call83 (Ks h.1) ?_;intro v2 u2 l2 k2;obtain ⟨b2,a2,n2,c2,rfl,_,_⟩:=k2.opn;refine G.c call83 (Ks h.den) ?_;intro v3 u3 l3 k3;obtain ⟨b3,a3,n3,c3,rfl,_,_⟩:=k3.opn;exact G.r (.agg #[.bool b2,.slice a2 n2 c2,.bool b3,.slice a3 n3 c3]) ⟨rfl,QP.mk (k2.mono l3) k3 rfl rfl⟩
theorem Ahe (h:Tx q):(Af q).length≤802:=by
 have l1:=Ek h.1;have l2:=Lib.decDigits_length q.den;have l3:=h.2;unfold Af;split
 ·omega
 ·rw [S5]; simp; omega
theorem Ai0 (h:q.den≠1):q.num≠0:=fun h0=>h (by have:=Rat.num_eq_zero.1 h0; subst this; rfl)
theorem Pt (h:Tx q):Fn0 prog 81 [.string (mkS (Af q))] u fun v _=>v=.tuple #[.string (mkS (Lib.itoa q.num)),.string (mkS (Lib.itoa (q.den:Int))),.bool true]:=by
 have hsize:(mkS (Af q)).size=(Af q).length:=Go.Lib.size_mk _;have hlen:=Ahe h;refine Fn0.o func81 ?_;refine G.gF ((Af q).length:Int) 802 ?_;refine G.c call82 (Vf h) ?_;rintro v1 u1 l1 rfl;refine G.c call166 (Py h.1) ?_;rintro v2 u2 l2 rfl;refine G.c call166 (Py h.den) ?_;rintro v3 u3 l3 rfl;by_cases hd:q.den=1
 ·rw [show decide (q.den≠1)=false by simp [hd]];exact G.r (.tuple #[.string (mkS (Lib.itoa q.num)),.string (mkS (Lib.itoa (q.den:Int))),.bool true]) ⟨rfl,rfl⟩
 ·rw [show decide (q.den≠1)=true by simp [hd]];have hn:=Ai0 hd;have hdn:=q.den_nz;refine G.w (Lib.itoa q.num) [48] (fun e=>hn (Gv (e.trans Dt.symm))) ?_;refine G.w (Lib.itoa (q.den:Int)) [49] (fun e=>by have:=Gv (e.trans Gu.symm); omega) ?_;refine G.w (Lib.itoa (q.den:Int)) [48] (fun e=>by have:=Gv (e.trans Dt.symm); omega) ?_;obtain ⟨b0,hb0,hb1,hb2⟩:=M5 (z:=(q.den:Int)) (by omega) (by omega);refine G.idxS (Lib.itoa (q.den:Int)) 0 b0 (by kernel_rfl) hb0 ?_;refine G.cmpG .eql .u8 (b0.toNat:Int) 45 false (by kernel_rfl) rfl (by simp only [B4,decide_eq_false_iff_not]; omega) ?_;refine G.c call83 (Ks h.1) ?_;intro v4 u4 l4 k4;obtain ⟨b4,a4,n4,c4,rfl,_,_⟩:=k4.opn;refine G.c call83 (Ks h.den) ?_;intro v5 u5 l5 k5;obtain ⟨b5,a5,n5,c5,rfl,_,_⟩:=k5.opn;refine G.c call167 (V2 (k4.mono l5) k5 (Nat.le_trans (Bs h.1) (by omega)) (Nat.le_trans (Bs h.den) (by omega))) ?_;intro v6 u6 l6 k6;rw [show Nat.gcd q.num.natAbs ((q.den:Int)).natAbs=1 from q.reduced] at k6;obtain ⟨b6,a6,n6,c6,rfl,_,_⟩:=k6.opn;refine G.c call113 (S4 k6 (Nat.le_trans Pw (by omega))) ?_;rintro v7 u7 l7 rfl;refine G.y (Lib.itoa ((1:Nat):Int)) [49] Gu ?_;exact G.r (.tuple #[.string (mkS (Lib.itoa q.num)),.string (mkS (Lib.itoa (q.den:Int))),.bool true]) ⟨rfl,rfl⟩
theorem Cp (h:Tx q):Fn0 prog 30 [.string (mkS (Af q))] u fun v _=>v=.bool true:=by
 refine Fn0.o func30 ?_;refine G.c call81 (Pt h) ?_;rintro v1 u1 l1 rfl;exact G.r (.bool true) ⟨rfl,rfl⟩
theorem Kw {x:Value}(hx:QP u x q)(h:Tx q):Fn0 prog 35 [x] u fun v _=>v=.tuple #[.string (mkS (Af q)),.int .i64 0]:=by
 obtain ⟨b,a,n,c,a',n',c',rfl,_,hn,hd⟩:=hx.opn;refine Fn0.o func35 ?_;refine G.c call88 (Yi hn (Nat.le_trans (Bs h.1) (by omega)) h.1) ?_;rintro v1 u1 l1 rfl;refine G.c call88 (Yi (hd.mono l1) (Nat.le_trans (Bs h.den) (by omega)) h.den) ?_;rintro v2 u2 l2 rfl;refine G.nF 0 0 ?_;refine G.nF 0 0 ?_;by_cases h1:q.den=1
 ·refine G.q (Lib.itoa (q.den:Int)) [49] (by rw [h1]; exact Gu) ?_;exact G.r (.tuple #[.string (mkS (Lib.itoa q.num)),.int .i64 0]) ⟨rfl,by rw [Af,if_pos h1]⟩
 ·refine G.w (Lib.itoa (q.den:Int)) [49] (fun e=>by have:=Gv (e.trans Gu.symm); omega) ?_;have e1:=Ek h.1;have e2:=Ek h.den;refine G.addS (Lib.itoa q.num) [47] (by kernel_rfl) (by simp; omega) ?_;refine G.addS (Lib.itoa q.num++[47]) (Lib.itoa (q.den:Int)) (by kernel_rfl) (by simp; omega) ?_;exact G.r (.tuple #[.string (mkS (Lib.itoa q.num++[47]++Lib.itoa (q.den:Int))),.int .i64 0]) ⟨rfl,by rw [Af,if_neg h1]; simp⟩
theorem Am0 (h:Tx q)(h':Tx r):Fn0 prog 40 [.string (mkS (Af q)),.string (mkS (Af r))] u fun v _=>v=.int .i64 (sgn (q - r).num):=by
 refine Fn0.o func40 ?_;refine G.c call30 (Cp h) ?_;rintro v1 u1 l1 rfl;refine G.c call30 (Cp h') ?_;rintro v2 u2 l2 rfl;refine G.c call31 (Eh h) ?_;intro v3 u3 l3 k3;obtain ⟨b3,a3,n3,c3,a3',n3',c3',rfl,_⟩:=k3.opn;refine G.c call31 (Eh h') ?_;intro v4 u4 l4 k4;obtain ⟨b4,a4,n4,c4,a4',n4',c4',rfl,_⟩:=k4.opn;refine G.c call32 (Wu (k3.mono l4) k4 (h.sz.mono (by omega)) (h'.sz.mono (by omega))) ?_;intro v5 u5 l5 k5;obtain ⟨b5,a5,n5,c5,a5',n5',c5',rfl,_⟩:=k5.opn;refine G.c call94 (Yn k5 (Nat.le_trans (An5 h.sz h'.sz).1 (by omega))) ?_;rintro v6 u6 l6 rfl;exact G.r _ ⟨rfl,rfl⟩
theorem Wm (h:Tx q)(h':Tx r)(h2:Tx (q+r)):Fn0 prog 13 [.string (mkS (Af q)),.string (mkS (Af r))] u fun v _=>v=.tuple #[.string (mkS (Af (q+r))),.int .i64 0]:=by
 refine Fn0.o func13 ?_;refine G.c call30 (Cp h) ?_;rintro v1 u1 l1 rfl;refine G.c call30 (Cp h') ?_;rintro v2 u2 l2 rfl;refine G.c call31 (Eh h) ?_;intro v3 u3 l3 k3;obtain ⟨b3,a3,n3,c3,a3',n3',c3',rfl,_⟩:=k3.opn;refine G.c call31 (Eh h') ?_;intro v4 u4 l4 k4;obtain ⟨b4,a4,n4,c4,a4',n4',c4',rfl,_⟩:=k4.opn;refine G.c call33 (Lw (k3.mono l4) k4 (h.sz.mono (by omega)) (h'.sz.mono (by omega))) ?_;intro v5 u5 l5 k5;obtain ⟨b5,a5,n5,c5,a5',n5',c5',rfl,_⟩:=k5.opn;refine G.c call35 (Kw k5 h2) ?_;rintro v6 u6 l6 rfl;exact G.r _ ⟨rfl,rfl⟩
end
end Go.Proofs.YtanfagpabkdmiaaGreatDoor
section
namespace Go.Proofs
open Go.Shelf
def Tryz.lays169_ren:Go.Shelf.Ren:=⟨fun | 169=>253 | n=>n,fun | 70=>303 | 9=>9 | 0=>0 | 72=>305 | 37=>251 | 127=>345 | 3=>3 | 5=>5 | n=>n,fun | n=>n⟩
theorem Tryz.lays169:Go.Proofs.Lays.n169 Tryz.prog Tryz.lays169_ren:={
 mixed:=by kernel_rfl
 f169:=Tryz.func253.trans (congrArg some (by kernel_rfl))
 t0:=Tryz.underlying0
 a0:=Tryz.isAgg0
 z0:=Tryz.sizeOf0
 v0:=Tryz.zeroValue0
 t3:=Tryz.underlying3
 a3:=Tryz.isAgg3
 z3:=Tryz.sizeOf3
 v3:=Tryz.zeroValue3
 t9:=Tryz.underlying9
 a9:=Tryz.isAgg9
 z9:=Tryz.sizeOf9
 v9:=Tryz.zeroValue9
 t37:=Tryz.underlying251
 a37:=Tryz.isAgg251
 z37:=Tryz.sizeOf251
 v37:=Tryz.zeroValue251
 t70:=Tryz.underlying303
 a70:=Tryz.isAgg303
 z70:=Tryz.sizeOf303
 v70:=Tryz.zeroValue303
 t72:=Tryz.underlying305
 a72:=Tryz.isAgg305
 z72:=Tryz.sizeOf305
 v72:=Tryz.zeroValue305
 t127:=Tryz.underlying345
 a127:=Tryz.isAgg345
 z127:=Tryz.sizeOf345
 v127:=Tryz.zeroValue345 }
theorem Tryz.Builder_Extra_169:Builder.Extra Tryz.prog Tryz.lays169_ren:={
 sizeBuilder:=by kernel_rfl
 liesBuilder:=by kernel_rfl
 t5:=Tryz.underlying5
 a5:=Tryz.isAgg5
 z5:=Tryz.sizeOf5
 v5:=Tryz.zeroValue5
 infoByte:=by kernel_rfl
 cellsByte:=by kernel_rfl
 sizeByte:=by kernel_rfl
 neB5:=by decide }
open Go.RowKit in
theorem Tryz.Builder_String (B b:Nat)(l:List UInt8)(w:World)(h:Lib.IsBuilder 305 5 B b (Lib.byteCells l) w)(h0:l≠[]) :
  Calls Tryz.prog 253 #[.pointer (some ⟨b,0,none⟩)] w fun e w'=>e=.returned (.string ⟨l.toArray⟩)∧Below B w w':=Any.Builder_String Tryz.lays169 Tryz.Builder_Extra_169 B b l w h h0
def Tryz.lays210_ren:Go.Shelf.Ren:=⟨fun | 210=>270 | 206=>312 | n=>n,fun | 9=>9 | 4=>4 | 3=>3 | n=>n,fun | n=>n⟩
def Tryz.lays103_ren:Go.Shelf.Ren:=⟨fun | 103=>226 | 210=>270 | 206=>312 | n=>n,fun | 9=>9 | 4=>4 | 24=>279 | 3=>3 | n=>n,fun | n=>n⟩
theorem Tryz.lays103:Go.Proofs.Lays.n103 Tryz.prog Tryz.lays103_ren:={
 mixed:=by kernel_rfl
 f103:=Tryz.func226.trans (congrArg some (by kernel_rfl))
 f206:=Tryz.func312.trans (congrArg some (by kernel_rfl))
 f210:=Tryz.func270.trans (congrArg some (by kernel_rfl))
 t3:=Tryz.underlying3
 a3:=Tryz.isAgg3
 z3:=Tryz.sizeOf3
 v3:=Tryz.zeroValue3
 t4:=Tryz.underlying4
 a4:=Tryz.isAgg4
 z4:=Tryz.sizeOf4
 v4:=Tryz.zeroValue4
 t9:=Tryz.underlying9
 a9:=Tryz.isAgg9
 z9:=Tryz.sizeOf9
 v9:=Tryz.zeroValue9
 t24:=Tryz.underlying279
 a24:=Tryz.isAgg279
 z24:=Tryz.sizeOf279
 v24:=Tryz.zeroValue279 }
open Go.RowKit in
theorem Tryz.strings_CutPrefix (s p:ByteArray)(w:World) :
  Calls Tryz.prog 226 #[.string s,.string p] w fun e w'=>e=.returned (.tuple #[.string ⟨(Lib.trimPrefix s.data.toList p.data.toList).toArray⟩,.bool (Lib.hasPrefix s.data.toList p.data.toList)])∧w'=w:=Any.strings_CutPrefix Tryz.lays103 s p w
def Tryz.lays283_ren:Go.Shelf.Ren:=⟨fun | 283=>294 | n=>n,fun | 3=>3 | 9=>9 | 4=>4 | n=>n,fun | n=>n⟩
theorem Tryz.lays283:Go.Proofs.Lays.n283 Tryz.prog Tryz.lays283_ren:={
 mixed:=by kernel_rfl
 f283:=Tryz.func294.trans (congrArg some (by kernel_rfl))
 t3:=Tryz.underlying3
 a3:=Tryz.isAgg3
 z3:=Tryz.sizeOf3
 v3:=Tryz.zeroValue3
 t4:=Tryz.underlying4
 a4:=Tryz.isAgg4
 z4:=Tryz.sizeOf4
 v4:=Tryz.zeroValue4
 t9:=Tryz.underlying9
 a9:=Tryz.isAgg9
 z9:=Tryz.sizeOf9
 v9:=Tryz.zeroValue9 }
open Go.Lib in
theorem Tryz.internal_strconv_small (i:Nat)(h:i < 100)(w:World) :
  Calls Tryz.prog 294 #[.int .i64 i] w fun e w'=>e=.returned (.string ⟨(Lib.decDigits i).toArray⟩)∧w'=w:=Any.internal_strconv_small Tryz.lays283 i h w
def Tryz.laysM284_ren:Go.Shelf.Ren:=⟨fun | 284=>295 | 129=>286 | 317=>325 | 318=>326 | n=>n,fun | 53=>266 | 3=>3 | 212=>363 | 0=>0 | 4=>4 | 46=>296 | 5=>5 | 9=>9 | n=>n,fun | 17=>1 | n=>n⟩
theorem Tryz.laysM284:Go.Proofs.LaysM.n284 Tryz.prog Tryz.laysM284_ren:={
 mixed:=by kernel_rfl
 f129:=Tryz.func286.trans (congrArg some (by kernel_rfl))
 f284:=Tryz.func295.trans (congrArg some (by kernel_rfl))
 f317:=Tryz.func325.trans (congrArg some (by kernel_rfl))
 f318:=Tryz.func326.trans (congrArg some (by kernel_rfl))
 t0:=Tryz.underlying0
 a0:=Tryz.isAgg0
 z0:=Tryz.sizeOf0
 v0:=Tryz.zeroValue0
 t3:=Tryz.underlying3
 a3:=Tryz.isAgg3
 z3:=Tryz.sizeOf3
 v3:=Tryz.zeroValue3
 t4:=Tryz.underlying4
 a4:=Tryz.isAgg4
 z4:=Tryz.sizeOf4
 v4:=Tryz.zeroValue4
 t5:=Tryz.underlying5
 a5:=Tryz.isAgg5
 z5:=Tryz.sizeOf5
 v5:=Tryz.zeroValue5
 t9:=Tryz.underlying9
 a9:=Tryz.isAgg9
 z9:=Tryz.sizeOf9
 v9:=Tryz.zeroValue9
 t46:=Tryz.underlying296
 a46:=Tryz.isAgg296
 z46:=Tryz.sizeOf296
 v46:=Tryz.zeroValue296
 t53:=Tryz.underlying266
 a53:=Tryz.isAgg266
 z53:=Tryz.sizeOf266
 v53:=Tryz.zeroValue266
 t212:=Tryz.underlying363
 a212:=Tryz.isAgg363
 z212:=Tryz.sizeOf363
 v212:=Tryz.zeroValue363
 g17:=by kernel_rfl
 i0:=by kernel_rfl
 i3:=by kernel_rfl
 i4:=by kernel_rfl
 i5:=by kernel_rfl
 i9:=by kernel_rfl
 i46:=by kernel_rfl
 i53:=by kernel_rfl
 i212:=by kernel_rfl
 m17:=by kernel_rfl }
open Go.Lib in
theorem Tryz.internal_strconv_numDigits (u:Nat)(h1:1≤u)(h2:u < 18446744073709551616)(w:World)(htab:Lib.TabIs Tryz.prog w "internal/strconv.uint64pow10" .u64 Lib.pow10Tab) :
  Calls Tryz.prog 295 #[.int .u64 u] w fun e w'=>e=.returned (.int .i64 (Lib.nDigits u))∧w'=w:=Any.internal_strconv_numDigits Tryz.laysM284 u h1 h2 w htab
def Tryz.lays285_ren:Go.Shelf.Ren:=⟨fun | 285=>296 | n=>n,fun | 37=>251 | 53=>266 | 3=>3 | 4=>4 | 51=>328 | 9=>9 | 5=>5 | 0=>0 | n=>n,fun | n=>n⟩
theorem Tryz.lays285:Go.Proofs.Lays.n285 Tryz.prog Tryz.lays285_ren:={
 mixed:=by kernel_rfl
 f285:=Tryz.func296.trans (congrArg some (by kernel_rfl))
 t0:=Tryz.underlying0
 a0:=Tryz.isAgg0
 z0:=Tryz.sizeOf0
 v0:=Tryz.zeroValue0
 t3:=Tryz.underlying3
 a3:=Tryz.isAgg3
 z3:=Tryz.sizeOf3
 v3:=Tryz.zeroValue3
 t4:=Tryz.underlying4
 a4:=Tryz.isAgg4
 z4:=Tryz.sizeOf4
 v4:=Tryz.zeroValue4
 t5:=Tryz.underlying5
 a5:=Tryz.isAgg5
 z5:=Tryz.sizeOf5
 v5:=Tryz.zeroValue5
 t9:=Tryz.underlying9
 a9:=Tryz.isAgg9
 z9:=Tryz.sizeOf9
 v9:=Tryz.zeroValue9
 t37:=Tryz.underlying251
 a37:=Tryz.isAgg251
 z37:=Tryz.sizeOf251
 v37:=Tryz.zeroValue251
 t51:=Tryz.underlying328
 a51:=Tryz.isAgg328
 z51:=Tryz.sizeOf328
 v51:=Tryz.zeroValue328
 t53:=Tryz.underlying266
 a53:=Tryz.isAgg266
 z53:=Tryz.sizeOf266
 v53:=Tryz.zeroValue266 }
open Go.RowKit Go.Sort Go.Lib in
theorem Tryz.internal_strconv_formatBase10 (blk off cap:Nat)(u:Nat)(d:Array UInt8)(w:World)(hH:Holds (fun (b:UInt8)=>Value.int .u8 (b.toNat:Int)) w blk off d)(hu:u < 10 ^ d.size)(hu64:u < 18446744073709551616)(hsz:d.size < 4611686018427387904) :
  Calls Tryz.prog 296 #[.slice (some ⟨blk,off,none⟩) d.size cap,.int .u64 u] w fun e w' =>
   e=.returned (.tuple #[])∧∃ (n v':Nat) (dk:Array UInt8),w'=(putRow (fun (b:UInt8)=>Value.int .u8 (b.toNat:Int)) w blk off dk).drewN n∧FmtInv d.size u 0 v' dk:=Any.internal_strconv_formatBase10 Tryz.lays285 blk off cap u d w hH hu hu64 hsz
def Tryz.laysPu14_ren:Go.Shelf.Ren:=⟨fun | 14=>227 | 16=>271 | 17=>272 | 19=>313 | 20=>314 | 21=>315 | 22=>316 | 23=>317 | 24=>318 | 25=>334 | 27=>336 | 26=>335 | 28=>341 | 29=>342 | 30=>294 | 31=>295 | 32=>296 | 33=>297 | 35=>286 | 34=>325 | 36=>326 | 37=>327 | 38=>328 | 39=>338 | 40=>339 | n=>n,fun | 9=>9 | 3=>3 | 22=>266 | 24=>282 | 25=>283 | 4=>4 | 34=>351 | 5=>5 | 36=>296 | 37=>251 | 0=>0 | 39=>353 | 21=>21 | 44=>371 | 47=>345 | 50=>379 | 48=>377 | 2=>2 | 52=>340 | 55=>342 | 59=>363 | 60=>328 | 20=>20 | 61=>364 | 65=>380 | 66=>381 | 67=>186 | n=>n,fun | 0=>2 | 1=>3 | 2=>1 | 3=>4 | 4=>5 | n=>n⟩
theorem Tryz.laysPu14:Go.Proofs.LaysPu.n14 Tryz.prog Tryz.laysPu14_ren:={
 mixed:=by kernel_rfl
 f14:=Tryz.func227.trans (congrArg some (by kernel_rfl))
 f16:=Tryz.func271.trans (congrArg some (by kernel_rfl))
 f17:=Tryz.func272.trans (congrArg some (by kernel_rfl))
 f19:=Tryz.func313.trans (congrArg some (by kernel_rfl))
 f20:=Tryz.func314.trans (congrArg some (by kernel_rfl))
 f21:=Tryz.func315.trans (congrArg some (by kernel_rfl))
 f22:=Tryz.func316.trans (congrArg some (by kernel_rfl))
 f23:=Tryz.func317.trans (congrArg some (by kernel_rfl))
 f24:=Tryz.func318.trans (congrArg some (by kernel_rfl))
 f25:=Tryz.func334.trans (congrArg some (by kernel_rfl))
 f26:=Tryz.func335.trans (congrArg some (by kernel_rfl))
 f27:=Tryz.func336.trans (congrArg some (by kernel_rfl))
 f28:=Tryz.func341.trans (congrArg some (by kernel_rfl))
 f29:=Tryz.func342.trans (congrArg some (by kernel_rfl))
 f30:=Tryz.func294.trans (congrArg some (by kernel_rfl))
 f31:=Tryz.func295.trans (congrArg some (by kernel_rfl))
 f32:=Tryz.func296.trans (congrArg some (by kernel_rfl))
 f33:=Tryz.func297.trans (congrArg some (by kernel_rfl))
 f34:=Tryz.func325.trans (congrArg some (by kernel_rfl))
 f35:=Tryz.func286.trans (congrArg some (by kernel_rfl))
 f36:=Tryz.func326.trans (congrArg some (by kernel_rfl))
 f37:=Tryz.func327.trans (congrArg some (by kernel_rfl))
 f38:=Tryz.func328.trans (congrArg some (by kernel_rfl))
 f39:=Tryz.func338.trans (congrArg some (by kernel_rfl))
 f40:=Tryz.func339.trans (congrArg some (by kernel_rfl))
 t0:=Tryz.underlying0
 a0:=Tryz.isAgg0
 z0:=Tryz.sizeOf0
 v0:=Tryz.zeroValue0
 i0:=by kernel_rfl
 t2:=Tryz.underlying2
 a2:=Tryz.isAgg2
 z2:=Tryz.sizeOf2
 v2:=Tryz.zeroValue2
 i2:=by kernel_rfl
 t3:=Tryz.underlying3
 a3:=Tryz.isAgg3
 z3:=Tryz.sizeOf3
 v3:=Tryz.zeroValue3
 i3:=by kernel_rfl
 t4:=Tryz.underlying4
 a4:=Tryz.isAgg4
 z4:=Tryz.sizeOf4
 v4:=Tryz.zeroValue4
 i4:=by kernel_rfl
 t5:=Tryz.underlying5
 a5:=Tryz.isAgg5
 z5:=Tryz.sizeOf5
 v5:=Tryz.zeroValue5
 i5:=by kernel_rfl
 t9:=Tryz.underlying9
 a9:=Tryz.isAgg9
 z9:=Tryz.sizeOf9
 v9:=Tryz.zeroValue9
 i9:=by kernel_rfl
 t20:=Tryz.underlying20
 a20:=Tryz.isAgg20
 z20:=Tryz.sizeOf20
 v20:=Tryz.zeroValue20
 i20:=by kernel_rfl
 t21:=Tryz.underlying21
 a21:=Tryz.isAgg21
 z21:=Tryz.sizeOf21
 v21:=Tryz.zeroValue21
 i21:=by kernel_rfl
 t22:=Tryz.underlying266
 a22:=Tryz.isAgg266
 z22:=Tryz.sizeOf266
 v22:=Tryz.zeroValue266
 i22:=by kernel_rfl
 t24:=Tryz.underlying282
 a24:=Tryz.isAgg282
 z24:=Tryz.sizeOf282
 v24:=Tryz.zeroValue282
 i24:=by kernel_rfl
 t25:=Tryz.underlying283
 a25:=Tryz.isAgg283
 z25:=Tryz.sizeOf283
 v25:=Tryz.zeroValue283
 i25:=by kernel_rfl
 t34:=Tryz.underlying351
 a34:=Tryz.isAgg351
 z34:=Tryz.sizeOf351
 v34:=Tryz.zeroValue351
 i34:=by kernel_rfl
 c34:=by kernel_rfl
 t36:=Tryz.underlying296
 a36:=Tryz.isAgg296
 z36:=Tryz.sizeOf296
 v36:=Tryz.zeroValue296
 i36:=by kernel_rfl
 t37:=Tryz.underlying251
 a37:=Tryz.isAgg251
 z37:=Tryz.sizeOf251
 v37:=Tryz.zeroValue251
 i37:=by kernel_rfl
 t39:=Tryz.underlying353
 a39:=Tryz.isAgg353
 z39:=Tryz.sizeOf353
 v39:=Tryz.zeroValue353
 i39:=by kernel_rfl
 t44:=Tryz.underlying371
 a44:=Tryz.isAgg371
 z44:=Tryz.sizeOf371
 v44:=Tryz.zeroValue371
 i44:=by kernel_rfl
 t47:=Tryz.underlying345
 a47:=Tryz.isAgg345
 z47:=Tryz.sizeOf345
 v47:=Tryz.zeroValue345
 i47:=by kernel_rfl
 t48:=Tryz.underlying377
 a48:=Tryz.isAgg377
 z48:=Tryz.sizeOf377
 v48:=Tryz.zeroValue377
 i48:=by kernel_rfl
 t50:=Tryz.underlying379
 a50:=Tryz.isAgg379
 z50:=Tryz.sizeOf379
 v50:=Tryz.zeroValue379
 i50:=by kernel_rfl
 t52:=Tryz.underlying340
 a52:=Tryz.isAgg340
 z52:=Tryz.sizeOf340
 v52:=Tryz.zeroValue340
 i52:=by kernel_rfl
 t55:=Tryz.underlying342
 a55:=Tryz.isAgg342
 z55:=Tryz.sizeOf342
 v55:=Tryz.zeroValue342
 i55:=by kernel_rfl
 t59:=Tryz.underlying363
 a59:=Tryz.isAgg363
 z59:=Tryz.sizeOf363
 v59:=Tryz.zeroValue363
 i59:=by kernel_rfl
 t60:=Tryz.underlying328
 a60:=Tryz.isAgg328
 z60:=Tryz.sizeOf328
 v60:=Tryz.zeroValue328
 i60:=by kernel_rfl
 t61:=Tryz.underlying364
 a61:=Tryz.isAgg364
 z61:=Tryz.sizeOf364
 t65:=Tryz.underlying380
 a65:=Tryz.isAgg380
 z65:=Tryz.sizeOf380
 v65:=Tryz.zeroValue380
 i65:=by kernel_rfl
 t66:=Tryz.underlying381
 a66:=Tryz.isAgg381
 z66:=Tryz.sizeOf381
 v66:=Tryz.zeroValue381
 i66:=by kernel_rfl
 t67:=Tryz.underlying186
 a67:=Tryz.isAgg186
 z67:=Tryz.sizeOf186
 v67:=Tryz.zeroValue186
 i67:=by kernel_rfl
 g0:=by kernel_rfl
 m0:=by kernel_rfl
 g1:=by kernel_rfl
 m1:=by kernel_rfl
 g2:=by kernel_rfl
 m2:=by kernel_rfl
 g3:=by kernel_rfl
 m3:=by kernel_rfl
 g4:=by kernel_rfl
 m4:=by kernel_rfl }
open Go.RowKit in
theorem Tryz.strconv_ParseUint_10_at64_ok (s:ByteArray)(hmax:s.size≤9223372036854775806)(u:Nat)(h:Lib.parseUintB 64 s.data.toList=.ok u)(w:World) :
  Calls Tryz.prog 227 #[.string s,.int .i64 10,.int .i64 64] w fun e w'=>e=.returned (.tuple #[.int .u64 u,.nilIface])∧(w'=w∨w'=Lib.bytesWorld w 5 s):=Any.strconv_ParseUint_10_at64_ok Tryz.laysPu14 s hmax u h w
def Tryz.lays219_ren:Go.Shelf.Ren:=⟨fun | 219=>269 | 217=>308 | 225=>309 | 224=>310 | 267=>311 | 266=>332 | 314=>333 | n=>n,fun | 9=>9 | 3=>3 | 4=>4 | 5=>5 | 46=>296 | 146=>331 | 51=>328 | n=>n,fun | 1=>0 | n=>n⟩
theorem Tryz.lays219:Go.Proofs.Lays.n219 Tryz.prog Tryz.lays219_ren:={
 mixed:=by kernel_rfl
 f217:=Tryz.func308.trans (congrArg some (by kernel_rfl))
 f219:=Tryz.func269.trans (congrArg some (by kernel_rfl))
 f224:=Tryz.func310.trans (congrArg some (by kernel_rfl))
 f225:=Tryz.func309.trans (congrArg some (by kernel_rfl))
 f266:=Tryz.func332.trans (congrArg some (by kernel_rfl))
 f267:=Tryz.func311.trans (congrArg some (by kernel_rfl))
 f314:=Tryz.func333.trans (congrArg some (by kernel_rfl))
 t3:=Tryz.underlying3
 a3:=Tryz.isAgg3
 z3:=Tryz.sizeOf3
 v3:=Tryz.zeroValue3
 t4:=Tryz.underlying4
 a4:=Tryz.isAgg4
 z4:=Tryz.sizeOf4
 v4:=Tryz.zeroValue4
 t5:=Tryz.underlying5
 a5:=Tryz.isAgg5
 z5:=Tryz.sizeOf5
 v5:=Tryz.zeroValue5
 t9:=Tryz.underlying9
 a9:=Tryz.isAgg9
 z9:=Tryz.sizeOf9
 v9:=Tryz.zeroValue9
 t46:=Tryz.underlying296
 a46:=Tryz.isAgg296
 z46:=Tryz.sizeOf296
 v46:=Tryz.zeroValue296
 t51:=Tryz.underlying328
 a51:=Tryz.isAgg328
 z51:=Tryz.sizeOf328
 v51:=Tryz.zeroValue328
 t146:=Tryz.underlying331
 a146:=Tryz.isAgg331
 z146:=Tryz.sizeOf331
 v146:=Tryz.zeroValue331
 g1:=by kernel_rfl }
open Go.RowKit Go.Lib in
theorem Tryz.stringslite_Index_one (s:ByteArray)(c:UInt8)(w:World) :
  Calls Tryz.prog 269 #[.string s,.string ⟨#[c]⟩] w fun e w'=>e=.returned (.int .i64 (Lib.indexByte s.data.toList c))∧w'=w:=Any.stringslite_Index_one Tryz.lays219 s c w
def Tryz.lays101_ren:Go.Shelf.Ren:=⟨fun | 101=>265 | 208=>307 | 206=>312 | n=>n,fun | 9=>9 | 4=>4 | 3=>3 | n=>n,fun | n=>n⟩
theorem Tryz.lays101:Go.Proofs.Lays.n101 Tryz.prog Tryz.lays101_ren:={
 mixed:=by kernel_rfl
 f101:=Tryz.func265.trans (congrArg some (by kernel_rfl))
 f206:=Tryz.func312.trans (congrArg some (by kernel_rfl))
 f208:=Tryz.func307.trans (congrArg some (by kernel_rfl))
 t3:=Tryz.underlying3
 a3:=Tryz.isAgg3
 z3:=Tryz.sizeOf3
 v3:=Tryz.zeroValue3
 t4:=Tryz.underlying4
 a4:=Tryz.isAgg4
 z4:=Tryz.sizeOf4
 v4:=Tryz.zeroValue4
 t9:=Tryz.underlying9
 a9:=Tryz.isAgg9
 z9:=Tryz.sizeOf9
 v9:=Tryz.zeroValue9 }
open Go.RowKit Go.Lib in
theorem Tryz.strings_TrimPrefix (s p:ByteArray)(w:World) :
  Calls Tryz.prog 265 #[.string s,.string p] w fun e w'=>e=.returned (.string ⟨(Lib.trimPrefix s.data.toList p.data.toList).toArray⟩)∧w'=w:=Any.strings_TrimPrefix Tryz.lays101 s p w
def Tryz.lays212_ren:Go.Shelf.Ren:=⟨fun | 212=>247 | 263=>289 | 264=>290 | n=>n,fun | 46=>296 | 51=>328 | 146=>331 | 53=>266 | 148=>333 | n=>n,fun | n=>n⟩
theorem Tryz.lays212:Go.Proofs.Lays.n212 Tryz.prog Tryz.lays212_ren:={
 mixed:=by kernel_rfl
 f212:=Tryz.func247.trans (congrArg some (by kernel_rfl))
 f263:=Tryz.func289.trans (congrArg some (by kernel_rfl))
 f264:=Tryz.func290.trans (congrArg some (by kernel_rfl))
 t46:=Tryz.underlying296
 a46:=Tryz.isAgg296
 z46:=Tryz.sizeOf296
 v46:=Tryz.zeroValue296
 t51:=Tryz.underlying328
 a51:=Tryz.isAgg328
 z51:=Tryz.sizeOf328
 v51:=Tryz.zeroValue328
 t53:=Tryz.underlying266
 a53:=Tryz.isAgg266
 z53:=Tryz.sizeOf266
 v53:=Tryz.zeroValue266
 t146:=Tryz.underlying331
 a146:=Tryz.isAgg331
 z146:=Tryz.sizeOf331
 v146:=Tryz.zeroValue331
 t148:=Tryz.underlying333
 a148:=Tryz.isAgg333
 z148:=Tryz.sizeOf333
 v148:=Tryz.zeroValue333 }
open Go.RowKit Go.Lib in
theorem Tryz.bits_Mul (x y:Nat)(hx:x < 18446744073709551616)(hy:y < 18446744073709551616)(w:World) :
  Calls Tryz.prog 247 #[.int .u64 x,.int .u64 y] w fun e w'=>e=.returned (.tuple #[.int .u64 ((x*y / 18446744073709551616:Nat):Int),.int .u64 ((x*y % 18446744073709551616:Nat):Int)])∧w'=w:=Any.bits_Mul Tryz.lays212 x y hx hy w
def Tryz.lays105_ren:Go.Shelf.Ren:=⟨fun | 105=>252 | 212=>247 | 99=>299 | 165=>300 | 166=>251 | 170=>301 | 169=>253 | 263=>289 | 264=>290 | 206=>312 | 240=>298 | 241=>330 | 276=>329 | 277=>340 | n=>n,fun | 9=>9 | 3=>3 | 4=>4 | 20=>20 | 0=>0 | 46=>296 | 109=>299 | 5=>5 | 72=>305 | 76=>306 | 51=>328 | 146=>331 | 53=>266 | 148=>333 | 70=>303 | 37=>251 | 75=>282 | 127=>345 | 164=>365 | 80=>186 | n=>n,fun | n=>n⟩
theorem Tryz.lays105:Go.Proofs.Lays.n105 Tryz.prog Tryz.lays105_ren:={
 mixed:=by kernel_rfl
 f99:=Tryz.func299.trans (congrArg some (by kernel_rfl))
 f105:=Tryz.func252.trans (congrArg some (by kernel_rfl))
 f165:=Tryz.func300.trans (congrArg some (by kernel_rfl))
 f166:=Tryz.func251.trans (congrArg some (by kernel_rfl))
 f169:=Tryz.func253.trans (congrArg some (by kernel_rfl))
 f170:=Tryz.func301.trans (congrArg some (by kernel_rfl))
 f206:=Tryz.func312.trans (congrArg some (by kernel_rfl))
 f212:=Tryz.func247.trans (congrArg some (by kernel_rfl))
 f240:=Tryz.func298.trans (congrArg some (by kernel_rfl))
 f241:=Tryz.func330.trans (congrArg some (by kernel_rfl))
 f263:=Tryz.func289.trans (congrArg some (by kernel_rfl))
 f264:=Tryz.func290.trans (congrArg some (by kernel_rfl))
 f276:=Tryz.func329.trans (congrArg some (by kernel_rfl))
 f277:=Tryz.func340.trans (congrArg some (by kernel_rfl))
 t0:=Tryz.underlying0
 a0:=Tryz.isAgg0
 z0:=Tryz.sizeOf0
 v0:=Tryz.zeroValue0
 t3:=Tryz.underlying3
 a3:=Tryz.isAgg3
 z3:=Tryz.sizeOf3
 v3:=Tryz.zeroValue3
 t4:=Tryz.underlying4
 a4:=Tryz.isAgg4
 z4:=Tryz.sizeOf4
 v4:=Tryz.zeroValue4
 t5:=Tryz.underlying5
 a5:=Tryz.isAgg5
 z5:=Tryz.sizeOf5
 v5:=Tryz.zeroValue5
 t9:=Tryz.underlying9
 a9:=Tryz.isAgg9
 z9:=Tryz.sizeOf9
 v9:=Tryz.zeroValue9
 t20:=Tryz.underlying20
 a20:=Tryz.isAgg20
 z20:=Tryz.sizeOf20
 v20:=Tryz.zeroValue20
 t37:=Tryz.underlying251
 a37:=Tryz.isAgg251
 z37:=Tryz.sizeOf251
 v37:=Tryz.zeroValue251
 t46:=Tryz.underlying296
 a46:=Tryz.isAgg296
 z46:=Tryz.sizeOf296
 v46:=Tryz.zeroValue296
 t51:=Tryz.underlying328
 a51:=Tryz.isAgg328
 z51:=Tryz.sizeOf328
 v51:=Tryz.zeroValue328
 t53:=Tryz.underlying266
 a53:=Tryz.isAgg266
 z53:=Tryz.sizeOf266
 v53:=Tryz.zeroValue266
 t70:=Tryz.underlying303
 a70:=Tryz.isAgg303
 z70:=Tryz.sizeOf303
 v70:=Tryz.zeroValue303
 t72:=Tryz.underlying305
 a72:=Tryz.isAgg305
 z72:=Tryz.sizeOf305
 v72:=Tryz.zeroValue305
 t75:=Tryz.underlying282
 a75:=Tryz.isAgg282
 z75:=Tryz.sizeOf282
 v75:=Tryz.zeroValue282
 t76:=Tryz.underlying306
 a76:=Tryz.isAgg306
 z76:=Tryz.sizeOf306
 v76:=Tryz.zeroValue306
 t109:=Tryz.underlying299
 a109:=Tryz.isAgg299
 z109:=Tryz.sizeOf299
 v109:=Tryz.zeroValue299
 t127:=Tryz.underlying345
 a127:=Tryz.isAgg345
 z127:=Tryz.sizeOf345
 v127:=Tryz.zeroValue345
 t146:=Tryz.underlying331
 a146:=Tryz.isAgg331
 z146:=Tryz.sizeOf331
 v146:=Tryz.zeroValue331
 t148:=Tryz.underlying333
 a148:=Tryz.isAgg333
 z148:=Tryz.sizeOf333
 v148:=Tryz.zeroValue333
 t164:=Tryz.underlying365
 a164:=Tryz.isAgg365
 z164:=Tryz.sizeOf365
 v164:=Tryz.zeroValue365 }
theorem Tryz.Builder_Extra_105:Builder.Extra Tryz.prog Tryz.lays105_ren:={
 sizeBuilder:=by kernel_rfl
 liesBuilder:=by kernel_rfl
 t5:=Tryz.underlying5
 a5:=Tryz.isAgg5
 z5:=Tryz.sizeOf5
 v5:=Tryz.zeroValue5
 infoByte:=by kernel_rfl
 cellsByte:=by kernel_rfl
 sizeByte:=by kernel_rfl
 neB5:=by decide }
open Go.RowKit Go.Lib in
theorem Tryz.strings_Repeat (s:ByteArray)(c:Nat)(w:World)(hc:c≤9223372036854775807)(hlen:s.size*c≤140737488355328) :
  Calls Tryz.prog 252 #[.string s,.int .i64 c] w fun e w'=>e=.returned (.string ⟨(Lib.repeatL s.data.toList c).toArray⟩)∧Below w.heap.size w w':=Any.strings_Repeat Tryz.lays105 Tryz.Builder_Extra_105 s c w hc hlen
end Go.Proofs
end
namespace Go.Proofs.YtanfagpabkdmiaaGreatDoor
open Go.Proofs.Tryz
section
open Go.Shelf Go.RowKit
theorem Aad:(prog.info? 305).map (·.size)=some 2:=by kernel_rfl
theorem Ahv:liesAt prog prog.depth 305 (2 / prog.cellsOf 305) 0 305 1=true:=by kernel_rfl
theorem Afz:(prog.info? 5).map (fun i=>(i.zero,i.size,i.bytes))=some (some (.int .u8 0),1,1):=by kernel_rfl
set_option maxRecDepth 100000 in
theorem Sh (b:Nat)(w:World)(h0:w.cell? ⟨b,0,none⟩=some (.pointer (some ⟨b,0,none⟩))) :
  Calls prog 298 #[.pointer (some ⟨b,0,none⟩)] w fun e w'=>e=.returned (.tuple #[])∧w'=w:=by
 obtain ⟨j,hj,_⟩:=Option.map_eq_some_iff.1 Aad
 go_enter func298,ntmps298
 go_wp2
 rw [Lib.run_neq_ptr_same w _ Tryz.underlying303 hj]
 go_wp2
 go_end0
 exact ⟨rfl,rfl⟩
set_option maxRecDepth 100000 in
theorem Qq (b:Nat)(w:World)(h0:w.cell? ⟨b,0,none⟩=some (.pointer none))(hsh:w.shape? b=some (305,2))(hfz:w.frozen? ⟨b,0,none⟩=false) :
  Calls prog 298 #[.pointer (some ⟨b,0,none⟩)] w fun e w'=>e=.returned (.tuple #[])∧w'=w.setCell ⟨b,0,none⟩ (.pointer (some ⟨b,0,none⟩)):=by
 obtain ⟨j,hj,hjs⟩:=Option.map_eq_some_iff.1 Aad
 go_enter func298,ntmps298
 go_wp2
 rw [Lib.run_to_unsafe w ⟨b,0,none⟩ Tryz.underlying303 Tryz.underlying365 hj (by rw [hjs]; decide) hsh (Nat.zero_lt_succ 1)];simp only [Result.andThen];rw [Oper.upon_value]
 go_wp2
 rw [run_callFunc_extern func329 (by kernel_rfl) (by kernel_rfl) (by kernel_rfl) (e:=Extern.AbiNoEscape.same) (by kernel_rfl)];rw [Lib.run_noEscape];simp only [Result.andThen];rw [Oper.upon_value]
 go_wp2
 rw [Lib.run_from_unsafe w ⟨b,0,none⟩ Tryz.underlying365 Tryz.underlying303 hj hsh Ahv];simp only [Result.andThen];rw [Oper.upon_value]
 go_wp2
 go_end0
 exact ⟨rfl,rfl⟩
theorem Ud (B b:Nat)(bs:List Value)(w:World)(h:Lib.IsBuilder 305 5 B b bs w) :
  Calls prog 298 #[.pointer (some ⟨b,0,none⟩)] w fun e w'=>e=.returned (.tuple #[])∧(Lib.BuilderAt 305 5 B b (.pointer (some ⟨b,0,none⟩)) bs w'∧Below B w w'):=by
 rcases h with h | h
 ·refine (Qq b w h.cell0 h.shape h.frozen0).mono ?_;rintro e w' ⟨rfl,rfl⟩;exact ⟨rfl,h.used _,(Below.refl B w).setCell (p:=⟨b,0,none⟩) h.1 _⟩
 ·refine (Sh b w h.cell0).mono ?_;rintro e w' ⟨rfl,rfl⟩;exact ⟨rfl,h,Below.refl B _⟩
set_option maxRecDepth 100000 in
theorem Ch (B b:Nat)(bs:List Value)(s:ByteArray)(w:World)(h:Lib.IsBuilder 305 5 B b bs w)(hlen:bs.length+s.size≤140737488355328)(hBw:B≤w.heap.size) :
  Calls prog 251 #[.pointer (some ⟨b,0,none⟩),.string s] w fun e w'=>e=.returned (.tuple #[.int .i64 s.size,.nilIface])∧(Lib.BuilderAt 305 5 B b (.pointer (some ⟨b,0,none⟩)) (bs++Lib.strCells s) w'∧Below B w w'):=by
 obtain ⟨i0,hi,hz0,hz1,hz2⟩:=info_parts Afz
 go_enter func251,ntmps251
 go_wp2_with fail
 refine (Ud B b bs _ h).mono ?_;rintro e w1 ⟨rfl,h1,hb1⟩;obtain ⟨hB,v,hbk,hown,hne⟩:=h1;have c0:w1.cell? ⟨b,0,none⟩=some (.pointer (some ⟨b,0,none⟩)):=by rw [Lib.cell_of_heap hbk]; rfl
 have c1:w1.cell? ⟨b,1,none⟩=some v:=by rw [Lib.cell_of_heap hbk]; rfl
 go_wp2_with (at_builtin; refine Lib.wpList_append_own_string _ rfl _ _ 251 9 rfl B 5 i0 Tryz.underlying251 Tryz.underlying9 hi hz0 hz1 hz2 _ _ _ rfl hown s rfl ?c3 ?c4 ?c5 ?_)
 case c3=>unfold maxLen; omega
 case c4=>omega
 case c5=>have:=hb1.size; omega
 intro v' w2 hown' hgrow _;have hlt:b < w1.heap.size:=by
  rcases Nat.lt_or_ge b w1.heap.size with h' | h'
  ·exact h'
  ·simp [Array.getElem?_eq_none h'] at hbk
 have hb2:w2.heap[b]?=some (.cells #[.pointer (some ⟨b,0,none⟩),v] 305 (0,0)):=by
  rw [hgrow.block b hlt (fun e=>hne e.symm)];exact hbk
 have d0:w2.cell? ⟨b,0,none⟩=some (.pointer (some ⟨b,0,none⟩)):=by rw [Lib.cell_of_heap hb2]; rfl
 have d1:w2.cell? ⟨b,1,none⟩=some v:=by rw [Lib.cell_of_heap hb2]; rfl
 have f1:w2.frozen? ⟨b,1,none⟩=false:=Lib.frozen_of_heap hb2 1;obtain ⟨ao,n',cap,rfl⟩:∃ ao n' cap,v'=.slice ao n' cap:=by
  rcases hown'.2 with ⟨hv,_⟩ | ⟨g,cap,cur,hv,_⟩
  ·exact ⟨_,_,_,hv⟩
  ·exact ⟨_,_,_,hv⟩
 go_wp2
 go_ret2
 refine ⟨rfl,?_,?_⟩
 ·exact Lib.BuilderAt.put (T:=305) (e:=5) hB hb2 (bs':=bs++Lib.strCells s) (by simpa [Lib.strCells_length] using hown') (by decide)
 ·exact (hb1.grown hgrow (by have:=hb1.size; omega) (fun k hk=>(hown.lt k hk).1)).setCell (p:=⟨b,1,none⟩) hB _
end
section
open Go.Shelf Go.RowKit Go.Sort Go.Lib
set_option maxRecDepth 100000 in
theorem R5 (u:Nat)(hu64:u < 18446744073709551616)(w:World)(htab:Lib.TabIs prog w "internal/strconv.uint64pow10" .u64 Lib.pow10Tab) :
  Calls prog 250 #[.int .u64 u,.int .i64 10] w fun e w'=>e=.returned (.string ⟨(Lib.decDigits u).toArray⟩)∧Below w.heap.size w w':=by
 by_cases hs:u < 100
 ·go_enter func250,ntmps250
  go_wp2_with fail
  refine (Tryz.internal_strconv_small u hs _).mono ?_;rintro e w' ⟨rfl,rfl⟩
  go_wp2_with fail
  go_ret
  exact ⟨rfl,Below.refl _ _⟩
 ·have hu1:1≤u:=by omega
  have hnd20:Lib.nDigits u≤20:=by have:=Lib.numDigits_eq u hu1 hu64; split at this <;> omega
  have hal:prog.arrayLen 340=24:=by kernel_rfl
  have hsl1:∀ W,(Instr.sliceAt 340 (.pointer (some ⟨w.heap.size,0,none⟩)) none (some (.int .i64 (Lib.nDigits u:Int))) none).run prog W=.ok (.slice (some ⟨w.heap.size,0,none⟩) (Lib.nDigits u) 24) W:=fun W=>by
   rw [run_sliceAt_array_h W 340 ⟨w.heap.size,0,none⟩ (by kernel_rfl) .i64 (Lib.nDigits u:Int) (by omega) (by rw [hal]; omega)]
   go_simp
  have hH0:=Lib.holds_zero0 w 340 (Lib.nDigits u) (by omega);have hfmt:=Tryz.internal_strconv_formatBase10 w.heap.size 0 24 u (Array.replicate (Lib.nDigits u) 0) (w.alloc (.cells Lib.zeros24 340)) hH0 (by rw [Array.size_replicate]; exact Lib.lt_pow_nDigits u) hu64 (by rw [Array.size_replicate]; omega);rw [Array.size_replicate] at hfmt;have HH0:=Lib.hid hH0;clear hH0 hal
  go_enter func250,ntmps250
  go_wp2_with fail
  refine (Tryz.internal_strconv_numDigits u hu1 hu64 _ (Lib.tabIs_alloc htab _)).mono ?_;rintro e w' ⟨rfl,rfl⟩
  go_wp2_with fail
  refine hfmt.mono ?_;rintro e w' ⟨rfl,k,v',dk,rfl,hF⟩;have hcv:(convert 251 9 (.slice (some ⟨w.heap.size,0,none⟩) (Lib.nDigits u) 24)).run prog ((putRow (fun (b:UInt8)=>Value.int .u8 (b.toNat:Int)) (w.alloc (.cells Lib.zeros24 340)) w.heap.size 0 dk).drewN k)=.ok (.string ⟨(Lib.decDigits u).toArray⟩) ((putRow (fun (b:UInt8)=>Value.int .u8 (b.toNat:Int)) (w.alloc (.cells Lib.zeros24 340)) w.heap.size 0 dk).drewN k):=by
   have h:=run_convert_bytes_back (P:=prog) ((putRow (fun (b:UInt8)=>Value.int .u8 (b.toNat:Int)) (w.alloc (.cells Lib.zeros24 340)) w.heap.size 0 dk).drewN k) 251 9 5 ⟨w.heap.size,0,none⟩ 24 (Lib.decDigits u) Tryz.underlying251 Tryz.underlying5 Tryz.underlying9 (fun j hj=>by
    rw [Lib.row_is_numeral hF j hj,Lib.add_plain,World.cell?_drewN];exact cell?_putRow (fun (b:UInt8)=>Value.int .u8 (b.toNat:Int)) _ w.heap.size 0 _ dk HH0.out (by rw [hF.size,Array.size_replicate]) j (by rw [hF.size]; rw [Lib.decDigits_length] at hj; exact hj))
   rw [Lib.decDigits_length] at h;exact h
  go_wp2_with fail
  go_ret
  refine ⟨rfl,?_⟩;obtain ⟨os,eo⟩:=Lib.fin_at w (.cells Lib.zeros24 340) dk k 0;rw [eo];exact Lib.below_grow _ w (Nat.le_refl _) k os
end
section
open Go.Shelf Go.RowKit Go.Sort Go.Lib
variable {B b d k n:Nat}{T e:TypeId}{bs:List Value}{neg:Bool}{w w':World}
theorem L5 {P:Program}{name:String}{k:IntKind}{zs:List Int}(h:TabIs P w name k zs)(x:Ext w w'):TabIs P w' name k zs:=by
 unfold TabIs World.var? at *
 cases hg:P.globalNamed name with
 | none=>simp [hg] at h
 | some g =>
  simp only [hg,Option.bind_some] at h ⊢;have hlt:g < w.heap.size:=by
   rcases Nat.lt_or_ge g w.heap.size with h' | h'
   ·exact h'
   ·simp [Array.getElem?_eq_none h'] at h
  rw [Below.block x g hlt]; exact h
theorem Qn {size:Nat}{v:Value}{xs:List Value}(h:w.ownsRow B e size v n xs)(x:Ext w w'):w'.ownsRow B e size v n xs:=by
 obtain ⟨hl,h0 | ⟨g,cap,cur,hv,hb,hh,r⟩⟩:=h
 ·exact ⟨hl,.inl h0⟩
 ·exact ⟨hl,.inr ⟨g,cap,cur,hv,hb,by rw [Below.block x g (Bw hh)]; exact hh,r⟩⟩
theorem Mk {p:Value}(h:BuilderAt T e B b p bs w)(x:Ext w w'):BuilderAt T e B b p bs w':=by
 obtain ⟨hB,v,hb,ho,hne⟩:=h;exact ⟨hB,v,by rw [Below.block x b (Bw hb)]; exact hb,Qn ho x,hne⟩
theorem Du (h:IsBuilder T e B b bs w)(x:Ext w w'):IsBuilder T e B b bs w' :=
 h.elim (fun h=>.inl (Mk h x)) (fun h=>.inr (Mk h x))
theorem Aik (n j k:Nat):ld n (j+k)=ld n j++ld (n / 10 ^ j) k:=by
 induction k with
 | zero=>simp [ld]
 | succ k ih =>
  rw [← Nat.add_assoc,Q2,Q2,ih,List.append_assoc]
  congr 3
  unfold dg;rw [Nat.div_div_eq_div_mul,← Nat.pow_add]
theorem Ao9 (d:Nat)(h:∀ j,j < k→n / 10 ^ j % 10=d / 10 ^ j % 10):ld n k=ld d k:=by
 unfold ld;refine List.map_congr_left fun j hj=>?_;unfold dg; rw [h j (List.mem_range.1 hj)]
theorem Fr (k:Nat):repeatL [48] k=List.replicate k 48:=by
 induction k with
 | zero=>rfl
 | succ k ih=>rw [repeatL,ih]; rfl
theorem Im (hd:d < 1000000000):nDigits d≤9:=by
 rcases Nat.eq_zero_or_pos d with h | h
 ·subst h; rw [nDigits_small (by omega)]; omega
 ·have h1:=Fo (n:=d) (by omega);have h2:10 ^ (nDigits d - 1) < 10 ^ 9:=Nat.lt_of_le_of_lt h1 (by omega);have h3:=(Nat.pow_lt_pow_iff_right (by omega:1 < 10)).1 h2;omega
theorem Ap8 (hd:d < 1000000000):(ld d 9).reverse=repeatL [48] (9 - nDigits d)++decDigits d:=by
 have h9:=Im hd;have e:9=nDigits d+(9 - nDigits d):=by omega
 rw [show ld d 9=ld d (nDigits d+(9 - nDigits d)) by rw [← e],Aik,List.reverse_append,Wv]
 congr 1
 have h0:d / 10 ^ nDigits d=0:=Nat.div_eq_of_lt (lt_pow_nDigits d);rw [h0,Fr];have:∀ k,ld 0 k=List.replicate k 48:=by
  intro k;induction k with
  | zero=>rfl
  | succ k ih=>rw [Q2,ih,List.replicate_succ']; congr 1; simp [dg]
 rw [this,List.reverse_replicate]
theorem Ahg {x d:Nat}(hx:x≠0)(hd:d < 1000000000):decDigits (x*1000000000+d)=decDigits x++(repeatL [48] (9 - nDigits d)++decDigits d):=by
 have hdiv:(x*1000000000+d) / 10 ^ 9=x:=by omega
 have hN:nDigits (x*1000000000+d)=9+nDigits x:=by
  rw [Ml (j:=9) (by omega),hdiv]
 rw [← Wv,hN,Aik,hdiv,List.reverse_append,Wv,← Ap8 hd]
 congr 2
 refine Ao9 d fun j hj=>?_;have e:(1000000000:Nat)=10 ^ j*10 ^ (9 - j):=by rw [← Nat.pow_add,show j+(9 - j)=9 by omega]
 rw [e,Nat.mul_comm x,Nat.mul_assoc,Nat.mul_add_div (Nat.pow_pos (by omega)),show 9 - j=(8 - j)+1 by omega,Nat.pow_succ];rw [Nat.mul_right_comm,Nat.mul_comm _ 10,Nat.mul_add_mod]
def mid (n k:Nat):List UInt8:=if k=(Aa n).length then [] else decDigits (n / 1000000000 ^ k)
theorem Adm (n:Nat):mid n (Aa n).length = []:=by simp [mid]
theorem Wp (h:k≠(Aa n).length):mid n k=decDigits (n / 1000000000 ^ k):=by simp [mid,h]
def Ck (neg:Bool)(n k:Nat):List UInt8:=(if neg then [45] else [])++mid n k
theorem St (neg:Bool)(n:Nat):Ck neg n (Aa n).length=if neg then [45] else []:=by rw [Ck,Adm,List.append_nil]
theorem Jo (z:Int)(h:z≠0):Ck (decide (z < 0)) z.natAbs 0=itoa z:=by
 have hl:(Aa z.natAbs).length≠0:=fun h0=>h (by have:=Fh.1 (List.eq_nil_of_length_eq_zero h0); omega);rw [Ck,Wp (fun h0=>hl h0.symm),C4,Bh,Nat.pow_zero,Nat.div_one];split <;> rfl
theorem S1 (n k:Nat):n / 1000000000 ^ k=n / 1000000000 ^ (k+1)*1000000000+(Aa n).getD k 0:=by
 rw [Mt,Nat.pow_succ,← Nat.div_div_eq_div_mul]; omega
theorem Tl (hk:k+1=(Aa n).length):Ck neg n k=Ck neg n (k+1)++decDigits ((Aa n).getD k 0):=by
 have h0:n / 1000000000 ^ (k+1)=0:=Nat.div_eq_of_lt (by rw [hk]; exact Cd n);rw [Ck,Ck,Wp (by omega),hk,Adm,List.append_nil,S1,h0]; simp
theorem Rv (hk:k+1 < (Aa n).length):Ck neg n k=Ck neg n (k+1)++(repeatL [48] (9 - nDigits ((Aa n).getD k 0))++decDigits ((Aa n).getD k 0)):=by
 have hn:n≠0:=by rintro rfl; rw [Bd] at hk; simp at hk
 have hx:n / 1000000000 ^ (k+1)≠0:=by
  have h1:=O0 hn;have h2:1000000000 ^ (k+1)≤1000000000 ^ (nl n - 1):=Nat.pow_le_pow_right (by omega) (by have:nl n=(Aa n).length:=rfl; omega);have h3:=Nat.div_pos (Nat.le_trans h2 h1) (Nat.pow_pos (by omega));omega
 rw [Ck,Ck,Wp (by omega),Wp (by omega),List.append_assoc]
 congr 1
 rw [S1 n k,Ahg hx ((Am n).getD k)]
theorem Qf (neg:Bool)(n k:Nat):(Ck neg n k).length≤1+9*(Aa n).length+1:=by
 have h1:nDigits (n / 1000000000 ^ k)≤9*(Aa n).length+1:=by
  rcases Nat.eq_zero_or_pos (n / 1000000000 ^ k) with h | h
  ·rw [h,nDigits_small (by omega)]; omega
  ·have h2:=Fo (n:=n / 1000000000 ^ k) (by omega);have h3:10 ^ (nDigits (n / 1000000000 ^ k) - 1) < 10 ^ (9*(Aa n).length):=Nat.lt_of_le_of_lt h2 (Nat.lt_of_le_of_lt (Nat.div_le_self _ _) (N2 n));have h4:=(Nat.pow_lt_pow_iff_right (by omega:1 < 10)).1 h3;omega
 unfold Ck mid;split <;> split <;> simp [decDigits_length] <;> omega
end
section
open Go.Shelf Go.RowKit Go.Sort Go.Lib
set_option maxRecDepth 100000 in
theorem Do (u:Nat)(hu64:u < 18446744073709551616)(w:World)(htab:Lib.TabIs prog w "internal/strconv.uint64pow10" .u64 Lib.pow10Tab) :
  Calls prog 199 #[.int .u64 u,.int .i64 10] w fun e w'=>e=.returned (.string ⟨(Lib.decDigits u).toArray⟩)∧Ext w w':=by
 go_enter func199,ntmps199
 go_wp2_with fail
 refine (R5 u hu64 _ htab).mono ?_;rintro e w' ⟨rfl,hx⟩
 go_wp2_with fail
 go_ret
 exact ⟨rfl,hx⟩
def Ajy (W0:World)(B:Nat)(neg:Bool)(n:Nat)(i:Value)(wr:World):Prop :=
 ∃ k:Nat,k≤(Aa n).length∧i=.int .i64 ((k:Int) - 1)∧IsBuilder 305 5 B B (byteCells (Ck neg n k)) wr∧Below B W0 wr
theorem Cq (l l':List UInt8):byteCells l++byteCells l'=byteCells (l++l'):=by simp [byteCells]
set_option maxRecDepth 100000 in
theorem T7 (v:Value)(z:Int)(w:World)(hv:Abu w v z)(hs:nl z.natAbs≤100000000000)(htab:Lib.TabIs prog w "internal/strconv.uint64pow10" .u64 Lib.pow10Tab) :
  Calls prog 200 #[v] w fun e w'=>e=.returned (.string ⟨(Lib.itoa z).toArray⟩)∧Ext w w':=by
 obtain ⟨a,n,c,rfl,hn⟩:=hv;obtain ⟨a',c',e,hcap,hrow⟩:=hn;simp only [Value.slice.injEq] at e;obtain ⟨rfl,rfl,rfl⟩:=e;have hlen:(Aa z.natAbs).length≤100000000000:=hs;by_cases hz:z=0
 ·subst hz;rw [show (Aa (0:Int).natAbs).length=0 by rw [show (0:Int).natAbs=0 from rfl,Bd]; rfl];clear hrow hcap hlen
  go_enter func200,ntmps200
  go_wp2_with fail
  go_ret
  exact ⟨by rw [Dt]; rfl,Ext.alloc (Ext.refl w) _⟩
 ·have hp:0 < (Aa z.natAbs).length:=Ce.2 (by omega);obtain ⟨L,hL⟩:∃ L,L=(Aa z.natAbs).length:=⟨_,rfl⟩;rw [← hL] at hp hlen ⊢;have HL:=Lib.hid hL;have HROW:=Lib.hid hrow;have HTAB:=Lib.hid htab;clear hL hrow htab hcap;obtain ⟨neg,hneg⟩:∃ neg,neg=decide (z < 0):=⟨_,rfl⟩;rw [← hneg];have HNEG:=Lib.hid hneg;clear hneg;obtain ⟨w1,hw1⟩:∃ w1,w1=w.alloc (Obj.cells #[Value.bool neg,Value.slice a L c] 114):=⟨_,rfl⟩;have hs1:w1.heap.size=w.heap.size+1:=by rw [hw1]; exact Br _ _
  have HX1:RowKit.Hid (Ext w w1):=Lib.hid (by rw [hw1]; exact Ext.alloc (Ext.refl w) _);have HB0:=Lib.hid (Lib.fresh_isBuilder 305 5 w1);have HW1:=Lib.hid hw1;have HS1:=Lib.hid hs1;clear hw1 hs1;cases neg
  ·go_enter func200,ntmps200
   go_wp2_with fail
   rw [← HW1.out,← HS1.out,show ((L:Int) == 0)=false by rw [beq_eq_false_iff_ne]; omega]
   go_loopw [4] (Ajy (w1.alloc (Obj.cells #[Value.pointer none,Value.slice none 0 0] 305)) w1.heap.size false z.natAbs) (fun i _=>(RowKit.intOf i+1).toNat)
   case atStart=>exact ⟨(Aa z.natAbs).length,Nat.le_refl _,by rw [← HL.out],by rw [St]; exact HB0.out,Below.refl _ _⟩
   case round =>
    obtain ⟨k,hk,rfl,hbd,hbel⟩:=hrel;have hsz0:=hbel.size;rw [Br] at hsz0;have HXW:RowKit.Hid (Ext w wr):=Lib.hid (Ext.trans HX1.out (Below.trans (Ext.alloc (Ext.refl w1) (Obj.cells #[Value.pointer none,Value.slice none 0 0] 305)) hbel));rcases k with _ | k
    ·have hne:Ck false z.natAbs 0≠[]:=by rw [HNEG.out,Jo z hz,C4,Bh]; split; simp; exact Hy _
     have HBD:=Lib.hid hbd;clear hbd
     go_wp2_with fail
     refine (Tryz.Builder_String w1.heap.size w1.heap.size (Ck false z.natAbs 0) wr HBD.out hne).mono ?_;rintro e w2 ⟨rfl,hb2⟩
     go_wp2_with fail
     go_ret
     refine ⟨?_,Below.trans HXW.out ?_⟩
     ·rw [HNEG.out,Jo z hz]; rfl
     ·exact Below.mono hb2 (by have:=HS1.out; omega)
    ·have hsz1:w.heap.size < w1.heap.size:=by rw [HS1.out]; omega
     have hc1:wr.cell? ⟨w.heap.size,1,none⟩=some (.slice a L c):=by
      rw [Below.cell hbel hsz1,Below.cell (Ext.alloc (Ext.refl w1) _) hsz1,HW1.out,World.cell?_alloc_new]; rfl
     obtain ⟨ba,offa,rfl,hca⟩:=HROW.out.at (j:=k) (by omega);have hcb:=HXW.out.cell hca;clear hca;have hlow:(Aa z.natAbs).getD k 0 < 1000000000:=(Am _).getD k;obtain ⟨x,hx⟩:∃ x,x=(Aa z.natAbs).getD k 0:=⟨_,rfl⟩;rw [← hx] at hcb hlow;have XX:=Lib.hid hx;have HBD:=Lib.hid hbd;have HBEL:=Lib.hid hbel;have HK:=Lib.hid hk;clear hx hbd hbel hk hsz1;rw [show ((k+1:Nat):Int) - 1=k by omega];have hkL:k < L:=by have:=HK.out; have:=HL.out; omega
     have hsw:(Ck false z.natAbs (k+1)).length≤1+9*L+1:=by have:=Qf false z.natAbs (k+1); rw [← HL.out] at this; exact this
     have hd9:=Im hlow;have hdl:=decDigits_length x;have HSW:=Lib.hid hsw;have HDL:=Lib.hid hdl;have HD9:=Lib.hid hd9;clear hsw hdl hd9;by_cases htop:k+1=L
     ·have hkt:¬ ((k:Int) < (L:Int) - 1):=by omega
      have HTOP:=Lib.hid htop;clear htop
      go_wp2_with fail
      refine (Do x (by omega) _ (L5 HTAB.out HXW.out)).mono ?_;rintro e w2 ⟨rfl,hx2⟩;have HX2:=Lib.hid hx2;clear hx2;have hc2:=HX2.out.cell hc1;clear hc1 hcb
      go_wp2_with fail
      refine (Ch w1.heap.size w1.heap.size (byteCells (Ck false z.natAbs (k+1))) ⟨(decDigits x).toArray⟩ w2 (Du HBD.out HX2.out) (by rw [byteCells_length,Lib.size_mk,HDL.out]; have:=HSW.out; have:=HD9.out; omega) (by have:=HX2.out.size; omega)).mono ?_;rintro e w3 ⟨rfl,hb3,hbel3⟩;have htx:=Tl (neg:=false) (n:=z.natAbs) (k:=k) (by rw [← HL.out]; exact HTOP.out);rw [← XX.out] at htx;rw [strCells_toArray,Cq,← htx] at hb3
      go_wp2_with fail
      refine ⟨⟨k,by rw [← HL.out]; omega,by go_num,.inr hb3,Below.trans HBEL.out (Below.trans (Below.mono HX2.out (by omega)) hbel3)⟩,by simp only [RowKit.intOf]; omega⟩
     ·have hkt:(k:Int) < (L:Int) - 1:=by omega
      have HTOP:=Lib.hid htop;clear htop
      go_wp2_with fail
      refine (Do x (by omega) _ (L5 HTAB.out HXW.out)).mono ?_;rintro e w2 ⟨rfl,hx2⟩;have HX2:=Lib.hid hx2;clear hx2;have hc2:=HX2.out.cell hc1;clear hc1 hcb;have hsl:(⟨(decDigits x).toArray⟩:ByteArray).size=nDigits x:=by rw [Lib.size_mk]; exact HDL.out
      go_wp2_with fail
      rw [show wrap64 (9 - (nDigits x:Int))=((9 - nDigits x:Nat):Int) by have:=HD9.out; unfold wrap64; omega];have hrep:=Tryz.strings_Repeat ⟨#[48]⟩ (9 - nDigits x) w2 (by omega) (by have:=HD9.out; simp [ByteArray.size]; omega);refine hrep.mono ?_;rintro e w4 ⟨rfl,hx4⟩;have HX4:RowKit.Hid (Ext w2 w4):=Lib.hid hx4;clear hx4 hrep
      go_wp2_with fail
      refine (Ch w1.heap.size w1.heap.size (byteCells (Ck false z.natAbs (k+1))) ⟨(repeatL [48] (9 - nDigits x)).toArray⟩ w4 (Du (Du HBD.out HX2.out) HX4.out) (by rw [byteCells_length,Lib.size_mk,Fr,List.length_replicate]; have:=HSW.out; omega) (by have:=HX2.out.size; have:=HX4.out.size; omega)).mono ?_;rintro e w5 ⟨rfl,hb5,hbel5⟩;rw [strCells_toArray,Cq] at hb5
      go_wp2_with fail
      refine (Ch w1.heap.size w1.heap.size _ ⟨(decDigits x).toArray⟩ w5 (.inr hb5) (by rw [byteCells_length,Lib.size_mk,HDL.out,List.length_append,Fr,List.length_replicate]; have:=HSW.out; have:=HD9.out; omega) (by have:=HX2.out.size; have:=HX4.out.size; have:=hbel5.size; omega)).mono ?_;rintro e w3 ⟨rfl,hb3,hbel3⟩;have htx:=Rv (neg:=false) (n:=z.natAbs) (k:=k) (by rw [← HL.out]; have:=HTOP.out; omega);rw [← XX.out] at htx;rw [strCells_toArray,Cq,List.append_assoc,← htx] at hb3;have h6:=HX2.out.size
      go_wp2_with fail
      refine ⟨⟨k,by rw [← HL.out]; omega,by go_num,.inr hb3,Below.trans HBEL.out (Below.trans (Below.mono HX2.out (by omega)) (Below.trans (Below.mono HX4.out (by omega)) (Below.trans hbel5 hbel3)))⟩,by simp only [RowKit.intOf]; omega⟩
  ·go_enter func200,ntmps200
   go_wp2_with fail
   rw [← HW1.out,← HS1.out,show ((L:Int) == 0)=false by rw [beq_eq_false_iff_ne]; omega];refine (Ch w1.heap.size w1.heap.size [] ⟨#[45]⟩ _ HB0.out (by simp [ByteArray.size]) (by rw [Br]; omega)).mono ?_;rintro e w4 ⟨rfl,hb4,hbel4⟩;have HB4:RowKit.Hid (BuilderAt 305 5 w1.heap.size w1.heap.size (.pointer (some ⟨w1.heap.size,0,none⟩)) (byteCells [45]) w4):=Lib.hid hb4;have HBEL4:=Lib.hid hbel4;have hs4:=hbel4.size;rw [Br] at hs4;have hc0:w4.cell? ⟨w.heap.size,1,none⟩=some (.slice a L c):=by
    have hsz1:w.heap.size < w1.heap.size:=by rw [HS1.out]; omega
    rw [Below.cell hbel4 hsz1,Below.cell (Ext.alloc (Ext.refl w1) _) hsz1,HW1.out,World.cell?_alloc_new]; rfl
   clear hb4 hbel4
   go_wp2_with fail
   go_loopw [4] (Ajy (w1.alloc (Obj.cells #[Value.pointer none,Value.slice none 0 0] 305)) w1.heap.size true z.natAbs) (fun i _=>(RowKit.intOf i+1).toNat)
   case atStart=>exact ⟨(Aa z.natAbs).length,Nat.le_refl _,by rw [← HL.out],by rw [St]; exact .inr HB4.out,HBEL4.out⟩
   case round =>
    obtain ⟨k,hk,rfl,hbd,hbel⟩:=hrel;have hsz0:=hbel.size;rw [Br] at hsz0;have HXW:RowKit.Hid (Ext w wr):=Lib.hid (Ext.trans HX1.out (Below.trans (Ext.alloc (Ext.refl w1) (Obj.cells #[Value.pointer none,Value.slice none 0 0] 305)) hbel));rcases k with _ | k
    ·have hne:Ck true z.natAbs 0≠[]:=by rw [HNEG.out,Jo z hz,C4,Bh]; split; simp; exact Hy _
     have HBD:=Lib.hid hbd;clear hbd
     go_wp2_with fail
     refine (Tryz.Builder_String w1.heap.size w1.heap.size (Ck true z.natAbs 0) wr HBD.out hne).mono ?_;rintro e w2 ⟨rfl,hb2⟩
     go_wp2_with fail
     go_ret
     refine ⟨?_,Below.trans HXW.out ?_⟩
     ·rw [HNEG.out,Jo z hz]; rfl
     ·exact Below.mono hb2 (by have:=HS1.out; omega)
    ·have hsz1:w.heap.size < w1.heap.size:=by rw [HS1.out]; omega
     have hc1:wr.cell? ⟨w.heap.size,1,none⟩=some (.slice a L c):=by
      rw [Below.cell hbel hsz1,Below.cell (Ext.alloc (Ext.refl w1) _) hsz1,HW1.out,World.cell?_alloc_new]; rfl
     obtain ⟨ba,offa,rfl,hca⟩:=HROW.out.at (j:=k) (by omega);have hcb:=HXW.out.cell hca;clear hca;have hlow:(Aa z.natAbs).getD k 0 < 1000000000:=(Am _).getD k;obtain ⟨x,hx⟩:∃ x,x=(Aa z.natAbs).getD k 0:=⟨_,rfl⟩;rw [← hx] at hcb hlow;have XX:=Lib.hid hx;have HBD:=Lib.hid hbd;have HBEL:=Lib.hid hbel;have HK:=Lib.hid hk;clear hx hbd hbel hk hsz1;rw [show ((k+1:Nat):Int) - 1=k by omega];have hkL:k < L:=by have:=HK.out; have:=HL.out; omega
     have hsw:(Ck true z.natAbs (k+1)).length≤1+9*L+1:=by have:=Qf true z.natAbs (k+1); rw [← HL.out] at this; exact this
     have hd9:=Im hlow;have hdl:=decDigits_length x;have HSW:=Lib.hid hsw;have HDL:=Lib.hid hdl;have HD9:=Lib.hid hd9;clear hsw hdl hd9;by_cases htop:k+1=L
     ·have hkt:¬ ((k:Int) < (L:Int) - 1):=by omega
      have HTOP:=Lib.hid htop;clear htop
      go_wp2_with fail
      refine (Do x (by omega) _ (L5 HTAB.out HXW.out)).mono ?_;rintro e w2 ⟨rfl,hx2⟩;have HX2:=Lib.hid hx2;clear hx2;have hc2:=HX2.out.cell hc1;clear hc1 hcb
      go_wp2_with fail
      refine (Ch w1.heap.size w1.heap.size (byteCells (Ck true z.natAbs (k+1))) ⟨(decDigits x).toArray⟩ w2 (Du HBD.out HX2.out) (by rw [byteCells_length,Lib.size_mk,HDL.out]; have:=HSW.out; have:=HD9.out; omega) (by have:=HX2.out.size; omega)).mono ?_;rintro e w3 ⟨rfl,hb3,hbel3⟩;have htx:=Tl (neg:=true) (n:=z.natAbs) (k:=k) (by rw [← HL.out]; exact HTOP.out);rw [← XX.out] at htx;rw [strCells_toArray,Cq,← htx] at hb3
      go_wp2_with fail
      refine ⟨⟨k,by rw [← HL.out]; omega,by go_num,.inr hb3,Below.trans HBEL.out (Below.trans (Below.mono HX2.out (by omega)) hbel3)⟩,by simp only [RowKit.intOf]; omega⟩
     ·have hkt:(k:Int) < (L:Int) - 1:=by omega
      have HTOP:=Lib.hid htop;clear htop
      go_wp2_with fail
      refine (Do x (by omega) _ (L5 HTAB.out HXW.out)).mono ?_;rintro e w2 ⟨rfl,hx2⟩;have HX2:=Lib.hid hx2;clear hx2;have hc2:=HX2.out.cell hc1;clear hc1 hcb;have hsl:(⟨(decDigits x).toArray⟩:ByteArray).size=nDigits x:=by rw [Lib.size_mk]; exact HDL.out
      go_wp2_with fail
      rw [show wrap64 (9 - (nDigits x:Int))=((9 - nDigits x:Nat):Int) by have:=HD9.out; unfold wrap64; omega];have hrep:=Tryz.strings_Repeat ⟨#[48]⟩ (9 - nDigits x) w2 (by omega) (by have:=HD9.out; simp [ByteArray.size]; omega);refine hrep.mono ?_;rintro e w4 ⟨rfl,hx4⟩;have HX4:RowKit.Hid (Ext w2 w4):=Lib.hid hx4;clear hx4 hrep
      go_wp2_with fail
      refine (Ch w1.heap.size w1.heap.size (byteCells (Ck true z.natAbs (k+1))) ⟨(repeatL [48] (9 - nDigits x)).toArray⟩ w4 (Du (Du HBD.out HX2.out) HX4.out) (by rw [byteCells_length,Lib.size_mk,Fr,List.length_replicate]; have:=HSW.out; omega) (by have:=HX2.out.size; have:=HX4.out.size; omega)).mono ?_;rintro e w5 ⟨rfl,hb5,hbel5⟩;rw [strCells_toArray,Cq] at hb5
      go_wp2_with fail
      refine (Ch w1.heap.size w1.heap.size _ ⟨(decDigits x).toArray⟩ w5 (.inr hb5) (by rw [byteCells_length,Lib.size_mk,HDL.out,List.length_append,Fr,List.length_replicate]; have:=HSW.out; have:=HD9.out; omega) (by have:=HX2.out.size; have:=HX4.out.size; have:=hbel5.size; omega)).mono ?_;rintro e w3 ⟨rfl,hb3,hbel3⟩;have htx:=Rv (neg:=true) (n:=z.natAbs) (k:=k) (by rw [← HL.out]; have:=HTOP.out; omega);rw [← XX.out] at htx;rw [strCells_toArray,Cq,List.append_assoc,← htx] at hb3;have h6:=HX2.out.size
      go_wp2_with fail
      refine ⟨⟨k,by rw [← HL.out]; omega,by go_num,.inr hb3,Below.trans HBEL.out (Below.trans (Below.mono HX2.out (by omega)) (Below.trans (Below.mono HX4.out (by omega)) (Below.trans hbel5 hbel3)))⟩,by simp only [RowKit.intOf]; omega⟩
end
section
open Go.Shelf Go.RowKit Go.Sort Go.Lib
variable {l:List UInt8}
theorem Afl (hd:Gk l):∀ (acc:Nat),rdA acc l < 1000000000000000000→parseUintM 18446744073709551615 acc l=.ok (rdA acc l):=by
 induction l with
 | nil=>intro acc _; rfl
 | cons b l ih =>
  intro acc h;have hb:=hd b (by simp);have e1:rdA acc (b::l)=rdA (10*acc+(b.toNat - 48)) l:=rfl;rw [e1] at h ⊢;have h2:10*acc+(b.toNat - 48)≤rdA (10*acc+(b.toNat - 48)) l:=by
   rw [Acy];have:1≤10 ^ l.length:=Nat.one_le_pow _ _ (by omega);have:=Nat.mul_le_mul_left (10*acc+(b.toNat - 48)) this;omega
  have ih':=ih (fun x hx=>hd x (by simp [hx])) (10*acc+(b.toNat - 48)) h;rw [parseUintM,if_pos hb,if_neg (by omega)];rw [show 10*acc+(b.toNat - 48)=acc*10+(b.toNat - 48) by omega] at ih' h h2 ⊢
  first
   | (rw [if_neg (by omega)]; exact ih')
   | (simp only []; rw [if_neg (by omega)]; exact ih')
theorem Ae9 (hd:Gk l)(hl:l≠[])(h9:l.length≤9):parseUintB 64 l=.ok (rd l):=by
 rw [parseUintB,if_neg hl];refine Afl hd 0 ?_;have h1:=Vz hd;have h2:10 ^ l.length≤10 ^ 9:=Nat.pow_le_pow_right (by omega) h9;have h3:rdA 0 l=rd l:=rfl;omega
theorem Io {neg:Bool}(hd:Gk l)(hl:l≠[]):trimPrefix (Bh neg l) [45]=l∧hasPrefix (Bh neg l) [45]=neg:=by
 cases neg
 ·cases l with
  | nil=>exact absurd rfl hl
  | cons b l =>
   have hb:=hd b (by simp);have:¬ (45:UInt8)=b:=by rintro rfl; simp at hb
   simp [Bh,trimPrefix,hasPrefix,List.isPrefixOf,this]
 ·simp [Bh,trimPrefix,hasPrefix,List.isPrefixOf]
theorem Yp {w:World}{B:Nat}{e:TypeId}{a:Option Addr}{n c:Nat}{xs:List Value}(h:w.ownsRow B e 1 (.slice a n c) n xs)(hn:xs.length=n):Row w a xs:=by
 intro j hj;rcases h.2 with ⟨h1,h2⟩ | ⟨g,cap,cur,h1,h2⟩
 ·omega
 ·simp only [Value.slice.injEq] at h1;obtain ⟨rfl,_,rfl⟩:=h1;refine ⟨g,0,rfl,?_⟩;have:=h.cells (g:=g) rfl j (xs.getD j (.bool false)) (by rw [List.getD_eq_getElem?_getD,List.getElem?_eq_getElem hj]; rfl);rw [Lib.add_plain] at this; exact this
theorem Rb (w:World)(e:TypeId)(s:ByteArray):Ext w (bytesWorld w e s):=bytesWorld_below w e s
def Amr (W0:World)(B:Nat)(l:List UInt8)(v i:Value)(wr:World):Prop :=
 ∃ (e:Int) (ys:List Nat),e≤l.length∧i=.int .i64 e∧-9 < e∧ys.length+e.toNat≤l.length∧O9 (rd l) (l.take e.toNat) ys∧wr.ownsRow B 266 1 v ys.length (A1 ys)∧Below B W0 wr
theorem Ahh:(prog.info? 266).map (fun i=>(i.zero,i.size,i.bytes))=some (some (.int .u64 0),1,8):=by kernel_rfl
set_option maxRecDepth 100000 in
theorem Yt (neg:Bool)(l:List UInt8)(w:World)(hd:Gk l)(hl:l≠[])(hlen:l.length≤1000000000) :
  Calls prog 163 #[.string ⟨(Bh neg l).toArray⟩] w (Ah9 w (Bp neg (rd l))):=by
 obtain ⟨i0,hi,hz0,hz1,hz2⟩:=info_parts Ahh;obtain ⟨ht1,ht2⟩:=Io (neg:=neg) hd hl;have HD:=Lib.hid hd;have HL:=Lib.hid hl;clear hd hl;obtain ⟨w1,hw1⟩:∃ w1,w1=w.alloc (Obj.cells #[Value.bool false,Value.slice none 0 0] 114):=⟨_,rfl⟩;have hs1:w1.heap.size=w.heap.size+1:=by rw [hw1]; exact Br _ _
 have HW1:=Lib.hid hw1;have HS1:=Lib.hid hs1;clear hw1 hs1
 go_enter func163,ntmps163
 go_wp2_with fail
 rw [← HW1.out];refine (Tryz.strings_CutPrefix ⟨(Bh neg l).toArray⟩ ⟨#[45]⟩ w1).mono ?_;rintro e w2 ⟨rfl,rfl⟩;rw [show trimPrefix (⟨(Bh neg l).toArray⟩:ByteArray).data.toList (⟨#[45]⟩:ByteArray).data.toList=l from ht1,show hasPrefix (⟨(Bh neg l).toArray⟩:ByteArray).data.toList (⟨#[45]⟩:ByteArray).data.toList=neg from ht2];clear ht1 ht2
 go_wp2_with fail
 go_loopw [5,6] (Amr w2 w2.heap.size l) (fun _ i _=>(RowKit.intOf i+9).toNat)
 case atStart=>exact ⟨l.length,[],by omega,by simp,by omega,by simp,⟨Low.nil,by simpa using HD.out,by simp [val]⟩,⟨rfl,.inl ⟨rfl,rfl⟩⟩,Below.refl _ _⟩
 case round =>
  obtain ⟨e,ys,he,rfl,he9,hle,hst,hown,hbel⟩:=hrel;obtain ⟨a,n,c,rfl⟩:∃ a n c,u5=.slice a n c:=by
   rcases hown.2 with ⟨h1,h2⟩ | ⟨g,cap,cur,h1,h2⟩
   ·exact ⟨_,_,_,h1⟩
   ·exact ⟨_,_,_,h1⟩
  have HST:=Lib.hid hst;have HOWN:=Lib.hid hown;have HBEL:=Lib.hid hbel;have hsz:=hbel.size;clear hst hown hbel;by_cases h0:0 < e
  ·obtain ⟨E,rfl⟩:∃ E:Nat,e=E:=⟨e.toNat,by omega⟩;have hEl:E≤l.length:=by omega
   have hE0:0 < E:=by omega
   have hmx:max (0:Int) ((E:Int) - 9)=((E - 9:Nat):Int):=by omega
   have hsl:∀ W,(Instr.sliceAt 9 (.string ⟨l.toArray⟩) (some (.int .i64 ((E - 9:Nat):Int))) (some (.int .i64 (E:Int))) none).run prog W=.ok (.string ⟨((l.take E).drop (E - 9)).toArray⟩) W:=by
    intro W;have h1:(0:Int)≤((E - 9:Nat):Int)∧((E - 9:Nat):Int)≤(E:Int):=by omega
    have h2:(0:Int)≤(E:Int)∧(E:Int)≤(⟨l.toArray⟩:ByteArray).size:=by rw [Lib.size_mk]; omega
    have h3:(⟨l.toArray⟩:ByteArray).extract (E - 9) E=⟨((l.take E).drop (E - 9)).toArray⟩:=by
     rw [Lib.extract_mk,List.drop_take]
    simp only [Instr.sliceAt,Sem.run_bind,run_underlying Tryz.underlying9,Result.andThen_ok,Instr.slice,Instr.sliceBounds,Instr.sliceBound,asIntOf,Sem.run_pure,if_true,Option.isSome,Sem.run_ite,h1,h2,and_self,Int.toNat_natCast];simp [h3]
   have hdd:Gk ((l.take E).drop (E - 9)):=(HD.out.take E).drop (E - 9);have hl9:((l.take E).drop (E - 9)).length≤9:=by simp; omega
   have hne:(l.take E).drop (E - 9)≠[]:=by intro h; have:=congrArg List.length h; simp at this; omega
   have hrd:=Vz hdd;have hr9:rd ((l.take E).drop (E - 9)) < 1000000000:=Nat.lt_of_lt_of_le hrd (by rw [show (1000000000:Nat)=10 ^ 9 from rfl]; exact Nat.pow_le_pow_right (by omega) hl9);have hstep:=HST.out.step;rw [show (l.take ((E:Int)).toNat)=l.take E from rfl,List.length_take,Nat.min_eq_left hEl] at hstep;have hpu:=Tryz.strconv_ParseUint_10_at64_ok ⟨((l.take E).drop (E - 9)).toArray⟩ (by rw [Lib.size_mk]; omega) (rd ((l.take E).drop (E - 9))) (Ae9 hdd hne hl9) wr;have HPU:=Lib.hid hpu;have HSTEP:=Lib.hid hstep;clear hpu hstep hrd hdd hne hl9
   go_wp2_with fail
   obtain ⟨d,hdef⟩:∃ d,d=rd ((l.take E).drop (E - 9)):=⟨_,rfl⟩;rw [← hdef] at hr9;have HDEF:=Lib.hid hdef;clear hdef;refine HPU.out.mono ?_;rintro e w3 ⟨rfl,hw3⟩;rw [← HDEF.out];have HX3:RowKit.Hid (Ext wr w3):=Lib.hid (by
    rcases hw3 with rfl | rfl
    ·exact Ext.refl _
    ·exact Rb _ _ _)
   clear hw3;have hsz3:=HX3.out.size
   go_wp2_with (at_builtin; refine wpList_append_own _ rfl _ _ 112 rfl w2.heap.size 266 i0 (.int .u64 0) 1 8 Tryz.underlying112 hi hz0 hz1 hz2 rfl (by decide) _ _ _ rfl ((Qn HOWN.out HX3.out).alloc _) ⟨w3.heap.size,0,none⟩ 1 1 [.int .u64 (d:Int)] rfl rfl ?c1 ?c2 ?c3 ?c4 ?c5 ?_)
   case c1 =>
    intro j u hj
    match j,hj with
    | 0,hj=>simp at hj; subst hj; simp [Addr.add]
   case c2=>intro u hu; simp at hu; subst hu; rfl
   case c3=>unfold maxLen; omega
   case c4=>omega
   case c5=>simp; omega
   intro v' w4 hown' hgrow _
   go_wp2_with fail
   refine ⟨⟨(E:Int) - 9,ys++[d],by omega,by go_num,by omega,by simp; omega,?_,by simpa [A1] using hown',?_⟩,by simp only [RowKit.intOf]; omega⟩
   ·rw [HDEF.out,show (l.take ((E:Int) - 9).toNat)=(l.take E).take (E - 9) by rw [List.take_take]; congr 1; omega];exact HSTEP.out
   ·have h5:Below w2.heap.size wr w3:=Below.mono HX3.out (by omega);exact (((HBEL.out.trans h5).alloc (by omega) _).grown hgrow (by simp; omega) (fun k hk=>(HOWN.out.lt k hk).1))
  ·have hln:=HOWN.out.1;have hval:val ys=rd l:=by
    have:=HST.out.sum;rw [show e.toNat=0 by omega] at this;simpa [rd,rdA] using this.symm
   obtain ⟨rfl,hcap⟩:n=ys.length∧ys.length≤c:=by
    rcases HOWN.out.2 with ⟨h1,h2⟩ | ⟨g,cap,cur,h1,h2,h3,h4,_⟩
    ·simp at h1; omega
    ·simp at h1; obtain ⟨_,rfl,rfl⟩:=h1; exact ⟨rfl,h4⟩
   have hrow:=Yp HOWN.out (by simp);have HROW:=Lib.hid hrow;have HVAL:=Lib.hid hval;clear hrow hval hln
   go_wp2_with fail
   refine (Fk a c ys.length ys wr rfl (by omega) hcap HROW.out).mono ?_;rintro e w' ⟨rfl,hww⟩;subst hww
   go_wp2_with fail
   refine (Acb neg _ (rd l) wr (C3 HST.out.low HROW.out HVAL.out hcap) (Nat.le_trans (A4 (k:=l.length) (Nat.lt_of_lt_of_le (Vz HD.out) (by rw [Aat]; exact Nat.pow_le_pow_right (by omega) (by omega)))) (by omega))).mono ?_;rintro e w5 ⟨v5,rfl,⟨a5,n5,c5,rfl,hs5⟩,hx5⟩;have HX5:=Lib.hid hx5;have HS5:=Lib.hid hs5;have hlt:w.heap.size < w2.heap.size:=by rw [HS1.out]; omega
   have BB:RowKit.Hid (w5.heap[w.heap.size]?=some (.cells #[.bool false,.slice none 0 0] 114 (0,0))):=Lib.hid (by
    rw [Below.block HX5.out _ (by omega),HBEL.out.block _ hlt,HW1.out,Ca])
   have d0:=Amc BB.out;have d1:=Als BB.out;have f0:=frozen_of_row _ _ 0 _ _ BB.out;have f1:=frozen_of_row _ _ 1 _ _ BB.out;clear hs5 hx5
   go_wp2_with fail
   have HXX:Ext w w5:=by
    refine Ext.trans (b:=w2) (by rw [HW1.out]; exact Ext.alloc (Ext.refl w) _) ?_;exact Below.trans HBEL.out (Below.mono HX5.out (by omega))
   refine Alg rfl rfl (Ai4 BB.out) rfl ⟨_,rfl,?_,Apx HXX (Nat.le_refl _) _ _⟩;have hs:=HS5.out.grown (Ak8 BB.out) (An0 _ _ (.bool (decide (Bp neg (rd l) < 0))) (.slice a5 n5 c5));exact Amq rfl hs
end
section
open Go.RowKit
variable {q:Rat}{z:Int}
def Lb (u:PH):Prop:=∀ w,Eb u w→Lib.TabIs prog w "internal/strconv.uint64pow10" .u64 Lib.pow10Tab
theorem Lb.mono {u u':PH}(h:Lb u)(hl:PH.le u u'):Lb u':=fun w hp=>h w (fun g o hg=>hp g o (hl g o hg))
section
variable {u:PH} {x:Value}
theorem Yo {k:Nat}(ht:Lb u)(hk:k < 18446744073709551616):Fn0 prog 199 [.int .u64 (k:Int),.int .i64 10] u fun v _=>v=.string (mkS (Lib.decDigits k)) :=
 Fn0.ofW (fun v _=>v=.string (mkS (Lib.decDigits k))) (fun w hp=>(Do k hk w (ht w hp)).mono fun _ _ ⟨e,h⟩=>⟨_,e,rfl,h⟩) (fun _ _ _ h _ _ _=>h)
theorem Hn (h:Lib.nDigits z.natAbs≤400):Fn0 prog 163 [.string (mkS (Lib.itoa z))] u fun v u'=>Cb u' v z:=by
 refine Fn0.ofW (fun v w=>Abu w v z) (fun w _=>?_) (fun _ _ _ h _ c _=>Cb.ofW h c);have:=Yt (decide (z < 0)) (Lib.decDigits z.natAbs) w (Mc _) (Hy _) (by rw [Lib.decDigits_length]; omega);rw [Uy,← C4] at this;exact this
theorem My (ht:Lb u)(h:Cb u x z)(hs:nl z.natAbs≤100000000000):Fn0 prog 200 [x] u fun v _=>v=.string (mkS (Lib.itoa z)) :=
 Fn0.ofW (fun v _=>v=.string (mkS (Lib.itoa z))) (fun w hp=>(T7 x z w (h.toW hp) hs (ht w hp)).mono fun _ _ ⟨e,h⟩=>⟨_,e,rfl,h⟩) (fun _ _ _ h _ _ _=>h)
end
theorem Cm.at {u:PH}{a:Option Addr}{n c k j:Nat}(h:Cm u (.slice a n c) k)(hj:j < (Aa k).length):∃ b off,a=some ⟨b,off,none⟩∧ElP u b (off+j*1) (.int .u64 ((Aa k).getD j 0:Nat)):=by
 obtain ⟨a',c',h1,h2,h3⟩:=h;simp only [Value.slice.injEq] at h1;obtain ⟨rfl,_,rfl⟩:=h1;obtain ⟨b,off,e1,e2⟩:=h3 j (by simpa using hj);refine ⟨b,off,e1,fun i y hi=>?_⟩;have hx:(A1 (Aa k)).getD j (.bool false)=.int .u64 ((Aa k).getD j 0:Nat):=by simp [A1,hj]
 rw [hx] at e2;have:i=0∧y=.int .u64 ((Aa k).getD j 0:Nat):=by
  match i,hi with
  | 0,hi=>simp [Value.cells] at hi; simp [hi]
 obtain ⟨rfl,rfl⟩:=this;simpa using e2
theorem S7 {u:PH}{x:Value}(ht:Lb u)(h:Cb u x z)(hs:nl z.natAbs≤100000000000):Fn0 prog 122 [x] u fun v _=>v=.int .i64 (Lib.nDigits z.natAbs:Nat):=by
 obtain ⟨a,n,c,rfl,hn⟩:=h;obtain rfl:n=(Aa z.natAbs).length:=by obtain ⟨_,_,h1,_⟩:=id hn; simp at h1; exact h1.2.1
 generalize decide (z < 0)=b;have hs':(Aa z.natAbs).length≤100000000000:=hs;refine Fn0.o func122 ?_;by_cases h0:z.natAbs=0
 ·refine G.eT' ((Aa z.natAbs).length:Int) 0 (by rw [h0,Bd]; rfl) ?_;exact G.r (.int .i64 1) ⟨rfl,by rw [h0,Lib.nDigits_small (by omega)]; rfl⟩
 ·have hp:0 < (Aa z.natAbs).length:=Ce.2 (by omega);have htop:=Qe h0;have hlow:=(Am z.natAbs).getD ((Aa z.natAbs).length - 1);obtain ⟨bb,off,rfl,he⟩:=hn.at (j:=(Aa z.natAbs).length - 1) (by omega);have h9:=Im hlow;have hdl:=Lib.decDigits_length ((Aa z.natAbs).getD ((Aa z.natAbs).length - 1) 0);have hsz:(mkS (Lib.decDigits ((Aa z.natAbs).getD ((Aa z.natAbs).length - 1) 0))).size=(Lib.decDigits ((Aa z.natAbs).getD ((Aa z.natAbs).length - 1) 0)).length:=Go.Lib.size_mk _;refine G.eF ((Aa z.natAbs).length:Int) 0 ?_;refine G.s ((Aa z.natAbs).length:Int) 1 (((Aa z.natAbs).length - 1:Nat):Int) ?_;refine G.mul 9 (((Aa z.natAbs).length - 1:Nat):Int) ((9*((Aa z.natAbs).length - 1):Nat):Int) (by kernel_rfl) (by omega) (by omega) (by omega) ?_;refine G.a bb off (Aa z.natAbs).length c ((Aa z.natAbs).length - 1) 1 (by omega) ?_;refine G.lU none bb (off+((Aa z.natAbs).length - 1)*1) (.int .u64 ((Aa z.natAbs).getD ((Aa z.natAbs).length - 1) 0:Nat)) he ?_;refine G.c call199 (Yo (k:=(Aa z.natAbs).getD ((Aa z.natAbs).length - 1) 0) ht (by omega)) ?_;rintro v1 u1 l1 rfl;refine G.p ((9*((Aa z.natAbs).length - 1):Nat):Int) ((Lib.decDigits ((Aa z.natAbs).getD ((Aa z.natAbs).length - 1) 0)).length:Int) ((Lib.nDigits z.natAbs:Nat):Int) ?_;exact G.r _ ⟨rfl,rfl⟩
theorem Agk {u:PH}{x:Value}(ht:Lb u)(hx:Av u x q)(h:Tx q):Fn0 prog 123 [x] u fun v _=>v=.string (mkS (Af q)):=by
 obtain ⟨b,a,n,c,b',a',n',c',rfl⟩:=hx.opn;have hd:=Nat.le_trans (Bs h.2) (show 400≤4000000000000 by omega);refine Fn0.o func123 ?_;refine G.c call159 (Hm hx hd) ?_;rintro v1 u1 l1 rfl;by_cases h1:q.den=1
 ·rw [decide_eq_true h1];refine G.c call200 (My (ht.mono l1) (hx.num.mono l1) (Nat.le_trans (Bs h.1) (by omega))) ?_;rintro v2 u2 l2 rfl;exact G.r (.string (mkS (Lib.itoa q.num))) ⟨rfl,by rw [Af,if_pos h1]⟩
 ·rw [decide_eq_false h1];refine G.c call200 (My (ht.mono l1) (hx.num.mono l1) (Nat.le_trans (Bs h.1) (by omega))) ?_;rintro v2 u2 l2 rfl;have e1:=Ek h.1;have e2:=Ek h.den;refine G.addS (Lib.itoa q.num) [47] (by kernel_rfl) (by simp; omega) ?_;refine G.c call200 (My (ht.mono (l1.trans l2)) (hx.den.mono (l1.trans l2)) (Nat.le_trans (Bs h.den) (by omega))) ?_;rintro v3 u3 l3 rfl;refine G.addS (Lib.itoa q.num++[47]) (Lib.itoa (q.den:Int)) (by kernel_rfl) (by simp; omega) ?_;exact G.r (.string (mkS (Lib.itoa q.num++[47]++Lib.itoa (q.den:Int)))) ⟨rfl,by rw [Af,if_neg h1]; simp⟩
theorem Jj {u:PH}{x:Value}(ht:Lb u)(hx:Av u x q)(h:Tx q):Fn0 prog 55 [x] u fun v _=>v=.tuple #[.string (mkS (Af q)),.int .i64 0]:=by
 obtain ⟨b,a,n,c,b',a',n',c',rfl⟩:=hx.opn;have h2:=h.2;have h1:=h.1;refine Fn0.o func55 ?_;refine G.c call122 (S7 ht hx.num (Nat.le_trans (Bs h.1) (by omega))) ?_;rintro v1 u1 l1 rfl;refine G.gF ((Lib.nDigits q.num.natAbs:Nat):Int) 400 ?_;refine G.c call122 (S7 (ht.mono l1) (hx.den.mono l1) (Nat.le_trans (Bs h.den) (by omega))) ?_;rintro v2 u2 l2 rfl;have h3:=h.den;refine G.gF ((Lib.nDigits ((q.den:Int)).natAbs:Nat):Int) 400 ?_;refine G.c call123 (Agk (ht.mono (l1.trans l2)) (hx.mono (l1.trans l2)) h) ?_;rintro v3 u3 l3 rfl;exact G.r _ ⟨rfl,rfl⟩
end
section
open Go.RowKit
variable {c:UInt8}{l:List UInt8}{q:Rat}{u:PH}
theorem Abh (h:∀ b∈l,b≠c):Lib.indexByte l c = -1:=by
 induction l with
 | nil=>rfl
 | cons b l ih =>
  have h1:(b == c)=false:=by rw [beq_eq_false_iff_ne]; exact h b (by simp)
  rw [Lib.indexByte,h1,ih (fun x hx=>h x (by simp [hx]))]; rfl
theorem Aj6 {l r:List UInt8}(h:∀ b∈l,b≠c):Lib.indexByte (l++c::r) c=l.length:=by
 induction l with
 | nil=>simp [Lib.indexByte]
 | cons b l ih =>
  have h1:(b == c)=false:=by rw [beq_eq_false_iff_ne]; exact h b (by simp)
  have h2:=ih (fun x hx=>h x (by simp [hx]));rw [List.cons_append,Lib.indexByte,h1,h2];have h3:(((l.length:Nat):Int) == -1)=false:=by rw [beq_eq_false_iff_ne]; omega
  simp [h3]
theorem Ajs :Fn0 prog 269 [.string (mkS l),.string (mkS [c])] u fun v _=>v=.int .i64 (Lib.indexByte l c) :=
 Fn0.ofW (fun v _=>v=.int .i64 (Lib.indexByte l c)) (fun w _=>(Tryz.stringslite_Index_one (mkS l) c w).mono fun _ _ ⟨e,h⟩=>⟨_,e,rfl,by rw [h]; exact Ext.refl _⟩) (fun _ _ _ h _ _ _=>h)
theorem Ap7 {T:List UInt8}(h:∀ b∈T,b≠47):Fn0 prog 162 [.string (mkS T),.string (mkS [47])] u fun v _=>v=.tuple #[.string (mkS T),.string (mkS []),.bool false]:=by
 have hin:Fn0 prog 225 [.string (mkS T),.string (mkS [47])] u fun v _=>v=.tuple #[.string (mkS T),.string (mkS []),.bool false]:=by
  refine Fn0.o func225 ?_;refine G.c call269 (Ajs (l:=T) (c:=47)) ?_;rintro v1 u1 l1 rfl;rw [Abh h];refine G.hF (-1) 0 ?_;exact G.r (.tuple #[.string (mkS T),.string (mkS []),.bool false]) ⟨rfl,rfl⟩
 refine Fn0.o func162 ?_;refine G.c call225 hin ?_;rintro v1 u1 l1 rfl;exact G.r _ ⟨rfl,rfl⟩
theorem Ap9 {A B:List UInt8}(h:∀ b∈A,b≠47)(hl:(A++47::B).length≤1000000):Fn0 prog 162 [.string (mkS (A++47::B)),.string (mkS [47])] u fun v _=>v=.tuple #[.string (mkS A),.string (mkS B),.bool true]:=by
 have hlen:(A++47::B).length=A.length+1+B.length:=by simp; omega
 have htk:(A++47::B).take A.length=A:=by simp
 have hdr:(A++47::B).drop (A.length+1)=B:=by rw [← List.drop_drop]; simp
 have hix:=Aj6 (r:=B) h;generalize A++47::B=T at *
 have hsize:(mkS T).size=T.length:=Go.Lib.size_mk _;have hin:Fn0 prog 225 [.string (mkS T),.string (mkS [47])] u fun v _=>v=.tuple #[.string (mkS A),.string (mkS B),.bool true]:=by
  refine Fn0.o func225 ?_;refine G.c call269 (Ajs (l:=T) (c:=47)) ?_;rintro v1 u1 l1 rfl;rw [hix];refine G.hT (A.length:Int) 0 ?_;refine G.sliceSTo T A.length (by kernel_rfl) (by kernel_rfl) (by omega) ?_;rw [htk];refine G.p (A.length:Int) 1 ((A.length+1:Nat):Int) ?_;refine G.sliceSFrom T (A.length+1) (by kernel_rfl) (by kernel_rfl) (by omega) ?_;rw [hdr];exact G.r (.tuple #[.string (mkS A),.string (mkS B),.bool true]) ⟨rfl,rfl⟩
 refine Fn0.o func162 ?_;refine G.c call225 hin ?_;rintro v1 u1 l1 rfl;exact G.r _ ⟨rfl,rfl⟩
theorem App (h:Tx q):Fn0 prog 162 [.string (mkS (Af q)),.string (mkS [47])] u fun v _=>v=.tuple #[.string (mkS (Lib.itoa q.num)),.string (mkS (if q.den=1 then [] else Lib.itoa (q.den:Int))),.bool (decide (q.den≠1))]:=by
 have l1:=Ek h.1;have l2:=Ek h.den;unfold Af;by_cases hd:q.den=1
 ·rw [if_pos hd,if_pos hd,decide_eq_false (by simp [hd])];exact Ap7 (L3 _)
 ·rw [if_neg hd,if_neg hd,decide_eq_true hd];exact Ap9 (L3 _) (by simp; omega)
theorem Av.mk {u:PH}{q:Rat}{y z:Int}{b b':Bool}{a a':Option Addr}{n c n' c':Nat}(h1:Cb u (.agg #[.bool b,.slice a n c]) y)(h2:Cb u (.agg #[.bool b',.slice a' n' c']) z)(hy:q.num=y)(hz:(q.den:Int)=z) :
  Av u (.agg #[.bool b,.slice a n c,.bool b',.slice a' n' c']) q:=by
 obtain ⟨_,_,_,e1,i1⟩:=h1;obtain ⟨_,_,_,e2,i2⟩:=h2;subst hy hz;rw [decide_eq_false (by omega)] at e2;simp only [Value.agg.injEq,Array.mk.injEq,List.cons.injEq,Value.bool.injEq,Value.slice.injEq,and_true] at e1 e2;obtain ⟨rfl,rfl,rfl,rfl⟩:=e1;obtain ⟨rfl,rfl,rfl,rfl⟩:=e2;exact ⟨_,_,_,_,_,_,rfl,i1,i2⟩
theorem Iy (h:Tx q):Fn0 prog 77 [.string (mkS (Af q))] u fun v u'=>Av u' v q:=by
 refine Fn0.o func77 ?_;refine G.c call162 (App h) ?_;rintro v1 u1 l1 rfl;by_cases hd:q.den=1
 ·rw [if_pos hd,decide_eq_false (by simp [hd])];refine G.c call163 (Hn h.1) ?_;intro v2 u2 l2 k2;obtain ⟨b2,a2,n2,c2,rfl⟩:=k2.opn;have hr1:=Hn (u:=u2) (z:=1) (by rw [Lib.nDigits_small (by decide)]; omega);rw [Gu] at hr1;refine G.c call163 hr1 ?_;intro v3 u3 l3 k3;obtain ⟨b3,a3,n3,c3,rfl⟩:=k3.opn;exact G.r (.agg #[.bool b2,.slice a2 n2 c2,.bool b3,.slice a3 n3 c3]) ⟨rfl,Av.mk (k2.mono l3) k3 rfl (by rw [hd]; rfl)⟩
 ·rw [if_neg hd,decide_eq_true hd];refine G.c call163 (Hn h.1) ?_;intro v2 u2 l2 k2;obtain ⟨b2,a2,n2,c2,rfl⟩:=k2.opn;refine G.c call163 (Hn h.den) ?_;intro v3 u3 l3 k3;obtain ⟨b3,a3,n3,c3,rfl⟩:=k3.opn;exact G.r (.agg #[.bool b2,.slice a2 n2 c2,.bool b3,.slice a3 n3 c3]) ⟨rfl,Av.mk (k2.mono l3) k3 rfl rfl⟩
end
section
open Go.RowKit
variable {e v:Value}{es:List Value}{q:Rat}{qs:List Rat}{sz:Nat}{u:PH}
def Cs (ts:List (List UInt8)):List Value:=ts.map fun t=>Value.string (mkS t)
theorem J7 (ts:List (List UInt8)):(Cs ts).length=ts.length:=by simp [Cs]
theorem Cu (ts:List (List UInt8)):A3 1 (Cs ts):=by
 intro e he;simp only [Cs,List.mem_map] at he;obtain ⟨b,_,rfl⟩:=he;exact ⟨rfl,fun x hx=>by simp [Value.cells] at hx; subst hx; rfl⟩
def Fe (u:PH)(v:Value)(ts:List (List UInt8)):Prop:=Ab u v 1 (Cs ts)
def Ge (u:PH)(es:List Value)(qs:List Rat):Prop:=es.length=qs.length∧∀ (j:Nat) (q:Rat),qs[j]?=some q→∃ e,es[j]?=some e∧Av u e q
theorem Ge.mono {u u':PH}{es:List Value}{qs:List Rat}(h:Ge u es qs)(hl:PH.le u u'):Ge u' es qs :=
 ⟨h.1,fun j q hj=>by obtain ⟨e,h1,h2⟩:=h.2 j q hj; exact ⟨e,h1,h2.mono hl⟩⟩
theorem Ge.snoc (h:Ge u es qs)(he:Av u e q):Ge u (es++[e]) (qs++[q]):=by
 refine ⟨by simp [h.1],fun j r hj=>?_⟩;by_cases hjl:j < qs.length
 ·rw [List.getElem?_append_left hjl] at hj;obtain ⟨e',h1,h2⟩:=h.2 j r hj;exact ⟨e',by rw [List.getElem?_append_left (by rw [h.1]; exact hjl)]; exact h1,h2⟩
 ·rw [List.getElem?_append_right (by omega)] at hj;have:j - qs.length=0:=by
   rcases Nat.eq_zero_or_pos (j - qs.length) with h0 | h0
   ·exact h0
   ·rw [List.getElem?_eq_none (by simp; omega)] at hj; cases hj
  rw [this] at hj; simp at hj; subst hj;refine ⟨e,?_,he⟩;rw [List.getElem?_append_right (by rw [h.1]; omega),h.1,this]; rfl
def M6 (u:PH)(v:Value)(qs:List Rat):Prop:=∃ es,Ab u v 4 es∧Ge u es qs
theorem M6.mono {u u':PH}{v:Value}{qs:List Rat}(h:M6 u v qs)(hl:PH.le u u'):M6 u' v qs:=by
 obtain ⟨es,h1,h2⟩:=h; exact ⟨es,h1.mono hl,h2.mono hl⟩
theorem Av.ok (h:Av u e q):A3 4 [e]:=by
 obtain ⟨b,a,n,c,b',a',n',c',rfl⟩:=h.opn;intro x hx;simp at hx; subst hx;exact ⟨rfl,fun y hy=>by simp [Value.cells] at hy; rcases hy with rfl | rfl | rfl | rfl <;> rfl⟩
theorem Ab.opn (h:Ab u v sz es):∃ a c,v=.slice a es.length c:=by
 obtain ⟨a,c,rfl,_⟩:=h; exact ⟨a,c,rfl⟩
theorem Ab.at' {a:Option Addr}{n c sz:Nat}(h:Ab u (.slice a n c) sz es){j:Nat}(hj:es[j]?=some e):∃ b off,a=some ⟨b,off,none⟩∧ElP u b (off+j*sz) e:=by
 obtain ⟨a',c',h1,h2,h3⟩:=h;simp only [Value.slice.injEq] at h1;obtain ⟨rfl,_,rfl⟩:=h1;exact h3 j e hj
theorem Aep (h:Fe u v (qs.map Af))(hq:∀ q∈qs,Tx q)(hl:qs.length≤1000000):Fn0 prog 117 [v] u fun v' u'=>M6 u' v' qs:=by
 obtain ⟨a,c,rfl⟩:=Ab.opn h;have hlen:(Cs (qs.map Af)).length=qs.length:=by rw [J7,List.length_map]
 rw [hlen] at h ⊢;refine Fn0.o func117 ?_;refine G.l (ι:=Nat×List Value×(Option Addr×Nat×Nat)) (fun i=>[(3,.v (.slice i.2.2.1 i.2.2.2.1 i.2.2.2.2)),(6,.v (.slice a qs.length c)),(7,.v (.int .i64 (qs.length:Int))),(8,.v (.int .i64 (i.1:Int)))]) (fun _=>[])
  (fun i u' m'=>i.1≤qs.length∧Ge u' i.2.1 (qs.take i.1)∧Ae PH.mt m' (.slice i.2.2.1 i.2.2.2.1 i.2.2.2.2) 116 4 i.2.1) (fun i=>qs.length - i.1) (0,[],(none,0,0)) ⟨by simp,⟨by simp,fun j q hj=>by simp at hj⟩,Ae.nil _ _ _⟩ ?_
 rintro J ⟨k,es,⟨a1,n1,c1⟩⟩ hJ u' m' hle ⟨hk,hF,hA⟩;simp only at hk hF hA hJ;have hel:=hF.1;rw [List.length_take] at hel;by_cases hlt:k < qs.length
 ·refine G.lT (k:Int) (qs.length:Int) ?_;have hqk:qs[k]?=some qs[k]:=List.getElem?_eq_getElem hlt;obtain ⟨ba,oa,rfl,ea⟩:=Ab.at' (Ab.mono h hle) (j:=k) (e:=.string (mkS (Af qs[k]))) (by simp [Cs,hqk]);have htx:=hq qs[k] (List.getElem_mem hlt);refine G.a ba oa qs.length c k 1 (by omega) ?_;refine G.lU none ba (oa+k*1) (.string (mkS (Af qs[k]))) ea ?_;refine G.c call77 (Iy htx) ?_;intro v2 u2 l2 k2;obtain ⟨b2,a2,n2,c2,b2',a2',n2',c2',rfl⟩:=k2.opn;refine G.B 116 4 64 (.agg #[.bool false,.slice none 0 0,.bool false,.slice none 0 0]) [.agg #[.bool b2,.slice a2 n2 c2,.bool b2',.slice a2' n2' c2']] k2.ok ?_;intro g u3 l3 e3;refine G.append 116 4 64 (.agg #[.bool false,.slice none 0 0,.bool false,.slice none 0 0]) PH.mt es [.agg #[.bool b2,.slice a2 n2 c2,.bool b2',.slice a2' n2' c2']] (.slice a1 n1 c1) g 0 1 1 (by kernel_rfl) rfl rfl (by omega) hA e3 k2.ok rfl (by omega) (by omega) (by omega) ?_;intro v4 m4 hA4;obtain ⟨a4,c4,rfl⟩:=hA4.shape;refine G.i k ?_;refine G.b (hJ (k+1,es++[Value.agg #[.bool b2,.slice a2 n2 c2,.bool b2',.slice a2' n2' c2']],(a4,(es++[Value.agg #[.bool b2,.slice a2 n2 c2,.bool b2',.slice a2' n2' c2']]).length,c4)) _ _ _ cv ((hle.trans l2).trans l3) ⟨by dsimp only; omega,?_,hA4⟩ (by dsimp only; omega));dsimp only;rw [List.take_add_one,hqk];exact (hF.mono (l2.trans l3)).snoc (k2.mono l3)
 ·have:k=qs.length:=by omega
  subst this;refine G.lF (qs.length:Int) (qs.length:Int) ?_;refine G.give PH.mt es _ (by kernel_rfl) hA (fun _=>.inl rfl) ?_;intro u3 l3 hL;rw [List.take_length] at hF;exact G.r (.slice a1 n1 c1) ⟨rfl,es,hL,hF.mono l3⟩
end
section
open Go.RowKit
end
section
open Go.RowKit
section rules
variable [Cc] {P:Program} [Ba P] {fn:Func} {Post:B0} {st:List KI×S} {u m:PH}
theorem Bx.heap {w w':World}(h:Bx u m w)(e:∀ g:Nat,w'.heap[g]?=w.heap[g]?):Bx u m w' :=
 ⟨fun g o hg=>by rw [e]; exact h.pu g o hg,fun g o hg=>by rw [e]; exact h.pm g o hg,h.ap,fun g cs t fr j z hg hj=>h.cl g cs t fr j z (by rw [← e]; exact hg) hj⟩
theorem G.convSB (d:Option TypeDesc)(e:TypeId)(l:List UInt8)(h:Al P (adv P st)=.conv d (some (.slice e)) (.string (mkS l)))(hd:d.isSome=true)(he:P.underlying e=some (.int .u8))
  (k:∀ v u',PH.le u u'→Ab u' v 1 (Bc l)→G P fn Post (nx (adv P st) v) u' m):G P fn Post st u m:=by
 refine G.big (K:=fun v' u' m'=>m'=m∧Ab u' v' 1 (Bc l)) h (by simp) (fun env op hv=>?_) (.inl fun v u' m' hk=>by rw [hk.1]; exact PH.le_refl _) (fun env o hview w hgd=>?_) (fun v' u' m' hle hk=>?_)
 ·obtain ⟨s,d',X,rfl,_,_,e4⟩:=Ja hv; exact V1 e4 (by simp)
 ·obtain ⟨s,d',X,e1,e2,e3,e4⟩:=Ja hview;obtain ⟨dst,opp,type,pos,after,guard⟩:=o;simp only at e1; subst e1;obtain ⟨dd,rfl⟩:=Option.isSome_iff_exists.1 hd;have hr:=Lib.run_convert_string_bytes (P:=P) w s d' e (mkS l) e3 e4 he;have hsz:(mkS l).size=l.length:=Go.Lib.size_mk l;obtain ⟨g1,g2,g3,g4⟩:=hgd.newU (.cells (Lib.bytesCells w e (mkS l)) e ((Lib.bytesCells w e (mkS l)).size,(Lib.bytesCells w e (mkS l)).size+1));have hh:∀ g:Nat,(Lib.bytesWorld w e (mkS l)).heap[g]?=(w.alloc (.cells (Lib.bytesCells w e (mkS l)) e ((Lib.bytesCells w e (mkS l)).size,(Lib.bytesCells w e (mkS l)).size+1))).heap[g]?:=by
   intro g;rcases Nat.lt_trichotomy g w.heap.size with h1 | h1 | h1
   ·rw [Lib.bytesWorld_at_old w e _ g h1,A9 _ _ h1]
   ·subst h1; rw [Lib.bytesWorld_at_new,Ca]
   ·rw [Array.getElem?_eq_none (by rw [Lib.bytesWorld_size]; omega),Array.getElem?_eq_none (by rw [Br]; omega)]
  refine Bq (by simp [execOp,e2,hr]; rfl) ⟨_,m,g1.heap hh,⟨by rw [Lib.bytesWorld_size]; omega,fun g hg hm=>Lib.bytesWorld_at_old w e _ g hg,g2.us,g2.ms,⟨rfl,rfl⟩,fun _=>⟨rfl,by first | exact Nat.le_refl _ | exact Nat.le_succ _⟩⟩,rfl,?_⟩
  refine ⟨some ⟨w.heap.size,0,none⟩,grownCap w l.length 0 e,by rw [Aw,hsz],by rw [Aw]; exact grownCap_ge w _ _ e,fun j x hj=>⟨_,0,rfl,fun i y hy=>⟨_,_,_,Ac _ _ _,?_⟩⟩⟩;have hjl:j < l.length:=by
   rcases Nat.lt_or_ge j l.length with h' | h'
   ·exact h'
   ·rw [List.getElem?_eq_none (by rw [Aw]; exact h')] at hj; cases hj
  rw [F6 hjl] at hj;simp only [Option.some.injEq] at hj;subst hj;have:i=0∧y=.int .u8 ((l.getD j 0).toNat:Int):=by
   match i,hy with
   | 0,hy=>simp [Value.cells] at hy; simp [hy]
  obtain ⟨rfl,rfl⟩:=this;simp [Lib.bytesCells,Array.getElem?_append,hjl,List.getD]
 ·obtain ⟨rfl,hk⟩:=hk;exact k v' u' hle hk
end rules
theorem Z7 {u:PH}{s p:List UInt8}:Fn0 prog 265 [.string (mkS s),.string (mkS p)] u fun v _=>v=.string (mkS (Lib.trimPrefix s p)) :=
 Fn0.ofW (fun v _=>v=.string (mkS (Lib.trimPrefix s p))) (fun w _=>(Tryz.strings_TrimPrefix (mkS s) (mkS p) w).mono fun _ _ ⟨e,h⟩=>⟨_,e,rfl,by rw [h]; exact Ext.refl _⟩) (fun _ _ _ h _ _ _=>h)
theorem I1 {u:PH}{z:Int}(h:Lib.nDigits z.natAbs≤400):Fn0 prog 220 [.string (mkS (Lib.itoa z))] u fun v _=>v=.bool true:=by
 refine Fn0.o func220 ?_;by_cases h0:z=0
 ·subst h0;refine G.q (Lib.itoa 0) [48] Dt ?_;exact G.r (.bool true) ⟨rfl,rfl⟩
 refine G.w (Lib.itoa z) [48] (fun e=>h0 (Gv (e.trans Dt.symm))) ?_;refine G.c call265 (Z7 (s:=Lib.itoa z) (p:=[45])) ?_;rintro v1 u1 l1 rfl;have hdl:=Lib.decDigits_length z.natAbs;have hdp:=Lib.nDigits_pos z.natAbs;have hdd:=Mc z.natAbs;obtain ⟨b0,hb0,hb1,hb2⟩:=M5 (z:=(z.natAbs:Int)) (by omega) (by omega);rw [S5] at hb0;rw [C4 z,(Io hdd (Hy _)).1];generalize hL:Lib.decDigits z.natAbs=L at *
 have hsize:(mkS L).size=L.length:=Go.Lib.size_mk _;refine G.w L [] (by intro e; rw [e] at hdl; simp at hdl; omega) ?_;refine G.gF (L.length:Int) 400 ?_;refine G.idxS L 0 b0 (by kernel_rfl) hb0 ?_;refine G.cmpG .eql .u8 (b0.toNat:Int) 48 false (by kernel_rfl) rfl (by simp only [B4,decide_eq_false_iff_not]; omega) ?_;refine G.convSB (some .string) 5 L (by kernel_rfl) rfl (by kernel_rfl) ?_;intro v2 u2 l2 k2;obtain ⟨a,c,rfl⟩:=Ab.opn k2;rw [Aw] at k2 ⊢;refine G.l (ι:=Nat) (fun i=>[(23,.v (.slice a L.length c)),(24,.v (.int .i64 (L.length:Int))),(25,.v (.int .i64 (i:Int)))]) (fun _=>[]) (fun i _ m'=>i≤L.length∧m'=PH.mt) (fun i=>L.length - i) 0 ⟨by omega,rfl⟩ ?_;rintro J i hJ u' m' hle ⟨hi,rfl⟩;by_cases hlt:i < L.length
 ·refine G.lT (i:Int) (L.length:Int) ?_;have hg:=Jc hdd hlt;obtain ⟨ba,oa,rfl,ea⟩:=Ab.at' (Ab.mono k2 hle) (j:=i) (F6 hlt);refine G.a ba oa L.length c i 1 (by omega) ?_;refine G.lU none ba (oa+i*1) (.int .u8 ((L.getD i 0).toNat:Int)) ea ?_;refine G.cmpG .lss .u8 ((L.getD i 0).toNat:Int) 48 false (by kernel_rfl) rfl (by simp only [B4,decide_eq_false_iff_not]; omega) ?_;refine G.cmpG .gtr .u8 ((L.getD i 0).toNat:Int) 57 false (by kernel_rfl) rfl (by simp only [B4,decide_eq_false_iff_not]; omega) ?_;refine G.i i ?_;exact G.b (hJ (i+1) _ _ _ cv hle ⟨by omega,rfl⟩ (by omega))
 ·refine G.lF (i:Int) (L.length:Int) ?_;exact G.r (.bool true) ⟨rfl,rfl⟩
end
section
open Go.RowKit
variable {u:PH}{z:Int}
theorem Aab (h:Lib.nDigits z.natAbs≤400):Fn0 prog 266 [.string (mkS (Lib.itoa z))] u fun v u'=>Cb u' v z:=by
 refine Fn0.o func266 ?_;refine G.c call163 (Hn h) ?_;intro v2 u2 l2 k2;obtain ⟨b2,a2,n2,c2,rfl⟩:=k2.opn;exact G.r (.agg #[.bool b2,.slice a2 n2 c2]) ⟨rfl,k2⟩
theorem Z8 {y z:Int}(h:Lib.nDigits y.natAbs≤400)(h':Lib.nDigits z.natAbs≤400):Fn0 prog 221 [.string (mkS (Lib.itoa y)),.string (mkS (Lib.itoa z))] u fun v _=>v=.int .i64 (sgn (y - z)):=by
 refine Fn0.o func221 ?_;refine G.c call220 (I1 h) ?_;rintro v1 u1 l1 rfl;refine G.c call220 (I1 h') ?_;rintro v2 u2 l2 rfl;refine G.c call266 (Aab h) ?_;intro v3 u3 l3 k3;obtain ⟨b3,a3,n3,c3,rfl⟩:=k3.opn;refine G.c call266 (Aab h') ?_;intro v4 u4 l4 k4;obtain ⟨b4,a4,n4,c4,rfl⟩:=k4.opn;refine G.c call127 (Gs (k3.mono l4) k4 (Nat.le_trans (Bs h) (by omega)) (Nat.le_trans (Bs h') (by omega))) ?_;rintro v5 u5 l5 rfl;exact G.r _ ⟨rfl,rfl⟩
theorem Jl {q:Rat}(h:Tx q):Fn0 prog 154 [.string (mkS (Af q))] u fun v _=>v=.bool true:=by
 refine Fn0.o func154 ?_;refine G.c call162 (App h) ?_;rintro v1 u1 l1 rfl;refine G.c call220 (I1 h.1) ?_;rintro v2 u2 l2 rfl;by_cases hd:q.den=1
 ·rw [if_pos hd,decide_eq_false (by simp [hd])];refine G.c call220 (I1 h.1) ?_;rintro v3 u3 l3 rfl;exact G.r (.bool true) ⟨rfl,rfl⟩
 ·rw [if_neg hd,decide_eq_true hd];have hn:=Ai0 hd;have hdn:=q.den_nz;refine G.w (Lib.itoa q.num) [48] (fun e=>hn (Gv (e.trans Dt.symm))) ?_;refine G.c call220 (I1 h.den) ?_;rintro v3 u3 l3 rfl;have hc:=Z8 (u:=u3) (y:=(q.den:Int)) (z:=1) h.den (by rw [Lib.nDigits_small (by decide)]; omega);rw [Gu] at hc;refine G.c call221 hc ?_;rintro v4 u4 l4 rfl;refine G.kF' (sgn ((q.den:Int) - 1)) 0 (by rw [B9 (by omega)]; omega) ?_;refine G.c call163 (Hn h.1) ?_;intro v5 u5 l5 k5;obtain ⟨b5,a5,n5,c5,rfl⟩:=k5.opn;refine G.c call163 (Hn h.den) ?_;intro v6 u6 l6 k6;obtain ⟨b6,a6,n6,c6,rfl⟩:=k6.opn;refine G.c call195 (Aeo (k5.mono l6) k6 (Nat.le_trans (Bs h.1) (by omega)) (Nat.le_trans (Bs h.den) (by omega))) ?_;intro v7 u7 l7 k7;rw [show Nat.gcd q.num.natAbs ((q.den:Int)).natAbs=1 from q.reduced] at k7;obtain ⟨b7,a7,n7,c7,rfl⟩:=k7.opn;refine G.c call177 (Tz (z:=1) (by omega) (by omega)) ?_;intro v8 u8 l8 k8;obtain ⟨b8,a8,n8,c8,rfl⟩:=k8.opn;refine G.c call127 (Gs (k7.mono l8) k8 (Nat.le_trans Pw (by omega)) (Nat.le_trans Pw (by omega))) ?_;rintro v9 u9 l9 rfl;refine G.eT' (sgn (((1:Nat):Int) - 1)) 0 (by decide) ?_;exact G.r (.bool true) ⟨rfl,rfl⟩
end
section
open Go.RowKit
theorem Al3 (q r:Rat):sgn (q.num*(r.den:Int) - r.num*(q.den:Int))=sgn (q - r).num:=by
 have h:=Wg q r;have hz:=Kv q r;obtain ⟨e1,e2,e3⟩:=Ju (y:=q.num*(r.den:Int) - r.num*(q.den:Int)) hz;rw [h] at e1;rw [e1];generalize q.num*(r.den:Int) - r.num*(q.den:Int)=y at *
 generalize (q.den:Int)*(r.den:Int)=z at *
 have hg:0 < Nat.gcd y.natAbs z.natAbs:=Nat.gcd_pos_of_pos_right _ (by omega);rw [Sw];have hdv:((Nat.gcd y.natAbs z.natAbs:Nat):Int) ∣ y:=Int.ofNat_dvd_left.2 (Nat.gcd_dvd_left _ _);obtain ⟨k,hk⟩:=hdv;generalize Nat.gcd y.natAbs z.natAbs=g at *
 have hgz:(g:Int)≠0:=by omega
 rw [hk,Int.mul_ediv_cancel_left _ hgz];rcases Int.lt_trichotomy k 0 with h1 | h1 | h1
 ·rw [C0 h1,C0 (Int.mul_neg_of_pos_of_neg (by omega) h1)]
 ·subst h1; simp
 ·rw [B9 h1,B9 (Int.mul_pos (by omega) h1)]
end
section
variable {g j k:Nat}{x:SV}
variable [Cc] [Dy]
open Go.RowKit
def SV.pub (k g:Nat):SV→SV
 | .p j off=>cond (Nat.beq j k) (.v (.pointer (some ⟨g,off,none⟩))) (.p j off)
 | x=>x
def Blk.pub (k g:Nat)(b:Blk):Blk:=⟨b.t,b.cells.map (SV.pub k g)⟩
def S.pub (s:S)(k g:Nat):S:={ n:=s.n,tm:=fun d=>(s.tm d).pub k g,hp:=fun j=>cond (Nat.beq j k) none ((s.hp j).map (Blk.pub k g)) }
theorem SV.pub_den (k:Nat)(ρ:Nat→Nat)(x:SV):(x.pub k (ρ k)).den ρ=x.den ρ:=by
 cases x with
 | junk=>rfl
 | v x=>rfl
 | p j off =>
  cases hb:Nat.beq j k with
  | true=>have:=Nat.eq_of_beq_eq_true hb; subst this; simp [SV.pub,SV.den]
  | false=>simp [SV.pub,hb]
theorem SV.pub_junk :x.pub k g≠.junk↔x≠.junk:=by
 cases x with
 | junk=>simp [SV.pub]
 | v x=>simp [SV.pub]
 | p j off=>cases hb:Nat.beq j k <;> simp [SV.pub,hb]
theorem SV.pub_p {k g j off:Nat}(h:x.pub k g=.p j off):x=.p j off∧j≠k:=by
 cases x with
 | junk=>cases h
 | v x=>cases h
 | p j' off' =>
  cases hb:Nat.beq j' k with
  | true=>simp [SV.pub,hb] at h
  | false =>
   simp [SV.pub,hb] at h;obtain ⟨rfl,rfl⟩:=h;exact ⟨rfl,fun e=>by subst e; simp at hb⟩
theorem Kx (s:S)(k g:Nat):(s.pub k g).hp k=none:=by simp [S.pub]
theorem I3 (s:S)(h:j≠k):(s.pub k g).hp j=(s.hp j).map (Blk.pub k g):=by
 have:Nat.beq j k=false:=by rw [← Bool.not_eq_true]; exact fun hh=>h (Nat.eq_of_beq_eq_true hh)
 simp [S.pub,this]
section rules
variable {c:Cx} {s:S} {u m:PH} {ρ:Nat→Nat} {a:Act} {w:World}
theorem Rel.pub (h:Rel c s u m ρ a w){k:Nat}{t:TypeId}{xs:List Value}(hk:s.hp k=some ⟨t,xs.map SV.v⟩):Rel c (s.pub k (ρ k)) u (m.upd (ρ k) (.cells xs.toArray t (0,0))) ρ a w:=by
 obtain ⟨⟨cs,e1,e2,e3⟩,e4,e5,e6⟩:=h.box k _ hk;have hcs:cs=xs.toArray:=by
  apply Array.ext
  ·simpa using e2
  ·intro i h1 h2;have:=e3 i (.v xs[i]) (by simp at h2; simp [h2]) (by simp);rw [Array.getElem?_eq_getElem h1] at this;simpa [SV.den] using this
 subst hcs;have hne:∀ j,s.hp j≠none→j≠k→ρ j≠ρ k:=fun j hj hjk e=>hjk (h.inj j k hj (by rw [hk]; simp) e);refine ⟨h.sz,fun d hd=>?_,h.df.of fun r e _ hu hm=>⟨e,hu,by rw [Ad _ _ (fun e'=>by rw [e',e1] at e; cases e)]; exact hm⟩,fun j b hb=>?_,fun i j hi hj he=>?_,⟨fun d j off hd=>?_,fun i b j off hi hm=>?_⟩,⟨h.gd.pu,fun g o hg=>?_,fun g=>?_,h.gd.cl⟩,⟨h.gr.sz,h.gr.old,h.gr.us,fun g hg hm=>?_,h.gr.io,h.gr.dr⟩⟩
 ·have hd':s.tm d≠.junk:=SV.pub_junk.1 hd;show a.tmps[d]?=some (((s.tm d).pub k (ρ k)).den ρ);rw [SV.pub_den]; exact h.tm d hd'
 ·by_cases hjk:j=k
  ·subst hjk; rw [Kx] at hb; cases hb
  ·rw [I3 _ hjk] at hb;obtain ⟨b0,hb0,rfl⟩:=Option.map_eq_some_iff.1 hb;obtain ⟨⟨cs',f1,f2,f3⟩,f4,f5,f6⟩:=h.box j b0 hb0;refine ⟨⟨cs',f1,by simp [Blk.pub,f2],fun i x hi hx=>?_⟩,f4,f5,?_⟩
   ·simp only [Blk.pub,List.getElem?_map] at hi;obtain ⟨y,hy,rfl⟩:=Option.map_eq_some_iff.1 hi;rw [SV.pub_den]; exact f3 i y hy (SV.pub_junk.1 hx)
   ·rw [Ad _ _ (hne j (by rw [hb0]; simp) hjk)]; exact f6
 ·have h1:∀ j,(s.pub k (ρ k)).hp j≠none→s.hp j≠none:=by
   intro j hj hn;by_cases hjk:j=k
   ·subst hjk; exact hj (Kx _ _ _)
   ·rw [I3 _ hjk,hn] at hj; exact hj rfl
  exact h.inj i j (h1 i hi) (h1 j hj) he
 ·obtain ⟨h1,h2⟩:=SV.pub_p hd;rw [I3 _ h2];have:=h.lv.1 d j off h1;intro hn; exact this (by simpa using hn)
 ·by_cases hik:i=k
  ·subst hik; rw [Kx] at hi; cases hi
  ·rw [I3 _ hik] at hi;obtain ⟨b0,hb0,rfl⟩:=Option.map_eq_some_iff.1 hi;simp only [Blk.pub,List.mem_map] at hm;obtain ⟨y,hy,hyp⟩:=hm;obtain ⟨rfl,h2⟩:=SV.pub_p hyp;rw [I3 _ h2];have:=h.lv.2 i b0 j off hb0 hy;intro hn; exact this (by simpa using hn)
 ·by_cases hg':g=ρ k
  ·subst hg'; rw [Ac] at hg; simp only [Option.some.injEq] at hg; subst hg; exact e1
  ·rw [Ad _ _ hg'] at hg; exact h.gd.pm g o hg
 ·by_cases hg':g=ρ k
  ·subst hg'; exact .inl e5
  ·rw [Ad _ _ hg']; exact h.gd.ap g
 ·rw [Ad _ _ (by omega)]; exact h.gr.ms g hg hm
end rules
section rules2
variable {P:Program} [Ba P] {fn:Func} {Post:B0} {st:List KI×S} {u m:PH}
theorem G.pub (k:Nat)(t:TypeId)(xs:List Value)(h:Fd (ctl P 100 st).1=true)(hb:(ctl P 100 st).2.hp k=some ⟨t,xs.map SV.v⟩)
  (kk:∀ g,u g=none→m g=none→G P fn Post ((ctl P 100 st).1,(ctl P 100 st).2.pub k g) u (m.upd g (.cells xs.toArray t (0,0)))):G P fn Post st u m:=by
 refine ⟨Is 100 st ?_⟩;rw [Sym.ofNo h];intro c ρ a w hm0 hr;obtain ⟨_,_,e5,e6⟩:=hr.box k _ hb;have:=(kk (ρ k) e5 e6).out;rw [Sym.ofNo (by exact h)] at this;exact this c ρ a w hm0 (hr.pub hb)
end rules2
end
section
variable {g:Nat}{x y:PH}
variable [Cc] [Dy]
open Go.RowKit
def PH.or (x y:PH):PH:=fun g=>match x g with | some o=>some o | none=>y g
theorem PH.or_l {o:Obj}(h:x g=some o):x.or y g=some o:=by simp [PH.or,h]
theorem PH.or_r (h:x g=none):x.or y g=y g:=by simp [PH.or,h]
theorem Bx.frameM {u mf mc u' mc':PH}{w w':World}(h:Bx u (mf.or mc) w)(hd:Ki mf mc)(g1:Bx u' mc' w')(g2:Bz u mc w u' mc' w'):Bx u' (mf.or mc') w'∧Bz u (mf.or mc) w u' (mf.or mc') w':=by
 have hmf:∀ g o,mf g=some o→g < w.heap.size∧mc g=none∧w'.heap[g]?=some o∧u' g=none:=by
  intro g o hg;have h1:=h.pm g o (PH.or_l hg);have h2:mc g=none:=(hd g).resolve_left (by rw [hg]; simp);have hlt:=Bw h1;refine ⟨hlt,h2,by rw [g2.old g hlt h2]; exact h1,?_⟩;rw [g2.us g hlt];exact (h.ap g).resolve_right (by rw [PH.or_l hg]; simp)
 refine ⟨⟨g1.pu,fun g o hg=>?_,fun g=>?_,g1.cl⟩,⟨g2.sz,fun g hg hm=>?_,g2.us,fun g hg hm=>?_,g2.io,g2.dr⟩⟩
 ·cases hx:mf g with
  | some o'=>rw [PH.or_l hx] at hg; cases hg; exact (hmf g _ hx).2.2.1
  | none=>rw [PH.or_r hx] at hg; exact g1.pm g o hg
 ·cases hx:mf g with
  | some o'=>exact .inl (hmf g _ hx).2.2.2
  | none=>rw [PH.or_r hx]; exact g1.ap g
 ·cases hx:mf g with
  | some o'=>rw [PH.or_l hx] at hm; cases hm
  | none=>rw [PH.or_r hx] at hm; exact g2.old g hg hm
 ·cases hx:mf g with
  | some o'=>rw [PH.or_l hx] at hm; cases hm
  | none=>rw [PH.or_r hx] at hm ⊢; exact g2.ms g hg hm
section rules
variable {P:Program} [Ba P] {fn:Func} {Post:B0} {st:List KI×S} {u m:PH}
def Tc (st:List KI×S):Bool:=match st.1 with
 | .reg _ _ false _::_=>true
 | .reg _ ops true (i::_)::_=>match ops[i]? with | some o=>Oo ops i o.op || J0 ops st.2 | none=>false
 | _=>false
theorem Um {id:Nat}{ops:Array Oper}{dr:Bool}{i:Nat}{l:List Nat}{k:List KI}{s:S}{o:Oper}(ho:ops[i]?=some o)(h:Tc (.reg id ops dr (i::l)::k,s)=true):dr=false∨Oo ops i o.op=true∨J0 ops s=true:=by
 cases dr with
 | false=>exact .inl rfl
 | true=>right; simpa [Tc,ho] using h
theorem G.bigN {V:S2}{K:Value→PH→PH→Prop}(h:Al P (adv P st)=V)(hV:V≠.other)(hdr:Tc (adv P st)=true)(hf:∀ env op,A7 P env op=V→D6 op=false)
  (hr:∀ env (o:Oper),A7 P env o.op=V→∀ w,Bx u m w→D3 P env o w fun v w'=>∃ u' m',Bx u' m' w'∧Bz u m w u' m' w'∧K v u' m')
  (k:∀ v u' m',PH.le u u'→K v u' m'→G P fn Post (nx (adv P st) v) u' m'):G P fn Post st u m:=by
 refine G.stp ?_;obtain ⟨id,ops,dr,i,l,kk,s,o,e,ho,hg,hd,hv,hs,hview,hnx⟩:=Ho h hV;have hdr':=Um ho (e ▸ hdr);rw [e];refine ⟨?_⟩;refine Ob.big (K:=K) ho hg hd hv hs (hf _ _ hview) (fun v u' m' hK=>.inr hdr') (fun w hgd=>hr _ o hview w hgd) (fun v u' m' h1 h2=>?_);have:=(k v u' m' h1 h2).out;rw [hnx] at this;exact this
end rules
end
section
open Go.RowKit
def Kr (u:PH)(es:List Value)(rs:List (List (List UInt8))):Prop:=es.length=rs.length∧∀ (j:Nat) (r:List (List UInt8)),rs[j]?=some r→∃ a c,es[j]?=some (.slice a r.length c)∧Fe u (.slice a r.length c) r
theorem Kr.mono {u u':PH}{es:List Value}{rs:List (List (List UInt8))}(h:Kr u es rs)(hl:PH.le u u'):Kr u' es rs :=
 ⟨h.1,fun j r hj=>by obtain ⟨a,c,h1,h2⟩:=h.2 j r hj; exact ⟨a,c,h1,Ab.mono h2 hl⟩⟩
def N7 (u:PH)(v:Value)(rs:List (List (List UInt8))):Prop:=∃ es,Ab u v 1 es∧Kr u es rs
theorem N7.mono {u u':PH}{v:Value}{rs:List (List (List UInt8))}(h:N7 u v rs)(hl:PH.le u u'):N7 u' v rs:=by
 obtain ⟨es,h1,h2⟩:=h; exact ⟨es,h1.mono hl,h2.mono hl⟩
theorem N7.opn {u:PH}{v:Value}{rs:List (List (List UInt8))}(h:N7 u v rs):∃ a c,v=.slice a rs.length c:=by
 obtain ⟨es,h1,h2⟩:=h;obtain ⟨a,c,rfl⟩:=h1.opn;exact ⟨a,c,by rw [h2.1]⟩
theorem N7.row {u:PH}{a:Option Addr}{n c j:Nat}{rs:List (List (List UInt8))}{r:List (List UInt8)}(h:N7 u (.slice a n c) rs)(hj:rs[j]?=some r) :
  ∃ b off a' c',a=some ⟨b,off,none⟩∧ElP u b (off+j*1) (.slice a' r.length c')∧Fe u (.slice a' r.length c') r:=by
 obtain ⟨es,h1,h2⟩:=h;obtain ⟨a',c',e1,e2⟩:=h2.2 j r hj;obtain ⟨b,off,rfl,e3⟩:=h1.at' e1;exact ⟨b,off,a',c',rfl,e3,e2⟩
end
section
open Go.RowKit
theorem Ak2 {es:List Value}(h:∀ e∈es,∃ a n c,e=.slice a n c):A3 1 es:=by
 intro e he;obtain ⟨a,n,c,rfl⟩:=h e he;exact ⟨rfl,fun x hx=>by simp [Value.cells] at hx; subst hx; rfl⟩
end
section
open Go.RowKit
def Jx (A:List (List Rat)):List (List (List UInt8)):=A.map fun r=>r.map Af
theorem Hf:Af 0 = [48]:=by rw [Af,if_pos (by rfl)]; exact Dt
theorem Yw:Af 1 = [49]:=by rw [Af,if_pos (by rfl)]; exact Gu
end
section
open Go.RowKit
theorem C2 (mc:PH):PH.mt.or mc=mc:=by funext g; rfl
theorem Sj (mc:PH):Ki PH.mt mc:=fun _=>.inl rfl
end
section
variable [Cc] [Dy]
open Go.RowKit
section rules
variable {P:Program} [Ba P] {fn:Func} {Post:B0} {st:List KI×S} {u m:PH}
theorem G.storeM (sz b off:Nat)(t:TypeId)(cs:List Value)(e:Value)(h:Al P (adv P st)=.store (some sz) (.pointer (some ⟨b,off,none⟩)) e)(hb:m b=some (.cells cs.toArray t (0,0)))(ho:∀ x∈cs,Be x=true)(hl:off+sz≤cs.length)(he:e.cells.size=sz)(hc:e.cells.toList.all Be=true)
  (k:G P fn Post (nx (adv P st) undef) u (m.upd b (.cells (cs.take off++e.cells.toList++cs.drop (off+sz)).toArray t (0,0)))):G P fn Post st u m:=by
 refine G.big (K:=fun v' u' m'=>u'=u∧v'=undef∧m'=m.upd b (.cells (cs.take off++e.cells.toList++cs.drop (off+sz)).toArray t (0,0))) h (by simp) (fun env op hv=>?_) (.inr fun env op hv=>?_) (fun env o hview w hgd=>?_) (fun v' u' m' _ hk=>?_)
 ·obtain ⟨t',X,Y,rfl,_⟩:=Gc hv; rfl
 ·obtain ⟨t',X,Y,rfl,_⟩:=Gc hv; rfl
 ·obtain ⟨t',X,Y,e1,e2,e3,ht⟩:=Gc hview;obtain ⟨dst,opp,type,pos,after,guard⟩:=o;simp only at e1; subst e1;rw [List.all_eq_true] at hc;have hgw:=hgd.pm b _ hb;have hst:=run_storeCells_at P b off t e.cells.toList 0 cs.toArray w hgw (by simp [he]; omega) (fun x hx=>H2 (hc x hx));simp only [Nat.add_zero,Array.length_toList,he,List.toList_toArray] at hst;have hcell:∀ x∈(cs.take off++e.cells.toList++cs.drop (off+sz)).toArray.toList,Be x=true:=by
   intro x hx;simp only [List.toList_toArray,List.mem_append] at hx;rcases hx with (hx | hx) | hx
   ·exact ho x (List.mem_of_mem_take hx)
   ·exact hc x hx
   ·exact ho x (List.mem_of_mem_drop hx)
  obtain ⟨g1,g2⟩:=hgd.setM hb hcell;unfold D3;have hex:(execOp env ⟨dst,.store t' X Y,type,pos,after,guard⟩).run P w=.ok .skip (w.setRow b (cs.take off++e.cells.toList++cs.drop (off+sz)).toArray):=by
   simp only [execOp,e2,e3];simp only [List.append_assoc] at hst ⊢;simp [Instr.storeAt,Instr.sureAddr,storeVar,Bf ht,he,hst]
  rw [hex];exact ⟨u,_,g1,g2,rfl,rfl,rfl⟩
 ·obtain ⟨rfl,rfl,rfl⟩:=hk;exact k
end rules
end
section
variable [Cc]
section rules
variable {P:Program} [Ba P] {fn:Func} {Post:B0} {st:List KI×S} {u m:PH}
section based
variable [Dy]
theorem Rel.less {c:Cx}{s:S}{ρ:Nat→Nat}{a:Act}{w:World}(h:Rel c s u m ρ a w){m':PH}(hl:PH.le m' m):Rel c s u m' ρ a w:=by
 have hn:∀ g,m g=none→m' g=none:=fun g hg=>by
  cases e:m' g with
  | none=>rfl
  | some o=>rw [hl g o e] at hg; cases hg
 refine ⟨h.sz,h.tm,h.df.of fun r e _ hu hm=>⟨e,hu,hn _ hm⟩,fun k b hb=>?_,h.inj,h.lv,h.gd.less hl,⟨h.gr.sz,h.gr.old,h.gr.us,fun g hg hm=>hn g (h.gr.ms g hg hm),h.gr.io,h.gr.dr⟩⟩;obtain ⟨e1,e2,e3,e4⟩:=h.box k b hb;exact ⟨e1,e2,e3,hn _ e4⟩
theorem G.drop (m':PH)(h:Fd (ctl P 100 st).1=true)(hl:PH.le m' m)(k:G P fn Post (ctl P 100 st) u m'):G P fn Post st u m:=by
 refine ⟨Is 100 st ?_⟩;have hk:=k.out;rw [Sym.ofNo h] at hk ⊢;intro c ρ a w hm0 hr;exact hk c ρ a w hm0 (hr.less hl)
end based
theorem PH.mt_le (m:PH):PH.le PH.mt m:=fun _ _ h=>by cases h
end rules
end
section
open Go.RowKit
theorem If (A:List (List Rat)):(Jx A).length=A.length:=by simp [Jx]
theorem Gj {A:List (List Rat)}{j:Nat}{r:List Rat}(h:A[j]?=some r):(Jx A)[j]?=some (r.map Af):=by simp [Jx,h]
end
section
open Go.RowKit
variable {A:List (List Rat)}{i:Nat}
structure Sq (A:List (List Rat)):Prop where
 le:A.length≤12
 row:∀ r∈A,r.length=A.length
 tx:∀ r∈A,∀ q∈r,Tx q
theorem Sq.len (h:Sq A)(hi:i < A.length):A[i].length=A.length:=h.row _ (List.getElem_mem hi)
theorem Sq.tx' (h:Sq A){i j:Nat}(hi:i < A.length)(hj:j < A[i].length):Tx A[i][j]:=h.tx _ (List.getElem_mem hi) _ (List.getElem_mem hj)
end
section
open Go.RowKit
variable {e:Value}{es:List Value}
section lists
variable {α:Type} {R:PH→Value→α→Prop} {u u':PH}
def AtP (R:PH→Value→α→Prop)(u:PH)(es:List Value)(xs:List α):Prop:=es.length=xs.length∧∀ (j:Nat) (x:α),xs[j]?=some x→∃ e,es[j]?=some e∧R u e x
theorem AtP.nil:AtP R u [] []:=⟨rfl,fun j x h=>by simp at h⟩
theorem AtP.mono {xs:List α}(hR:∀ e x,R u e x→R u' e x)(h:AtP R u es xs):AtP R u' es xs :=
 ⟨h.1,fun j x hj=>by obtain ⟨e,h1,h2⟩:=h.2 j x hj; exact ⟨e,h1,hR e x h2⟩⟩
theorem AtP.snoc {xs:List α}{x:α}(h:AtP R u es xs)(he:R u e x):AtP R u (es++[e]) (xs++[x]):=by
 refine ⟨by simp [h.1],fun j r hj=>?_⟩;by_cases hjl:j < xs.length
 ·rw [List.getElem?_append_left hjl] at hj;obtain ⟨e',h1,h2⟩:=h.2 j r hj;exact ⟨e',by rw [List.getElem?_append_left (by rw [h.1]; exact hjl)]; exact h1,h2⟩
 ·rw [List.getElem?_append_right (by omega)] at hj;have:j - xs.length=0:=by
   rcases Nat.eq_zero_or_pos (j - xs.length) with h0 | h0
   ·exact h0
   ·rw [List.getElem?_eq_none (by simp; omega)] at hj; cases hj
  rw [this] at hj; simp at hj; subst hj;refine ⟨e,?_,he⟩;rw [List.getElem?_append_right (by rw [h.1]; omega),h.1,this]; rfl
theorem AtP.set {xs:List α}{x:α}(h:AtP R u es xs)(k:Nat)(he:R u e x):AtP R u (es.set k e) (xs.set k x):=by
 refine ⟨by simp [h.1],fun j r hj=>?_⟩;rw [List.getElem?_set] at hj ⊢;split at hj
 ·rename_i e';subst e';split at hj
  ·rename_i hlt;simp only [Option.some.injEq] at hj; subst hj;exact ⟨e,by rw [if_pos rfl,if_pos (by rw [h.1]; exact hlt)],he⟩
  ·cases hj
 ·rename_i e';rw [if_neg e'];exact h.2 j r hj
end lists
theorem Gt (a:Option Addr)(n c:Nat):A3 1 [.slice a n c]:=Ak2 (by intro e he; simp at he; exact ⟨_,_,_,he⟩)
theorem Ae.some' {m0 m:PH}{t:TypeId}{sz:Nat}{a:Addr}{n c:Nat}(ha:Ae m0 m (.slice (some a) n c) t sz es):∃ g,a=⟨g,0,none⟩∧m0 g=none:=by
 rcases ha.2 with ⟨h,_,_⟩ | ⟨g,cap,rest,h0,_,h,_⟩
 ·simp at h
 ·simp only [Value.slice.injEq,Option.some.injEq] at h;exact ⟨g,h.1,h0⟩
end
section
open Go.RowKit
end
section
variable [Cc] [Dy]
open Go.RowKit
structure Arr where
 v:Value
 t:TypeId
 sz:Nat
 es:List Value
def Arr.At (a:Arr)(m0 m:PH):Prop:=Ae m0 m a.v a.t a.sz a.es
def Bag:PH→List Arr→Prop
 | _,[]=>True
 | m,a::l=>∃ m0,a.At m0 m∧Bag m0 l
theorem Jg (m:PH){g h:Nat}(o p:Obj)(hn:g≠h):(m.upd g o).upd h p=(m.upd h p).upd g o:=by
 funext k
 unfold PH.upd;by_cases h1:k=g
 ·subst h1; simp [hn]
 ·by_cases h2:k=h
  ·subst h2; simp [h1]
  ·simp [h1,h2]
theorem At.swap {x y:Arr}{m0 m1 m:PH}(hy:y.At m1 m)(hx:x.At m0 m1):∃ m2,y.At m0 m2∧x.At m2 m∧∀ (x':Arr) m',x'.At m2 m'→∃ m1',y.At m1' m'∧x'.At m0 m1':=by
 obtain ⟨oy,hy⟩:=hy;rcases hy with ⟨y1,y2,rfl⟩ | ⟨h,cap,rest,y1,rfl,y2,y3,y4,y5⟩
 ·exact ⟨m0,⟨oy,.inl ⟨y1,y2,rfl⟩⟩,hx,fun x' m' hx'=>⟨m',⟨oy,.inl ⟨y1,y2,rfl⟩⟩,hx'⟩⟩
 ·obtain ⟨ox,hx⟩:=hx;rcases hx with ⟨x1,x2,rfl⟩ | ⟨g,cap',rest',x1,rfl,x2,x3,x4,x5⟩
  ·refine ⟨_,⟨oy,.inr ⟨h,cap,rest,y1,rfl,y2,y3,y4,y5⟩⟩,⟨ox,.inl ⟨x1,x2,rfl⟩⟩,fun x' m' hx'=>?_⟩;obtain ⟨ox',hx'⟩:=hx';rcases hx' with ⟨z1,z2,rfl⟩ | ⟨g',cap'',rest'',z1,rfl,z2,z3,z4,z5⟩
   ·exact ⟨_,⟨oy,.inr ⟨h,cap,rest,y1,rfl,y2,y3,y4,y5⟩⟩,⟨ox',.inl ⟨z1,z2,rfl⟩⟩⟩
   ·have hne:g'≠h:=fun e=>by subst e; rw [Ac] at z1; cases z1
    rw [Ad _ _ hne] at z1;refine ⟨_,⟨oy,.inr ⟨h,cap,rest,?_,Jg _ _ _ hne.symm,y2,y3,y4,y5⟩⟩,⟨ox',.inr ⟨g',cap'',rest'',z1,rfl,z2,z3,z4,z5⟩⟩⟩;rw [Ad _ _ hne.symm]; exact y1
  ·have hne:h≠g:=fun e=>by subst e; rw [Ac] at y1; cases y1
   rw [Ad _ _ hne] at y1;refine ⟨_,⟨oy,.inr ⟨h,cap,rest,y1,rfl,y2,y3,y4,y5⟩⟩,⟨ox,.inr ⟨g,cap',rest',?_,Jg _ _ _ hne.symm,x2,x3,x4,x5⟩⟩,fun x' m' hx'=>?_⟩
   ·rw [Ad _ _ hne.symm]; exact x1
   ·obtain ⟨ox',hx'⟩:=hx';rcases hx' with ⟨z1,z2,rfl⟩ | ⟨g',cap'',rest'',z1,rfl,z2,z3,z4,z5⟩
    ·exact ⟨_,⟨oy,.inr ⟨h,cap,rest,y1,rfl,y2,y3,y4,y5⟩⟩,⟨ox',.inl ⟨z1,z2,rfl⟩⟩⟩
    ·have hne':g'≠h:=fun e=>by subst e; rw [Ac] at z1; cases z1
     rw [Ad _ _ hne'] at z1;refine ⟨_,⟨oy,.inr ⟨h,cap,rest,?_,Jg _ _ _ hne'.symm,y2,y3,y4,y5⟩⟩,⟨ox',.inr ⟨g',cap'',rest'',z1,rfl,z2,z3,z4,z5⟩⟩⟩;rw [Ad _ _ hne'.symm]; exact y1
theorem Bag.focus:∀ {l:List Arr} {m:PH} (_:Bag m l) (i:Nat) {x:Arr},l[i]?=some x→∃ m0,x.At m0 m∧∀ (x':Arr) m',x'.At m0 m'→Bag m' (l.set i x')
 | [],m,_,i,x,hi=>by simp at hi
 | y::l,m,⟨m1,hy,hl⟩,0,x,hi=>by
  simp at hi; subst hi;exact ⟨m1,hy,fun x' m' hx'=>⟨m1,hx',hl⟩⟩
 | y::l,m,⟨m1,hy,hl⟩,i+1,x,hi=>by
  simp at hi;obtain ⟨m0,hx,hput⟩:=Bag.focus hl i hi;obtain ⟨m2,hy2,hx2,hk⟩:=At.swap hy hx;refine ⟨m2,hx2,fun x' m' hx'=>?_⟩;obtain ⟨m1',k1,k2⟩:=hk x' m' hx';exact ⟨m1',k1,hput x' m1' k2⟩
theorem Bag.take:∀ {l:List Arr} {m:PH} (_:Bag m l) (i:Nat) {x:Arr},l[i]?=some x→∃ m0,x.At m0 m∧Bag m0 (l.eraseIdx i)
 | [],m,_,i,x,hi=>by simp at hi
 | y::l,m,⟨m1,hy,hl⟩,0,x,hi=>by
  simp at hi; subst hi;exact ⟨m1,hy,hl⟩
 | y::l,m,⟨m1,hy,hl⟩,i+1,x,hi=>by
  simp at hi;obtain ⟨m0,hx,hput⟩:=Bag.take hl i hi;obtain ⟨m2,hy2,hx2,hk⟩:=At.swap hy hx;exact ⟨m2,hx2,m0,hy2,hput⟩
theorem Bag.el {l:List Arr}{m:PH}(h:Bag m l)(i:Nat){x:Arr}(hi:l[i]?=some x){b n c j:Nat}{e:Value}(hv:x.v=.slice (some ⟨b,0,none⟩) n c)(hj:x.es[j]?=some e):ElP m b (0+j*x.sz) e:=by
 obtain ⟨m0,hx,_⟩:=h.focus i hi;unfold Arr.At at hx;rw [hv] at hx;exact hx.el hj
theorem Bag.ptr {l:List Arr}{m:PH}(h:Bag m l)(i:Nat){x:Arr}(hi:l[i]?=some x)(hn:x.es≠[]):∃ b c,x.v=.slice (some ⟨b,0,none⟩) x.es.length c:=by
 obtain ⟨m0,hx,_⟩:=h.focus i hi;exact hx.ptr hn
section rules
variable {P:Program} [Ba P] {fn:Func} {Post:B0} {st:List KI×S} {u m:PH}
theorem G.callO (f:Nat)(args:List Value){R:Value→PH→PH→Prop}(h:Al P (adv P st)=.call f args)(hc:∀ args w,(callFunc f args).run P w=.ok (.enter f args) w)(c:Ai P f args u PH.mt R)
  (k:∀ v u' mc,PH.le u u'→R v u' mc→(∀ g,mc g≠none→m g=none)→G P fn Post (nx (adv P st) v) u' (m.or mc)):G P fn Post st u m:=by
 refine G.big (K:=fun v u' m'=>∃ mc,m'=m.or mc∧R v u' mc∧∀ g,mc g≠none→m g=none) h (by simp) Fm (.inl fun v u' m' hK=>?_) (fun env o hview w hgd=>?_) (fun v u' m' h1 h2=>?_)
 ·obtain ⟨mc,rfl,_⟩:=hK;exact fun g o hg=>PH.or_l hg
 ·refine Lz hview hc w _ (Calls.mono (c w hgd.noM) fun e w' he=>?_);obtain ⟨v,u',mc,e1,e2,e3,e4⟩:=he;have hor:m.or PH.mt=m:=by
   funext g; unfold PH.or; split
   ·rename_i o e; rw [e]
   ·rename_i e; rw [e]; rfl
  have hfr:∀ g,mc g≠none→m g=none:=fun g hg=>by
   rcases Nat.lt_or_ge g w.heap.size with hlt | hge
   ·exact absurd (e3.ms g hlt rfl) hg
   ·exact hgd.pm.none hge
  obtain ⟨g1,g2⟩:=Bx.frameM (mf:=m) (mc:=PH.mt) (by rw [hor]; exact hgd) (fun _=>.inr rfl) e2 e3;rw [hor] at g2;exact ⟨v,e1,u',m.or mc,g1,g2,mc,rfl,e4,hfr⟩
 ·obtain ⟨mc,rfl,hR,hf⟩:=h2;exact k v u' mc h1 hR hf
theorem Uw {env:Operand→Value}{o:Op}{ts:List TypeId}{xs:List Value}(h:A7 P env o=.blt .copy ts xs):Ke o=true∧D6 o=false:=by
 obtain ⟨c,rfl,h2,_⟩:=Ou h;obtain ⟨cal,a,t⟩:=c;simp only at h2; subst h2;exact ⟨rfl,rfl⟩
theorem G.copyM (dT sT e:TypeId)(sz g o n c:Nat)(a:Addr)(sn sc:Nat)(t:TypeId)(cur cs:List Value)(h:Al P (adv P st)=.blt .copy [dT,sT] [.slice (some ⟨g,o,none⟩) n c,.slice (some a) sn sc])
  (hu:P.underlying dT=some (.slice e)) (hsz:szB P e=some sz) (hb:m g=some (.cells cur.toArray t (0,0))) (hk:cs.length=Nat.min sn n*sz)
  (hsrc:∀ w,Eb u w→Eb m w→∀ (j:Nat) (v:Value),cs[j]?=some v→w.cell? (a.add j)=some v) (hfit:o+cs.length≤cur.length) (h1:∀ x∈cs,Be x=true) (h2:∀ x∈cur,Be x=true)
  (k:G P fn Post (nx (adv P st) (.int .i64 ((Nat.min sn n:Nat):Int))) u (m.upd g (.cells (cur.take o++cs++cur.drop (o+cs.length)).toArray t (0,0)))):G P fn Post st u m:=by
 refine G.big (K:=fun v' u' m'=>u'=u∧v'=.int .i64 ((Nat.min sn n:Nat):Int)∧m'=m.upd g (.cells (cur.take o++cs++cur.drop (o+cs.length)).toArray t (0,0))) h (by simp) (fun env op hv=>(Uw hv).2) (.inr fun env op hv=>(Uw hv).1) (fun env op hview w hgd=>?_) (fun v' u' m' _ hk=>?_)
 ·obtain ⟨cc,e1,e2,e3,e4⟩:=Ou hview;obtain ⟨dst,opp,type,pos,after,guard⟩:=op;obtain ⟨cal,ar,ty⟩:=cc;simp only at e1 e2 e3 e4; subst e1 e2 e3;have hgw:=hgd.pm g _ hb;have hl:=run_loadCells_list (P:=P) w a cs (hsrc w hgd.pu hgd.pm);have hst:=run_storeCells_at P g o t cs 0 cur.toArray w hgw (by simpa using hfit) (fun x hx=>H2 (h1 x hx));have hrun:(Builtin.copy_ #[dT,sT] type #[.slice (some ⟨g,o,none⟩) n c,.slice (some a) sn sc]).run P w=.ok (.int .i64 ((Nat.min sn n:Nat):Int)) (w.setRow g (cur.take o++cs++cur.drop (o+cs.length)).toArray):=by
   simp only [Nat.add_zero,List.toList_toArray] at hst;simp [Builtin.copy_,run_underlying hu,Builtin.lenOf,Builtin.firstCells,Bf hsz,← hk,hl];rw [hst];simp [goInt]
  have hcell:∀ x∈(cur.take o++cs++cur.drop (o+cs.length)).toArray.toList,Be x=true:=by
   intro x hx;simp only [List.toList_toArray,List.mem_append] at hx;rcases hx with (hx | hx) | hx
   ·exact h2 x (List.mem_of_mem_take hx)
   ·exact h1 x hx
   ·exact h2 x (List.mem_of_mem_drop hx)
  obtain ⟨g1,g2⟩:=hgd.setM hb hcell;unfold D3;have hex:(execOp env ⟨dst,.call ⟨.builtin .copy,ar,#[dT,sT]⟩,type,pos,after,guard⟩).run P w=.ok (.value (.int .i64 ((Nat.min sn n:Nat):Int))) (w.setRow g (cur.take o++cs++cur.drop (o+cs.length)).toArray):=by
   simp [execOp,resolve,invoke,builtin,e4,hrun]
  rw [hex];exact ⟨u,_,g1,g2,rfl,rfl,rfl⟩
 ·obtain ⟨rfl,rfl,rfl⟩:=hk;exact k
end rules
end
end Go.Proofs.YtanfagpabkdmiaaGreatDoor
