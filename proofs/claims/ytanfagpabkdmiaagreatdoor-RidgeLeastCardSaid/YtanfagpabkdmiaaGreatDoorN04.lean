/- Parts of one proof, joined by a program. -/
import Derived.Test.YtanfagpabkdmiaaGreatDoorN03
set_option linter.unusedVariables false
set_option linter.unusedSimpArgs false
set_option linter.unusedSectionVars false
set_option maxHeartbeats 16000000
namespace Go.Proofs.YtanfagpabkdmiaaGreatDoor
open Go.Proofs.Tryz
open Go.RowKit
open _root_.Array renaming mk.injEq -> A3z
open Int renaming ediv_le_self -> A88, ediv_nonneg -> A77, eq_ofNat_of_zero_le -> A53, lt_or_le -> A5n, lt_trichotomy -> A4f, natAbs_natCast -> A1z, natAbs_neg -> A3b, natCast_ediv -> A4q, natCast_mul -> A4j, neg_tdiv -> A64, neg_tmod -> Bcj, ofNat_dvd_left -> Ban, sub_eq_add_neg -> A59, tdiv_eq_ediv_of_dvd -> A9f, tdiv_eq_ediv_of_nonneg -> A31, tdiv_neg -> Bci
open List renaming cons.injEq -> A18, drop_of_length_le -> A1u, drop_zero -> A41, eq_nil_of_length_eq_zero -> A13, ext_getElem? -> A4g, getD_eq_getElem?_getD -> A0o, getElem?_append_right -> A1s, getElem?_eq_getElem -> A0n, getElem?_eq_none -> A1g, getElem?_set_ne -> A95, getElem?_set_self -> A4v, length -> A35, length_append -> A0z, length_map -> A0p, length_nil -> A3i, length_replicate -> A3e, length_set -> A3u, length_singleton -> A2o, length_take -> A00, replicate -> A0x, set_set -> A86, take_of_length_le -> A03
open Nat renaming add_assoc -> A28, add_mul -> A1o, add_sub_cancel -> A5l, add_zero -> A3f, div_add_mod -> A26, div_le_self -> A3v, div_lt_iff_lt_mul -> A2w, div_mul_le_self -> A6s, eq_zero_or_pos -> A1p, gcd -> A2p, gcd_comm -> A87, gcd_le_right -> Bbj, gcd_pos_of_pos_right -> A63, gcd_zero_right -> A8o, le_div_iff_mul_le -> A4l, le_of_lt -> A62, le_refl -> A0w, le_trans -> A0q, lt_or_ge -> A11, min_eq_left -> A32, mod_lt -> A2s, mul_add -> A2a, mul_assoc -> A1x, mul_comm -> A10, mul_div_le -> A9t, mul_le_mul -> A3j, mul_le_mul_left -> A2i, mul_le_mul_right -> A12, mul_zero -> A3n, pow_succ -> A16, zero_mul -> A4p
open Option renaming some.injEq -> A0t
open Rat renaming divInt -> A2m, neg_den -> A9q, neg_num -> A9p, sub_eq_add_neg -> A8p
open Value renaming agg.injEq -> A33, bool.injEq -> A4o, cells -> A1e, slice -> A06, slice.injEq -> A09
section
variable {a:Option Addr}{b neg:Bool}{c n:Nat}{l:List Nat}{q:Rat}{y z:Int}
section
variable [Cc] {P:Program} [Ba P] {fn:Func} {Post:B0} {st:List KI×S} {u m:PH}
theorem Ahq (h1:0<=z)(h2:z<18446744073709551616):IntKind.u64.wrap z=z:=by
 simp only[IntKind.wrap,IntKind.signed,IntKind.bits];simp;omega
theorem G.quoW (x y z:Nat)(h:Al P (adv P st)=.bin .quo (.int .u64 (x:Int)) (.int .u64 (y:Int)))(hz:x/y=z)(hx:x<18446744073709551616)(hy:0<y)(k:G P fn Post (nx (adv P st) (.int .u64 (z:Int))) u m):G P fn Post st u m:=by
 refine G.bin _ h Cy (fun t w=>?_) k;have h3:z<=x:=by rw[<-hz];exact A3v _ _
 have h1:(x:Int).tdiv y=z:=by rw[A31 oV,<-hz];rfl
 have h4:¬ y=0:=oV
 simp[binOp,Op.intDiv,h4,h1,Ahq (z:=(z:Int)) oV oV]
theorem G.remW (x y z:Nat)(h:Al P (adv P st)=.bin .rem (.int .u64 (x:Int)) (.int .u64 (y:Int)))(hz:x%y=z)(hx:x<18446744073709551616)(hy:0<y)(k:G P fn Post (nx (adv P st) (.int .u64 (z:Int))) u m):G P fn Post st u m:=by
 refine G.bin _ h Cy (fun t w=>?_) k;have h3:z<=x:=by rw[<-hz];exact Nat.mod_le _ _
 have h1:(x:Int).tmod y=z:=by rw[Int.tmod_eq_emod_of_nonneg oV,<-hz];rfl
 have h4:¬ y=0:=oV
 simp[binOp,Op.intDiv,h4,h1,Ahq (z:=(z:Int)) oV oV]
theorem G.negW (x z:Int)(h:Al P (adv P st)=.un .neg (.int .u64 x))(hz:IntKind.u64.wrap (-x)=z)(k:G P fn Post (nx (adv P st) (.int .u64 z)) u m):G P fn Post st u m:=by
 refine G.ask h mV (fun env o hview w hp=>?_) k;obtain⟨t,X,e1,e2⟩:=Xc hview;obtain⟨dst,opp,type,pos,after,guard⟩:=o;simp only at e1;subst e1;simp[execOp,Op.unary,e2,Op.intArith,hz]
end
section
variable {u:PH} {x x':Value}
theorem Ad1 {m n:Nat}(h:Cm u x m)(h':Cm u x' n)(sa:nl m<=10000000000000)(sb:nl n<=10000000000000):Fn0 prog 222 [x,x'] u fun v u'=>Cm u' v (m+n) :=
 Fn0.ofW (fun v w=>Ci w v (m+n)) (fun w hp=>Acx x x' m n w (h.toW hp) (h'.toW hp) sa sb) (fun _ _ _ h _ c _=>Cm.ofW h c)
theorem Xw {m n:Nat}(h:Cm u x m)(h':Cm u x' n)(sa:nl m<=10000000000000)(hle:n<=m):Fn0 prog 224 [x,x'] u fun v u'=>Cm u' v (m-n) :=
 Fn0.ofW (fun v w=>Ci w v (m-n)) (fun w hp=>Acl x x' m n w (h.toW hp) (h'.toW hp) sa hle) (fun _ _ _ h _ c _=>Cm.ofW h c)
theorem Amt {m n:Nat}(h:Cm u x m)(h':Cm u x' n)(sa:nl m<=10000000000000)(sb:nl n<=10000000000000):Fn0 prog 198 [x,x'] u fun v u'=>Cm u' v (m*n) :=
 Fn0.ofW (fun v w=>Ci w v (m*n)) (fun w hp=>Aa5 x x' m n w (h.toW hp) (h'.toW hp) sa sb) (fun _ _ _ h _ c _=>Cm.ofW h c)
theorem Zn {m n:Nat}(h:Cm u x m)(h':Cm u x' n)(sa:nl m<=10000000000000)(sb:nl n<=10000000000000):Fn0 prog 223 [x,x'] u fun v _=>v=.int .i64 (sgn ((m:Int)-n)) :=
 Fn0.ofW (fun v _=>v=.int .i64 (sgn ((m:Int)-n))) (fun w hp=>(Fa x x' m n w (h.toW hp) (h'.toW hp) sa sb).mono fun _ _ h=>⟨_,h.ext.1,rfl,h.ext.2⟩) (fun _ _ _ h _ _ _=>h)
theorem Mr {m n:Nat}(h:Cm u x m)(h':Cm u x' n)(sa:nl m<=5000000000000)(sb:nl n<=5000000000000)(hn:0<n):Fn0 prog 249 [x,x'] u fun v u'=>∃ a b,v=.tuple #[a,b]/\Cm u' a (m/n)/\Cm u' b (m%n) :=
 Fn0.ofW (fun v w=>∃ a b,v=.tuple #[a,b]/\Ci w a (m/n)/\Ci w b (m%n)) (fun w hp=>(Ub x x' m n w (h.toW hp) (h'.toW hp) sa sb hn).mono fun _ _ ⟨a,b,e,k1,k2,k3⟩=>⟨_,e,⟨a,b,rfl,k1,k2⟩,k3⟩)
  (fun _ _ _ ⟨a,b,e,k1,k2⟩ _ c _=>⟨a,b,e,Cm.ofW k1 c,Cm.ofW k2 c⟩)
theorem Vy (h:Cm u x n)(hn:nl n<=2):Fn0 prog 291 [x] u fun v _=>v=.int .u64 (n:Int) :=
 Fn0.ofW (fun v _=>v=.int .u64 (n:Int)) (fun w hp=>(W9 x n w (h.toW hp) hn).mono fun _ _ ⟨e,k⟩=>⟨_,e,rfl,k▸Ext.refl _⟩) (fun _ _ _ h _ _ _=>h)
theorem Abs.els {g:Nat}(h:El u g 0 1 (E2 l)):Abs u (some ⟨g,0,none⟩) (E2 l):=fun j hj=>by
 refine⟨g,0,rfl,?_⟩;have hl:j<l.length:=by simpa[E2] using hj
 have:=h j (.int .u64 (l[j]:Nat)) (by simp[E2,hl]) 0 (.int .u64 (l[j]:Nat)) rfl;simpa[E2,hl] using this
theorem And (hl:Low l)(hr:Abs u a (E2 l))(hn:val l=n)(hc:l.length<=c)(h2:l.length<=9223372036854775807):Fn0 prog 228 [.slice a l.length c] u fun v u'=>Cm u' v n :=
 Fn0.ofW (fun v w=>Ci w v n) (fun w hp=>by
  have hw:Row w a (E2 l):=fun j hj=>by obtain⟨b,off,e1,e2⟩:=hr j hj;exact⟨b,off,e1,e2.cell hp⟩
  exact (Fk a c l.length l w rfl h2 hc hw).mono fun e w' ⟨e1,e2⟩=>by subst e2;exact⟨_,e1,C3 hl hw hn hc,Ext.refl _⟩) (fun _ _ _ h _ c _=>Cm.ofW h c)
theorem Cm.len {k c n:Nat}(h:Cm u (.slice a k c) n):k=nl n:=by
 obtain⟨_,_,e,_⟩:=h;cases e;rfl
theorem Cm.opn (h:Cm u x n):∃ a c,x=.slice a (nl n) c:=by
 obtain⟨a,c,e,_⟩:=h;exact⟨a,c,e⟩
theorem Amb {m n : Nat} (h : Cm u x m) (h' : Cm u x' n) (sa : nl m ≤ 5000000000000) (sb : nl n ≤ 5000000000000) : Fn0 prog 248 [x, x'] u fun v u' => Cm u' v (A2p m n) := by
  obtain ⟨a, c, rfl⟩ := h.opn
  obtain ⟨b, d, rfl⟩ := h'.opn
  refine Fn0.o func248 ?_
  refine G.l (ι := (Option Addr × Nat × Nat) × (Option Addr × Nat × Nat)) (fun i => [(0, sV i.1.1 (nl i.1.2.1) i.1.2.2), (1, sV i.2.1 (nl i.2.2.1) i.2.2.2)]) (fun _ => [])
    (fun i u' m' => m' = PH.mt ∧ Cm u' (.slice i.1.1 (nl i.1.2.1) i.1.2.2) i.1.2.1 ∧ Cm u' (.slice i.2.1 (nl i.2.2.1) i.2.2.2) i.2.2.1 ∧ A2p i.1.2.1 i.2.2.1 = A2p m n ∧ nl i.1.2.1 ≤ 5000000000000 ∧ nl i.2.2.1 ≤ 5000000000000)
    (fun i => i.2.2.1) ((a, m, c), (b, n, d)) ⟨rfl, h, h', rfl, sa, sb⟩ ?_
  rintro J ⟨⟨a1, m1, c1⟩, b1, n1, d1⟩ hJ u1 _ l1 ⟨rfl, h1, h1', hg, s1, s1'⟩
  simp only at h1 h1' hg s1 s1' hJ
  by_cases h2 : 2 < nl n1
  · refine G.gT (nl n1 : Int) 2 ?_
    have hp : 0 < n1 := Ce.1 (show 0 < nl n1 by omega)
    refine G.c call249 (Mr h1 h1' s1 s1' hp) ?_
    rintro _ u2 l2 ⟨q, r, rfl, hq, hr⟩
    obtain ⟨aq, cq, rfl⟩ := hq.opn
    obtain ⟨ar, cr, rfl⟩ := hr.opn
    have hlt := A2s m1 hp
    exact G.b (hJ ((b1, n1, d1), (ar, m1 % n1, cr)) _ _ _ cV (l1.trans l2) ⟨rfl, h1'.mono l2, hr, by rw [← hg]; exact T3 m1 n1, s1', A0q (C6 (A62 hlt)) s1'⟩ hlt)
  refine G.gF (nl n1 : Int) 2 ?_
  by_cases h0 : nl n1 = 0
  · refine G.eT (nl n1 : Int) 0 ?_
    have e0 : n1 = 0 := by rcases A1p n1 with e | e; · exact e
                           · have := Ce.2 e; unfold nl at h0; omega
    rw [← hg, e0, A8o]
    exact G.r _ ⟨rfl, h1⟩
  have hp : 0 < n1 := Ce.1 (show 0 < nl n1 by omega)
  refine G.eF (nl n1 : Int) 0 ?_
  refine dite (2 < nl m1) (fun h3 => ?y) (fun h3 => ?n)
  case' y =>
    refine G.gT (nl m1 : Int) 2 ?_
    refine G.c call249 (Mr h1 h1' s1 s1' hp) ?_
    rintro _ u2 l2 ⟨q, r, rfl, hq, hr⟩
    obtain ⟨aq, cq, rfl⟩ := hq.opn
    obtain ⟨ar, cr, rfl⟩ := hr.opn
    have ha := h1'.mono l2
    have hg2 : A2p n1 (m1 % n1) = A2p m n := by rw [← hg]; exact T3 m1 n1
    have hm2 : nl n1 ≤ 2 := by omega
    have hn2 : nl (m1 % n1) ≤ 2 := A0q (C6 (A62 (A2s m1 hp))) hm2
    generalize m1 % n1 = r2 at hr hg2 hn2
  case' n =>
    refine G.gF (nl m1 : Int) 2 ?_
    have ha := h1
    have hr := h1'
    have hg2 := hg
    have hm2 : nl m1 ≤ 2 := by omega
    have hn2 : nl n1 ≤ 2 := by omega
  case y | n =>
    refine G.c call291 (Vy ha hm2) ?_
    rintro _ u3 l3 rfl
    refine G.c call291 (Vy (hr.mono l3) hn2) ?_
    rintro _ u4 l4 rfl
    refine G.l (ι := Nat × Nat) (fun i => [(9, .v (.int .u64 (i.1 : Int))), (10, .v (.int .u64 (i.2 : Int)))]) (fun _ => [])
      (fun i u' m' => m' = PH.mt ∧ A2p i.1 i.2 = A2p m n ∧ i.1 < 1000000000000000000 ∧ i.2 < 1000000000000000000) (fun i => i.2) (_, _) ⟨rfl, hg2, U9 hm2, U9 hn2⟩ ?_
    rintro J ⟨p, q⟩ hJ u5 _ l5 ⟨rfl, hpq, b1, b2⟩
    simp only at hpq b1 b2 hJ
    by_cases hq : q = 0
    · refine G.cmpG .neq .u64 (q : Int) 0 false kV rfl (by simp [B4, hq]) ?_
      refine G.remW p 1000000000 _ kV rfl oV oV ?_
      refine G.quoW p 1000000000 _ kV rfl oV oV ?_
      refine G.buildW (p := fun _ => true) 266 1 8 (.int .u64 0) (E2 [p % 1000000000, p / 1000000000]) kV (by simp [Uc, E2, A1e]) rfl oV (by simp [E2]) (by simp [E2]) ?_
      intro g u6 l6 e6
      refine G.c call228 (And (l := [p % 1000000000, p / 1000000000]) (n := p) (Low.cons (A2s _ oV) (Low.cons oV Low.nil)) (Abs.els e6) (by simp [val]; omega) (c := 2) mV mV) ?_
      intro v7 u7 l7 k7
      obtain ⟨a7, c7, rfl⟩ := k7.opn
      rw [hq, A8o] at hpq
      exact G.r (.slice a7 (nl p) c7) ⟨rfl, by rw [← hpq]; exact k7⟩
    · refine G.cmpG .neq .u64 (q : Int) 0 true kV rfl (by simp [B4, hq]) ?_
      refine G.remW p q _ kV rfl oV oV ?_
      have hlt := A2s p (show 0 < q by omega)
      exact G.b (hJ (q, p % q) _ _ _ cV l5 ⟨rfl, by rw [← hpq]; exact T3 p q, b2, by dsimp only; omega⟩ hlt)
theorem Xl {s:Value}(hb:b=(neg&&decide (0<n)))(hs:Cm u s n):Cb u (.agg #[.bool b,s]) (Bp neg n):=by
 obtain⟨a,c,rfl,h2⟩:=id hs;exact⟨a,_,c,by rw[Tr,hb],by rw[Ik];exact hs⟩
theorem G6 (h:Cm u x n):Fn0 prog 197 [.bool neg,x] u fun v u'=>Cb u' v (Bp neg n):=by
 obtain⟨a,c,rfl⟩:=h.opn;have hl:0<nl n↔0<n:=Ce;refine Fn0.o func197 ?_;cases neg
 ·exact G.r (.agg #[.bool false,.slice a (nl n) c]) ⟨rfl,Xl rfl h⟩
 ·by_cases h0:0<nl n
  ·refine G.gT (nl n:Int) 0 ?_;exact G.r (.agg #[.bool true,.slice a (nl n) c]) ⟨rfl,Xl (by simp[hl.1 h0]) h⟩
  ·refine G.gF (nl n:Int) 0 ?_;exact G.r (.agg #[.bool false,.slice a (nl n) c]) ⟨rfl,Xl (by simp[mt hl.2 h0]) h⟩
theorem Cb.opn' (h:Cb u x z):∃ a c,x=.agg #[.bool (decide (z<0)),.slice a (nl z.natAbs) c]/\Cm u (.slice a (nl z.natAbs) c) z.natAbs:=by
 obtain⟨a,n,c,rfl,h⟩:=h;have:=h.len;subst this;exact⟨a,c,rfl,h⟩
theorem Rx (h:Cb u x z)(hn:nl z.natAbs<=100000000000000):Fn0 prog 176 [x] u fun v _=>v=.int .i64 (sgn z):=by
 obtain⟨a,c,rfl,k⟩:=h.opn';have hl:0<nl z.natAbs↔0<z.natAbs:=Ce;refine Fn0.o func176 ?_;by_cases h0:z<0
 ·rw[decide_eq_true h0,C0 h0];exact G.r (.int .i64 (-1)) ⟨rfl,rfl⟩
 rw[decide_eq_false h0];by_cases h1:0<nl z.natAbs
 ·refine G.gT (nl z.natAbs:Int) 0 ?_;rw[B9 oV];exact G.r (.int .i64 1) ⟨rfl,rfl⟩
 ·refine G.gF (nl z.natAbs:Int) 0 ?_;rw[show z=0 by omega,Ny];exact G.r (.int .i64 0) ⟨rfl,rfl⟩
theorem Aim (z:Int):Bp (!decide (z<0)) z.natAbs = -z:=by unfold Bp;by_cases h:z<0<;>simp[h]<;>omega
theorem Q5 (h:Cb u x z)(hn:nl z.natAbs<=100000000000000):Fn0 prog 194 [x] u fun v u'=>Cb u' v (-z):=by
 obtain⟨a,c,rfl,k⟩:=h.opn';refine Fn0.o func194 ?_;refine G.c call197 (G6 (neg:=!decide (z<0)) k) ?_;intro v1 u1 l1 k1;rw[Aim]at k1;obtain⟨b1,a1,n1,c1,rfl⟩:=k1.opn;exact G.r _ ⟨rfl,k1⟩
theorem Gg (h:Cb u x y)(h':Cb u x' z)(sy:nl y.natAbs<=5000000000000)(sz:nl z.natAbs<=5000000000000):Fn0 prog 121 [x,x'] u fun v u'=>Cb u' v (y*z):=by
 obtain⟨a,c,rfl,k⟩:=h.opn';obtain⟨a',c',rfl,k'⟩:=h'.opn';refine Fn0.o func121 ?_;refine G.neB (decide (y<0)) (decide (z<0)) kV ?_;refine G.c call198 (Amt k k' oV oV) ?_;intro v1 u1 l1 k1;obtain⟨a1,c1,rfl⟩:=k1.opn;refine G.c call197 (G6 (neg:=!(decide (y<0)==decide (z<0))) k1) ?_;intro v2 u2 l2 k2;rw[Aaa]at k2;obtain⟨b2,a2,n2,c2,rfl⟩:=k2.opn;exact G.r _ ⟨rfl,k2⟩
theorem V3 (h:Cb u x y)(h':Cb u x' z)(sy:nl y.natAbs<=5000000000000)(sz:nl z.natAbs<=5000000000000):Fn0 prog 161 [x,x'] u fun v u'=>Cb u' v (y+z):=by
 obtain⟨a,c,rfl,k⟩:=h.opn';obtain⟨a',c',rfl,k'⟩:=h'.opn';refine Fn0.o func161 ?_;refine G.eqB (decide (y<0)) (decide (z<0)) kV ?_;by_cases hs:decide (y<0)=decide (z<0)
 ·rw[show (decide (y<0)==decide (z<0))=true by simp[hs]];refine G.c call222 (Ad1 k k' oV oV) ?_;intro v1 u1 l1 k1;obtain⟨a1,c1,rfl⟩:=k1.opn;refine G.c call197 (G6 (neg:=decide (y<0)) k1) ?_;intro v2 u2 l2 k2;rw[Zq hs]at k2;obtain⟨b2,a2,n2,c2,rfl⟩:=k2.opn;exact G.r _ ⟨rfl,k2⟩
 rw[show (decide (y<0)==decide (z<0))=false by simpa using hs];refine G.c call223 (Zn k k' oV oV) ?_;rintro v1 u1 l1 rfl;by_cases hc:z.natAbs<=y.natAbs
 ·refine G.hT' (sgn ((y.natAbs:Int)-z.natAbs)) 0 (Aa4 hc) ?_;refine G.c call224 (Xw (k.mono l1) (k'.mono l1) oV hc) ?_;intro v2 u2 l2 k2;obtain⟨a2,c2,rfl⟩:=k2.opn;refine G.c call197 (G6 (neg:=decide (y<0)) k2) ?_;intro v3 u3 l3 k3;rw[Ve hs hc]at k3;obtain⟨b3,a3,n3,c3,rfl⟩:=k3.opn;exact G.r _ ⟨rfl,k3⟩
 ·refine G.hF' (sgn ((y.natAbs:Int)-z.natAbs)) 0 (by rw[C0 oV];omega) ?_;refine G.c call224 (Xw (k'.mono l1) (k.mono l1) oV oV) ?_;intro v2 u2 l2 k2;obtain⟨a2,c2,rfl⟩:=k2.opn;refine G.c call197 (G6 (neg:=decide (z<0)) k2) ?_;intro v3 u3 l3 k3;rw[Uq hs oV]at k3;obtain⟨b3,a3,n3,c3,rfl⟩:=k3.opn;exact G.r _ ⟨rfl,k3⟩
theorem Amo (h:Cb u x y)(h':Cb u x' z)(sy:nl y.natAbs<=5000000000000)(sz:nl z.natAbs<=5000000000000):Fn0 prog 201 [x,x'] u fun v u'=>Cb u' v (y-z):=by
 obtain⟨b,a,n,c,rfl⟩:=h.opn;obtain⟨b',a',n',c',rfl⟩:=h'.opn;refine Fn0.o func201 ?_;refine G.c call194 (Q5 h' oV) ?_;intro v1 u1 l1 k1;obtain⟨b1,a1,n1,c1,rfl⟩:=k1.opn;refine G.c call161 (V3 (h.mono l1) k1 sy (by rw[A3b];exact sz)) ?_;intro v2 u2 l2 k2;rw[<-A59]at k2;obtain⟨b2,a2,n2,c2,rfl⟩:=k2.opn;exact G.r _ ⟨rfl,k2⟩
theorem Gs (h:Cb u x y)(h':Cb u x' z)(sy:nl y.natAbs<=5000000000000)(sz:nl z.natAbs<=5000000000000):Fn0 prog 127 [x,x'] u fun v _=>v=.int .i64 (sgn (y-z)):=by
 obtain⟨b,a,n,c,rfl⟩:=h.opn;obtain⟨b',a',n',c',rfl⟩:=h'.opn;refine Fn0.o func127 ?_;refine G.c call201 (Amo h h' sy sz) ?_;intro v1 u1 l1 k1;obtain⟨b1,a1,n1,c1,rfl⟩:=k1.opn;have:=Nq (y:=y) (z:=-z) sy (by rw[A3b];exact sz);refine G.c call176 (Rx k1 (by rw[A59];omega)) ?_;rintro v2 u2 l2 rfl;exact G.r (.int .i64 (sgn (y-z))) ⟨rfl,rfl⟩
theorem Aeo (h:Cb u x y)(h':Cb u x' z)(sy:nl y.natAbs<=5000000000000)(sz:nl z.natAbs<=5000000000000):Fn0 prog 195 [x,x'] u fun v u'=>Cb u' v (A2p y.natAbs z.natAbs):=by
 obtain⟨a,c,rfl,k⟩:=h.opn';obtain⟨a',c',rfl,k'⟩:=h'.opn';refine Fn0.o func195 ?_;refine G.c call248 (Amb k k' sy sz) ?_;intro v1 u1 l1 k1;obtain⟨a1,c1,rfl⟩:=k1.opn;refine G.c call197 (G6 (neg:=false) k1) ?_;intro v2 u2 l2 k2;obtain⟨b2,a2,n2,c2,rfl⟩:=k2.opn;exact G.r _ ⟨rfl,k2⟩
theorem Ael (h:Cb u x y)(h':Cb u x' z)(sy:nl y.natAbs<=4000000000000)(sz:nl z.natAbs<=4000000000000)(hz:z≠0):Fn0 prog 196 [x,x'] u fun v u'=>∃ a b,v=.tuple #[a,b]/\Cb u' a (y/z)/\Cb u' b (y%z):=by
 obtain⟨a,c,rfl,k⟩:=h.opn';obtain⟨a',c',rfl,k'⟩:=h'.opn';have hl:0<nl (y.natAbs%z.natAbs)↔0<y.natAbs%z.natAbs:=Ce;have hlt:=A2s y.natAbs (show 0<z.natAbs by omega);refine Fn0.o func196 ?_;refine G.c call249 (Mr k k' oV oV oV) ?_;rintro _ u1 l1 ⟨q,r,rfl,hq,hr⟩;obtain⟨aq,cq,rfl⟩:=hq.opn;obtain⟨ar,cr,rfl⟩:=hr.opn;refine dite (y<0) (fun hy=>?A) (fun hy=>?D)
 case' A =>
  rw[decide_eq_true hy];refine dite (0<y.natAbs%z.natAbs) (fun h0=>?B) (fun h0=>?C)
 case' B =>
  refine G.gT' (nl (y.natAbs%z.natAbs):Int) 0 (by have:=hl.2 h0;omega) ?_;refine G.buildW (p:=fun _=>true) 266 1 8 (.int .u64 0) (E2 [1]) kV (by simp[Uc,E2,A1e]) rfl oV (by simp[E2]) (by simp[E2]) ?_;intro g u2 l2 e2;have k1:Cm u2 (.slice (some ⟨g,0,none⟩) 1 1) 1:=by
   have:=Dv (d:=1) oV oV;exact⟨_,1,by rw[this];rfl,by rw[this];simp,by rw[this];exact Abs.els e2⟩
  refine G.c call222 (Ad1 (hq.mono l2) k1 (by have:=C6 (A3v y.natAbs z.natAbs);omega) (by have:=Pw;omega)) ?_;intro v3 u3 l3 k3;obtain⟨a3,c3,rfl⟩:=k3.opn;refine G.c call224 (Xw ((k'.mono l1).mono (l2.trans l3)) (hr.mono (l2.trans l3)) oV oV) ?_;intro v4 u4 l4 k4;obtain⟨a4,c4,rfl⟩:=k4.opn;obtain⟨hm,hm2⟩:=Xk hy hz h0;rw[decide_eq_true hy]at hm;have k3:=k3.mono l4
 case' C =>
  refine G.gF' (nl (y.natAbs%z.natAbs):Int) 0 (by have:=mt hl.1 h0;omega) ?_;obtain⟨hm,hm2⟩:=T8 hy hz oV;rw[decide_eq_true hy]at hm
 case' D =>
  obtain⟨hm,hm2⟩:=T9 hy hz;rw[decide_eq_false hy]at hm⊢
 case' C|D =>
  have k3:=hq;have k4:=hr
 case' B|C=>generalize hE:true=E at hm⊢
 case' D=>generalize hE:false=E at hm⊢
 case B|C|D =>
  refine G.neB E (decide (z<0)) kV ?_;refine G.c call197 (G6 (neg:=!(E==decide (z<0))) k3) ?_;intro v5 u5 l5 k5;obtain⟨b5,a5,n5,c5,rfl⟩:=k5.opn;refine G.c call197 (G6 (neg:=false) (k4.mono l5)) ?_;intro v6 u6 l6 k6;obtain⟨b6,a6,n6,c6,rfl⟩:=k6.opn;exact G.r (.tuple #[_,_]) ⟨rfl,_,_,rfl,hm▸k5.mono l6,hm2▸k6⟩
theorem Tz (h1:-9223372036854775808<=z)(h2:z<=9223372036854775807):Fn0 prog 177 [.int .i64 z] u fun v u'=>Cb u' v z:=by
 refine Fn0.o func177 ?_;refine G.convI .i64 .u64 .i64 z _ kV rfl ?_;have hs:=Po z;refine dite (z<0) (fun hz=>?A) (fun hz=>?B)
 case' A =>
  rw[decide_eq_true hz]at hs;generalize hE:true=E at hs;refine G.lT' z 0 hz ?_;refine G.negW _ _ kV (Abz hz h1) ?_;refine G.lT' z 0 hz ?_
 case' B =>
  rw[decide_eq_false hz]at hs;generalize hE:false=E at hs;rw[Aa6 oV h2];refine G.lF' z 0 hz ?_;refine G.lF' z 0 hz ?_
 case A|B =>
  refine G.remW z.natAbs 1000000000 _ kV rfl oV oV ?_;refine G.quoW z.natAbs 1000000000 _ kV rfl oV oV ?_;refine G.remW (z.natAbs/1000000000) 1000000000 _ kV rfl oV oV ?_;refine G.quoW z.natAbs 1000000000 _ kV rfl oV oV ?_;refine G.quoW (z.natAbs/1000000000) 1000000000 _ kV rfl oV oV ?_;refine G.buildW (p:=fun _=>true) 266 1 8 (.int .u64 0) (E2 [z.natAbs%1000000000,z.natAbs/1000000000%1000000000,z.natAbs/1000000000/1000000000]) kV (by simp[Uc,E2,A1e]) rfl oV (by simp[E2]) (by simp[E2]) ?_;intro g u6 l6 e6;refine G.c call228 (And (l:=[_,_,_]) (n:=z.natAbs) (Low.cons (A2s _ oV) (Low.cons (A2s _ oV) (Low.cons oV Low.nil))) (Abs.els e6) (by simp[val];omega) (c:=3) mV mV) ?_;intro v7 u7 l7 k7;obtain⟨a7,c7,rfl⟩:=k7.opn;refine G.c call197 (G6 (neg:=E) (by cases hE;exact k7)) ?_;intro v8 u8 l8 k8;obtain⟨b8,a8,n8,c8,rfl⟩:=k8.opn;exact G.r _ ⟨rfl,hs▸k8⟩
theorem Vq (h:Av u x q)(hn:nl q.num.natAbs<=100000000000000):Fn0 prog 97 [x] u fun v _=>v=.int .i64 (sgn q.num):=by
 obtain⟨b,a,n,c,b',a',n',c',rfl⟩:=h.opn;refine Fn0.o func97 ?_;refine G.c call176 (Rx h.num hn) ?_;rintro v1 u1 l1 rfl;exact G.r (.int .i64 (sgn q.num)) ⟨rfl,rfl⟩
theorem Hm (h:Av u x q)(hd:nl q.den<=4000000000000):Fn0 prog 159 [x] u fun v _=>v=.bool (decide (q.den=1)):=by
 obtain⟨b,a,n,c,b',a',n',c',rfl⟩:=h.opn;refine Fn0.o func159 ?_;refine G.c call177 (Tz (z:=1) oV oV) ?_;intro v1 u1 l1 k1;obtain⟨b1,a1,n1,c1,rfl⟩:=k1.opn;refine G.c call127 (Gs (h.den.mono l1) k1 (by rw[A1z];omega) (by have:=Pw;show nl 1<=_;omega)) ?_;rintro v2 u2 l2 rfl;have hs:=P7 (d:=q.den);by_cases hq:q.den=1
 ·refine G.eT' (sgn ((q.den:Int)-1)) 0 (by simpa[hq] using hs) ?_;exact G.r (.bool true) ⟨rfl,by rw[decide_eq_true hq]⟩
 ·refine G.eF' (sgn ((q.den:Int)-1)) 0 (by simpa[hq] using hs) ?_;exact G.r (.bool false) ⟨rfl,by rw[decide_eq_false hq]⟩
theorem Av.mk4 {d:Nat}{b b':Bool}{a a':Option Addr}{n n' c c':Nat}(h:Cb u (.agg #[.bool b,.slice a n c]) y)(h':Cb u (.agg #[.bool b',.slice a' n' c']) (d:Int))(e:q.num=y)(e':q.den=d) :
 Av u (.agg #[.bool b,.slice a n c,.bool b',.slice a' n' c']) q:=by
 obtain⟨_,_,_,h1,h2⟩:=h;obtain⟨_,_,_,h3,h4⟩:=h';simp only[A33,A3z,A18,A4o,A09,and_true]at h1 h3;obtain⟨rfl,rfl,rfl,rfl⟩:=h1;obtain⟨rfl,rfl,rfl,rfl⟩:=h3;exact⟨_,_,_,_,_,_,by rw[e,decide_eq_false (show ¬ ((d:Int)<0) by omega)],by rw[e];exact h2,by rw[e'];exact h4⟩
theorem Cb.cast (h:Cb u x z)(hz:0<z):Cb u x ((z.natAbs:Nat):Int):=by rw[show ((z.natAbs:Nat):Int)=z by omega];exact h
theorem M9 (h:Cb u x z):Fn0 prog 160 [x] u fun v u'=>Av u' v (z:Rat):=by
 obtain⟨b,a,n,c,rfl⟩:=h.opn;refine Fn0.o func160 ?_;refine G.c call177 (Tz (z:=1) oV oV) ?_;intro v1 u1 l1 k1;obtain⟨b1,a1,n1,c1,rfl⟩:=k1.opn;exact G.r (.agg #[_,_,_,_]) ⟨rfl,Av.mk4 (h.mono l1) k1 mV mV⟩
theorem L8 (h1:-9223372036854775808<=z)(h2:z<=9223372036854775807):Fn0 prog 98 [.int .i64 z] u fun v u'=>Av u' v (z:Rat):=by
 refine Fn0.o func98 ?_;refine G.c call177 (Tz h1 h2) ?_;intro v1 u1 l1 k1;obtain⟨b1,a1,n1,c1,rfl⟩:=k1.opn;refine G.c call160 (M9 k1) ?_;intro v2 u2 l2 k2;obtain⟨b2,a2,n2,c2,b2',a2',n2',c2',rfl⟩:=k2.opn;exact G.r _ ⟨rfl,k2⟩
theorem Z3 (h:Av u x q)(hs:nl q.num.natAbs<=4000000000000):Fn0 prog 126 [x] u fun v u'=>Av u' v (-q):=by
 obtain⟨b,a,n,c,b',a',n',c',rfl⟩:=h.opn;refine Fn0.o func126 ?_;refine G.c call194 (Q5 h.num oV) ?_;intro v1 u1 l1 k1;obtain⟨b1,a1,n1,c1,rfl⟩:=k1.opn;exact G.r (.agg #[_,_,_,_]) ⟨rfl,Av.mk4 k1 (h.den.mono l1) (A9p q) (A9q q)⟩
theorem Rp (h:Cb u x y)(h':Cb u x' z)(sy:nl y.natAbs<=4000000000000)(sz:nl z.natAbs<=4000000000000)(hz:z≠0):Fn0 prog 120 [x,x'] u fun v u'=>Av u' v (A2m y z):=by
 obtain⟨b,a,n,c,rfl⟩:=h.opn;obtain⟨b',a',n',c',rfl⟩:=h'.opn;refine Fn0.o func120 ?_;refine G.c call176 (Rx h' oV) ?_;rintro v1 u1 l1 rfl;refine dite (z<0) (fun h0=>?A) (fun h0=>?B)
 case' A =>
  refine G.lT' (sgn z) 0 (by rw[C0 h0];omega) ?_;refine G.c call194 (Q5 (h.mono l1) oV) ?_;intro v2 u2 l2 k2;obtain⟨b2,a2,n2,c2,rfl⟩:=k2.opn;refine G.c call194 (Q5 (h'.mono (l1.trans l2)) oV) ?_;intro v3 u3 l3 k3;obtain⟨b3,a3,n3,c3,rfl⟩:=k3.opn;have k2:=k2.mono l3;have hd:=K1 y z;have ty:nl (-y).natAbs<=4000000000000:=by rw[A3b];exact sy
  have tz:nl (-z).natAbs<=4000000000000:=by rw[A3b];exact sz
  have hp:0 < -z:=oV
  generalize -y=y2 at k2 hd ty;generalize -z=z2 at k3 hd tz hp
 case' B =>
  refine G.lF' (sgn z) 0 (by rw[B9 oV];omega) ?_;have k2:=h.mono l1;have k3:=h'.mono l1;have hd:A2m y z=A2m y z:=rfl;have ty:=sy;have tz:=sz;have hp:0<z:=oV
  generalize y=y2 at k2 hd ty;generalize z=z2 at k3 hd tz hp
 case A|B =>
  have hg0:0<A2p y2.natAbs z2.natAbs:=A63 _ oV;have hg1:A2p y2.natAbs z2.natAbs<=z2.natAbs:=Bbj _ oV;have hgn:nl (A2p y2.natAbs z2.natAbs)<=4000000000000:=A0q (C6 hg1) tz;refine G.c call195 (Aeo k2 k3 oV oV) ?_;intro v4 u4 l4 k4;obtain⟨b4,a4,n4,c4,rfl⟩:=k4.opn;refine G.c call177 (Tz (z:=1) oV oV) ?_;intro v5 u5 l5 k5;obtain⟨b5,a5,n5,c5,rfl⟩:=k5.opn;refine G.c call127 (Gs (k4.mono l5) k5 (by rw[A1z];omega) (by have:=Pw;show nl 1<=_;omega)) ?_;rintro v6 u6 l6 rfl;have hs:=P7 (d:=A2p y2.natAbs z2.natAbs);have l46:=(l4.trans l5).trans l6;by_cases hq:A2p y2.natAbs z2.natAbs=1
  ·refine G.nF' (sgn ((A2p y2.natAbs z2.natAbs:Int)-1)) 0 (by simpa[hq] using hs) ?_;have hc:=Ru hp hq;exact G.r (.agg #[_,_,_,_]) ⟨rfl,Av.mk4 (k2.mono l46) ((k3.mono l46).cast hp) (by rw[<-hd];exact hc.1) (by rw[<-hd];exact hc.2)⟩
  ·refine G.nT' (sgn ((A2p y2.natAbs z2.natAbs:Int)-1)) 0 (by simpa[hq] using hs) ?_;have hc:=Rz hp (y:=y2) rfl;refine G.c call196 (Ael (k2.mono l46) (k4.mono (l5.trans l6)) ty (by rw[A1z];exact hgn) oV) ?_;rintro _ u7 l7 ⟨q,r,rfl,k7,k7'⟩;obtain⟨b7,a7,n7,c7,rfl⟩:=k7.opn;obtain⟨b7',a7',n7',c7',rfl⟩:=k7'.opn;refine G.c call196 (Ael (k3.mono (l46.trans l7)) (k4.mono ((l5.trans l6).trans l7)) tz (by rw[A1z];exact hgn) oV) ?_;rintro _ u8 l8 ⟨q8,r8,rfl,k8,k8'⟩;obtain⟨b8,a8,n8,c8,rfl⟩:=k8.opn;obtain⟨b8',a8',n8',c8',rfl⟩:=k8'.opn;have e8:(((z2.natAbs/A2p y2.natAbs z2.natAbs:Nat)):Int)=z2/(A2p y2.natAbs z2.natAbs:Nat):=by rw[A4q,show ((z2.natAbs:Nat):Int)=z2 by omega]
   rw[<-e8]at k8;exact G.r (.agg #[_,_,_,_]) ⟨rfl,Av.mk4 (k7.mono l8) k8 (by rw[<-hd];exact hc.1) (by rw[<-hd];exact hc.2)⟩
end
end
section
variable {q r:Rat}{y:Int}
section
variable {u:PH} {x x':Value}
theorem Auq (h:Av u x q):Fn0 prog 217 [x] u fun v u'=>Cb u' v q.num :=
 Fn0.ofW (fun v w=>Abu w v q.num) (fun w hp=>Aue x q w (h.toW hp)) (fun _ _ _ h _ c _=>Cb.ofW h c)
theorem Asl (h:Av u x q):Fn0 prog 216 [x] u fun v u'=>Cb u' v q.den :=
 Fn0.ofW (fun v w=>Abu w v q.den) (fun w hp=>Aut x q w (h.toW hp)) (fun _ _ _ h _ c _=>Cb.ofW h c)
theorem Le (h:Av u x q)(h':Av u x' r)(h1:Sz q 1000000000000)(h2:Sz r 1000000000000):Fn0 prog 78 [x,x'] u fun v u'=>Av u' v (q*r):=by
 obtain⟨s1,s2⟩:=h1;obtain⟨s3,s4⟩:=h2;obtain⟨b,a,n,c,b',a',n',c',rfl⟩:=h.opn;obtain⟨d,e,k,f,d',e',k',f',rfl⟩:=h'.opn;refine Fn0.o func78 ?_;refine G.c call159 (Hm h oV) ?_;rintro v1 u1 l1 rfl;refine dite (q.den=1) (fun e1=>?y) (fun e1=>?n1)
 case' y =>
  rw[decide_eq_true e1];refine G.c call159 (Hm (h'.mono l1) oV) ?_;rintro v2 u2 l2 rfl;refine dite (r.den=1) (fun e2=>?yy) (fun e2=>?n2)
 case yy =>
  rw[decide_eq_true e2];refine G.c call121 (Gg (h.num.mono (l1.trans l2)) (h'.num.mono (l1.trans l2)) oV oV) ?_;intro v3 u3 l3 k3;obtain⟨b3,a3,n3,c3,rfl⟩:=k3.opn;refine G.c call160 (M9 k3) ?_;intro v4 u4 l4 k4;rw[Afb e1 e2]at k4;obtain⟨b4,a4,n4,c4,b4',a4',n4',c4',rfl⟩:=k4.opn;exact G.r _ ⟨rfl,k4⟩
 case' n1 =>
  rw[decide_eq_false e1];have l2:=l1
 case' n2 =>
  rw[decide_eq_false e2];have l2:=l1.trans l2
 case n1|n2 =>
  refine G.c call121 (Gg (h.num.mono l2) (h'.num.mono l2) oV oV) ?_;intro v3 u3 l3 k3;obtain⟨b3,a3,n3,c3,rfl⟩:=k3.opn;refine G.c call121 (Gg (h.den.mono (l2.trans l3)) (h'.den.mono (l2.trans l3)) (by rw[A1z];omega) (by rw[A1z];omega)) ?_;intro v4 u4 l4 k4;obtain⟨b4,a4,n4,c4,rfl⟩:=k4.opn;refine G.c call120 (Rp (k3.mono l4) k4 (by have:=Bl s1 s3;omega) (by have:=Bl (y:=(q.den:Int)) (z:=(r.den:Int)) (k:=1000000000000) (by rw[A1z];omega) (by rw[A1z];omega);omega) (Tf q r)) ?_;intro v5 u5 l5 k5;rw[Wf]at k5;obtain⟨b5,a5,n5,c5,b5',a5',n5',c5',rfl⟩:=k5.opn;exact G.r _ ⟨rfl,k5⟩
theorem O2 (h:Av u x q)(h':Av u x' r)(h1:Sz q 1000000000000)(h2:Sz r 1000000000000):Fn0 prog 76 [x,x'] u fun v u'=>Av u' v (q+r):=by
 obtain⟨s1,s2⟩:=h1;obtain⟨s3,s4⟩:=h2;obtain⟨b,a,n,c,b',a',n',c',rfl⟩:=h.opn;obtain⟨d,e,k,f,d',e',k',f',rfl⟩:=h'.opn;have t2:nl ((q.den:Int)).natAbs<=1000000000000:=by rw[A1z];exact s2
 have t4:nl ((r.den:Int)).natAbs<=1000000000000:=by rw[A1z];exact s4
 have m1:=Bl s1 t4;have m2:=Bl s3 t2;have m3:=Bl t2 t4;have m4:=Nq m1 m2;refine Fn0.o func76 ?_;refine G.c call159 (Hm h oV) ?_;rintro v1 u1 l1 rfl;refine dite (q.den=1) (fun e1=>?y) (fun e1=>?n1)
 case' y =>
  rw[decide_eq_true e1];refine G.c call159 (Hm (h'.mono l1) oV) ?_;rintro v2 u2 l2 rfl;refine dite (r.den=1) (fun e2=>?yy) (fun e2=>?n2)
 case yy =>
  rw[decide_eq_true e2];refine G.c call161 (V3 (h.num.mono (l1.trans l2)) (h'.num.mono (l1.trans l2)) oV oV) ?_;intro v3 u3 l3 k3;obtain⟨b3,a3,n3,c3,rfl⟩:=k3.opn;refine G.c call160 (M9 k3) ?_;intro v4 u4 l4 k4;rw[Afm e1 e2]at k4;obtain⟨b4,a4,n4,c4,b4',a4',n4',c4',rfl⟩:=k4.opn;exact G.r _ ⟨rfl,k4⟩
 case' n1 =>
  rw[decide_eq_false e1];have l2:=l1
 case' n2 =>
  rw[decide_eq_false e2];have l2:=l1.trans l2
 case n1|n2 =>
  refine G.c call121 (Gg (h.num.mono l2) (h'.den.mono l2) oV oV) ?_;intro v3 u3 l3 k3;obtain⟨b3,a3,n3,c3,rfl⟩:=k3.opn;refine G.c call121 (Gg (h'.num.mono (l2.trans l3)) (h.den.mono (l2.trans l3)) oV oV) ?_;intro v4 u4 l4 k4;obtain⟨b4,a4,n4,c4,rfl⟩:=k4.opn;refine G.c call161 (V3 (k3.mono l4) k4 oV oV) ?_;intro v5 u5 l5 k5;obtain⟨b5,a5,n5,c5,rfl⟩:=k5.opn;have l25:=((l2.trans l3).trans l4).trans l5;refine G.c call121 (Gg (h.den.mono l25) (h'.den.mono l25) oV oV) ?_;intro v6 u6 l6 k6;obtain⟨b6,a6,n6,c6,rfl⟩:=k6.opn;refine G.c call120 (Rp (k5.mono l6) k6 oV oV (Tf q r)) ?_;intro v7 u7 l7 k7;rw[Nx]at k7;obtain⟨b7,a7,n7,c7,b7',a7',n7',c7',rfl⟩:=k7.opn;exact G.r _ ⟨rfl,k7⟩
theorem Lf (h:Av u x q)(h':Av u x' r)(h1:Sz q 1000000000000)(h2:Sz r 1000000000000):Fn0 prog 57 [x,x'] u fun v u'=>Av u' v (q-r):=by
 obtain⟨b,a,n,c,b',a',n',c',rfl⟩:=h.opn;obtain⟨d,e,k,f,d',e',k',f',rfl⟩:=h'.opn;refine Fn0.o func57 ?_;refine G.c call126 (Z3 h' (A0q h2.1 oV)) ?_;intro v1 u1 l1 k1;obtain⟨b1,a1,n1,c1,b1',a1',n1',c1',rfl⟩:=k1.opn;refine G.c call76 (O2 (h.mono l1) k1 h1 ⟨by rw[A9p,A3b];exact h2.1,by rw[A9q];exact h2.2⟩) ?_;intro v2 u2 l2 k2;rw[<-A8p]at k2;obtain⟨b2,a2,n2,c2,b2',a2',n2',c2',rfl⟩:=k2.opn;exact G.r _ ⟨rfl,k2⟩
end
theorem Asr (y z:Nat):nl (y/z)<=nl y:=C6 (A3v y z)
theorem Ayj (hy:0<y)(g:Nat):(y/(g:Int)).natAbs=y.natAbs/g:=by
 obtain⟨k,rfl⟩:=A53 (Int.le_of_lt hy);rfl
theorem Av4 {u:PH}{x x':Value}{y z:Int}(h:Cb u x y)(h':Cb u x' z)(sy:nl y.natAbs<=4000000000000)(sz:nl z.natAbs<=4000000000000)(hy:0<y):Fn0 prog 215 [x,x'] u fun v u'=>Cb u' v (y/(A2p y.natAbs z.natAbs:Nat)*z):=by
 obtain⟨b,a,n,c,rfl⟩:=h.opn;obtain⟨b',a',n',c',rfl⟩:=h'.opn;refine Fn0.o func215 ?_;have hg0:0<A2p y.natAbs z.natAbs:=Nat.gcd_pos_of_pos_left _ oV;have hg1:A2p y.natAbs z.natAbs<=y.natAbs:=Nat.gcd_le_left _ oV;have hg2:nl (A2p y.natAbs z.natAbs)<=4000000000000:=A0q (C6 hg1) sy;refine G.c call195 (Aeo h h' oV oV) ?_;intro v1 u1 l1 h1;obtain⟨b1,a1,n1,c1,rfl⟩:=h1.opn;refine G.c call196 (Ael (h.mono l1) h1 sy (by rw[A1z];exact hg2) oV) ?_;rintro v2 u2 l2 ⟨v3,v4,rfl,h3,h4⟩;obtain⟨b3,a3,n3,c3,rfl⟩:=h3.opn;obtain⟨b4,a4,n4,c4,rfl⟩:=h4.opn;refine G.c call121 (Gg h3 (h'.mono (l1.trans l2)) (by rw[Ayj hy];exact A0q (Asr _ _) oV) oV) ?_;intro v5 u5 l5 h5;obtain⟨b5,a5,n5,c5,rfl⟩:=h5.opn;exact G.r _ ⟨rfl,h5⟩
end
section
theorem Aig {u:PH}{b:Bool}{a:Option Addr}{n c:Nat}{l:List Nat}(h:B7 u (.slice a n c) l)(hl:l.length<=1000000000000000000) :
 Fn0 prog 168 [.agg #[.bool b,.slice a n c]] u fun v _=>v=.agg #[.bool (b&&decide (0<Bj l l.length)),.slice a (Bj l l.length) c]:=by
 obtain⟨rfl,hc⟩:=h.len;refine Fn0.o func168 ?_;refine G.l (ι:=Nat) (fun _=>[(1,.p 0 0),(2,.p 1 0)]) (fun k=>[(0,⟨66,[bV b,sV a k c]⟩),(1,⟨66,[bV false,sV none 0 0]⟩)])
  (fun k _ m=>k<=l.length/\Bj l l.length=Bj l k/\m=PH.mt) id l.length ⟨A0w _,rfl,rfl⟩ ?_
 rintro J k hJ u' m' hle ⟨hk,ht,rfl⟩;rw[ht];rcases k with _|k
 ·refine G.gF ((0:Nat):Int) 0 ?_;refine G.eT' ((0:Nat):Int) 0 rfl ?_;exact G.r (.agg #[.bool false,.slice a 0 c]) ⟨rfl,by simp[Bj]⟩
 ·refine G.gT ((k+1:Nat):Int) 0 ?_;refine G.s ((k+1:Nat):Int) 1 (k:Int) ?_;obtain⟨bb,off,rfl,he⟩:=(h.mono hle).at (j:=k) oV;refine G.a bb off (k+1) c k 1 oV ?_;refine G.lU none bb (off+k*1) (.int .i64 (l.getD k 0:Nat)) he ?_;by_cases h0:l.getD k 0=0
  ·refine G.eT ((l.getD k 0:Nat):Int) 0 ?_;refine G.s ((k+1:Nat):Int) 1 (k:Int) ?_;refine G.sliceTo 1 (some ⟨bb,off,none⟩) (k+1) c k kV oV ?_;exact G.b (hJ k _ _ _ cV hle ⟨oV,by rw[ht];simp only[Bj,if_pos h0],rfl⟩ mV)
  ·refine G.eF ((l.getD k 0:Nat):Int) 0 ?_;refine G.eF ((k+1:Nat):Int) 0 ?_;exact G.r (.agg #[.bool b,.slice (some ⟨bb,off,none⟩) (k+1) c]) ⟨rfl,by simp only[Bj,if_neg h0];simp⟩
end
section
variable {k:Nat}{u:PH}{va vb:Value}
theorem Cj (l:List Nat)(n:Nat):Ag l++[.int .i64 (n:Int)]=Ag (l++[n]):=by simp[Ag]
theorem Jb {m n:Nat}(ha:B7 u va (Aa m))(hb:B7 u vb (Aa n))(sa:nl m<=1000000000000000000)(sb:nl n<=1000000000000000000) :
 Fn0 prog 172 [va,vb] u fun v _=>v=.int .i64 (sgn ((m:Int)-n)):=by
 obtain⟨a,ca,rfl,hca⟩:=ha.opn;obtain⟨b,cb,rfl,hcb⟩:=hb.opn;have sa':(Aa m).length<=1000000000000000000:=sa;have sb':(Aa n).length<=1000000000000000000:=sb;refine Fn0.o func172 ?_;by_cases hne:(Aa m).length=(Aa n).length
 ·refine G.nF ((Aa m).length:Int) ((Aa n).length:Int) ?_;refine G.sub ((Aa m).length:Int) 1 (((Aa m).length:Int)-1) kV rfl oV oV ?_;refine G.l (ι:=Int) (fun z=>[(0,sV a (Aa m).length ca),(1,sV b (Aa n).length cb),(5,iV z)]) (fun _=>[])
   (fun z _ m'=>-1<=z/\z<(Aa m).length/\(Aa m).drop (z+1).toNat=(Aa n).drop (z+1).toNat/\m'=PH.mt) (fun z=>(z+1).toNat) (((Aa m).length:Int)-1)
   ⟨oV,oV,by rw[A1u oV,A1u oV],rfl⟩ ?_
  rintro J z hJ u' m' hle ⟨h1,h2,h3,rfl⟩;by_cases hz:0<=z
  ·obtain⟨k,rfl⟩:=A53 hz;have hk:k<(Aa m).length:=oV
   rw[show ((k:Int)+1).toNat=k+1 by omega]at h3;obtain⟨ba,oa,rfl,ea⟩:=(ha.mono hle).at (j:=k) hk;obtain⟨bb,ob,rfl,eb⟩:=(hb.mono hle).at (j:=k) oV;refine G.hT (k:Int) 0 ?_;refine G.a ba oa (Aa m).length ca k 1 hk ?_;refine G.lU none ba (oa+k*1) (.int .i64 ((Aa m).getD k 0:Nat)) ea ?_;refine G.a bb ob (Aa n).length cb k 1 oV ?_;refine G.lU none bb (ob+k*1) (.int .i64 ((Aa n).getD k 0:Nat)) eb ?_;rcases Nat.lt_trichotomy ((Aa m).getD k 0) ((Aa n).getD k 0) with hlt|heq|hgt
   ·refine G.lT ((Aa m).getD k 0:Nat) ((Aa n).getD k 0:Nat) ?_;have:=Fq hne hk (Am _) h3 hlt;rw[Aj,Aj]at this;exact G.r (.int .i64 (-1)) ⟨rfl,by rw[C0 oV]⟩
   ·refine G.lF ((Aa m).getD k 0:Nat) ((Aa n).getD k 0:Nat) ?_;refine G.a ba oa (Aa m).length ca k 1 hk ?_;refine G.lU none ba (oa+k*1) (.int .i64 ((Aa m).getD k 0:Nat)) ea ?_;refine G.a bb ob (Aa n).length cb k 1 oV ?_;refine G.lU none bb (ob+k*1) (.int .i64 ((Aa n).getD k 0:Nat)) eb ?_;refine G.gF ((Aa m).getD k 0:Nat) ((Aa n).getD k 0:Nat) ?_;refine G.sub (k:Int) 1 ((k:Int)-1) kV rfl oV oV ?_;refine G.b (hJ ((k:Int)-1) _ _ _ cV hle ⟨oV,oV,?_,rfl⟩ mV);rw[show ((k:Int)-1+1).toNat=k by omega,Aqh (Aa m) k hk,Aqh (Aa n) k oV,h3,heq]
   ·refine G.lF ((Aa m).getD k 0:Nat) ((Aa n).getD k 0:Nat) ?_;refine G.a ba oa (Aa m).length ca k 1 hk ?_;refine G.lU none ba (oa+k*1) (.int .i64 ((Aa m).getD k 0:Nat)) ea ?_;refine G.a bb ob (Aa n).length cb k 1 oV ?_;refine G.lU none bb (ob+k*1) (.int .i64 ((Aa n).getD k 0:Nat)) eb ?_;refine G.gT ((Aa m).getD k 0:Nat) ((Aa n).getD k 0:Nat) ?_;have:=Fq hne.symm oV (Am _) h3.symm hgt;rw[Aj,Aj]at this;exact G.r (.int .i64 1) ⟨rfl,by rw[B9 oV]⟩
  ·obtain rfl:z = -1:=oV
   refine G.hF (-1) 0 ?_;have:m=n:=by
    have h3:(Aa m).drop 0=(Aa n).drop 0:=h3;rw[A41,A41]at h3;rw[<-Aj m,<-Aj n,h3]
   exact G.r (.int .i64 0) ⟨rfl,by rw[this,Int.sub_self];rfl⟩
 ·refine G.nT ((Aa m).length:Int) ((Aa n).length:Int) ?_;by_cases hlt:(Aa m).length<(Aa n).length
  ·refine G.lT ((Aa m).length:Int) ((Aa n).length:Int) ?_;have:=Il (m:=m) (n:=n) hlt;exact G.r (.int .i64 (-1)) ⟨rfl,by rw[C0 oV]⟩
  ·refine G.lF ((Aa m).length:Int) ((Aa n).length:Int) ?_;have:=Il (m:=n) (n:=m) (show nl n<nl m by unfold nl;omega);exact G.r (.int .i64 1) ⟨rfl,by rw[B9 oV]⟩
theorem Hh {l:List Nat}(h:¬ k<l.length):l.getD k 0=0:=by rw[A0o,A1g oV];rfl
theorem I2.over {a b ys:List Nat}{k c:Nat}(h:I2 a b k ys c)(ha:Low a)(hb:Low b)(hka:¬ k<a.length)(hkb:¬ k<b.length)(hc:c=0):val ys=val a+val b:=by
 have:=h.sum;rw[A03 oV,A03 oV,hc]at this;simpa using this
theorem Agr {la lb:List Nat}(ha:B7 u va la)(hb:B7 u vb lb)(lla:Low la)(llb:Low lb)(sa:la.length<=1000000000000)(sb:lb.length<=1000000000000) :
 Fn0 prog 171 [va,vb] u fun v u'=>∃ l,B7 u' v l/\Low l/\val l=val la+val lb/\l.length<=max la.length lb.length+1:=by
 obtain⟨a,ca,rfl,hca⟩:=ha.opn;obtain⟨b,cb,rfl,hcb⟩:=hb.opn;refine Fn0.o func171 ?_;refine G.l (ι:=Nat×List Nat×Nat×Value) (fun i=>[(0,sV a la.length ca),(1,sV b lb.length cb),(5,.v i.2.2.2),(6,iV i.2.2.1),(7,iV i.1)]) (fun _=>[])
  (fun i _ m'=>(i.1<=max la.length lb.length+1/\(max la.length lb.length+1<=i.1->i.2.2.1=0))/\Ae PH.mt m' i.2.2.2 3 1 (Ag i.2.1)/\I2 la lb i.1 i.2.1 i.2.2.1) (fun i=>max la.length lb.length+2-i.1) (0,[],0,.slice none 0 0)
  ⟨⟨mV,fun _=>rfl⟩,Ae.nil _ _ _,I2.start _ _⟩ ?_
 rintro J ⟨k,ys,c,vo⟩ hJ u' m' hle ⟨hk,hA,hst⟩;simp only at hk hA hst hJ;have hc1:=hst.carry;have hal:=lla.getD k;have hbl:=llb.getD k;obtain⟨ao,co,rfl⟩:=hA.shape;obtain⟨vo,hvo⟩:∃ vo,vo=A06 ao (Ag ys).length co:=⟨_,rfl⟩;rw[<-hvo]at hA⊢;have fin:max la.length lb.length+1<=1000000000001:=oV
 by_cases hka:k<la.length
 ·refine G.lT (k:Int) (la.length:Int) ?_;refine G.lT (k:Int) (la.length:Int) ?_;have hna:la.getD k 0<1000000000:=hal;obtain⟨ba,oa,rfl,ea⟩:=(ha.mono hle).at (j:=k) hka;refine G.a ba oa la.length ca k 1 hka ?_;refine G.lU none ba (oa+k*1) (.int .i64 (la.getD k 0:Nat)) ea ?_;refine G.p (c:Int) (la.getD k 0:Nat) ((c+la.getD k 0:Nat):Int) ?_;by_cases hkb:k<lb.length
  ·refine G.lT (k:Int) (lb.length:Int) ?_;obtain⟨bb,ob,rfl,eb⟩:=(hb.mono hle).at (j:=k) hkb;refine G.a bb ob lb.length cb k 1 hkb ?_;refine G.lU none bb (ob+k*1) (.int .i64 (lb.getD k 0:Nat)) eb ?_;refine G.p ((c+la.getD k 0:Nat):Int) (lb.getD k 0:Nat) ((c+la.getD k 0+lb.getD k 0:Nat):Int) ?_;refine G.rem ((c+la.getD k 0+lb.getD k 0:Nat):Int) 1000000000 (((c+la.getD k 0+lb.getD k 0)%1000000000:Nat):Int) kV oV oV oV oV ?_;refine G.B 3 1 8 (.int .i64 0) [.int .i64 (((c+la.getD k 0+lb.getD k 0)%1000000000:Nat):Int)] (Ax [(c+la.getD k 0+lb.getD k 0)%1000000000]) ?_;intro g u1 l1 e1;refine G.append 3 1 8 (.int .i64 0) PH.mt (Ag ys) [.int .i64 (((c+la.getD k 0+lb.getD k 0)%1000000000:Nat):Int)] vo g 0 1 1 kV rfl rfl oV hA e1 (Ax [(c+la.getD k 0+lb.getD k 0)%1000000000]) rfl oV (by rw[Ah,hst.len];omega) (by rw[Ah,hst.len];omega) ?_;intro v2 m2 hA2;rw[Cj]at hA2;refine G.quo ((c+la.getD k 0+lb.getD k 0:Nat):Int) 1000000000 (((c+la.getD k 0+lb.getD k 0)/1000000000:Nat):Int) kV oV oV oV oV ?_;refine G.i k ?_;refine G.b (hJ (k+1,ys++[(c+la.getD k 0+lb.getD k 0)%1000000000],(c+la.getD k 0+lb.getD k 0)/1000000000,v2) _ _ _ cV (hle.trans l1) ⟨⟨oV,dV⟩,hA2,?_⟩ (by show max la.length lb.length+2-(k+1)<max la.length lb.length+2-k;omega));have:=hst.step lla llb (x:=la.getD k 0) (y:=lb.getD k 0) rfl rfl;rw[show la.getD k 0+lb.getD k 0+c=c+la.getD k 0+lb.getD k 0 by omega]at this;exact this
  ·have hz:=Hh hkb;refine G.lF (k:Int) (lb.length:Int) ?_;refine G.rem ((c+la.getD k 0:Nat):Int) 1000000000 (((c+la.getD k 0)%1000000000:Nat):Int) kV oV oV oV oV ?_;refine G.B 3 1 8 (.int .i64 0) [.int .i64 (((c+la.getD k 0)%1000000000:Nat):Int)] (Ax [(c+la.getD k 0)%1000000000]) ?_;intro g u1 l1 e1;refine G.append 3 1 8 (.int .i64 0) PH.mt (Ag ys) [.int .i64 (((c+la.getD k 0)%1000000000:Nat):Int)] vo g 0 1 1 kV rfl rfl oV hA e1 (Ax [(c+la.getD k 0)%1000000000]) rfl oV (by rw[Ah,hst.len];omega) (by rw[Ah,hst.len];omega) ?_;intro v2 m2 hA2;rw[Cj]at hA2;refine G.quo ((c+la.getD k 0:Nat):Int) 1000000000 (((c+la.getD k 0)/1000000000:Nat):Int) kV oV oV oV oV ?_;refine G.i k ?_;refine G.b (hJ (k+1,ys++[(c+la.getD k 0)%1000000000],(c+la.getD k 0)/1000000000,v2) _ _ _ cV (hle.trans l1) ⟨⟨oV,dV⟩,hA2,?_⟩ (by show max la.length lb.length+2-(k+1)<max la.length lb.length+2-k;omega));have:=hst.step lla llb (x:=la.getD k 0) (y:=lb.getD k 0) rfl rfl;rw[show la.getD k 0+lb.getD k 0+c=c+la.getD k 0 by omega]at this;exact this
 ·have hza:=Hh hka;by_cases hkb:k<lb.length
  ·refine G.lF (k:Int) (la.length:Int) ?_;refine G.lT (k:Int) (lb.length:Int) ?_;refine G.lF (k:Int) (la.length:Int) ?_;refine G.lT (k:Int) (lb.length:Int) ?_;obtain⟨bb,ob,rfl,eb⟩:=(hb.mono hle).at (j:=k) hkb;refine G.a bb ob lb.length cb k 1 hkb ?_;refine G.lU none bb (ob+k*1) (.int .i64 (lb.getD k 0:Nat)) eb ?_;refine G.p ((c:Nat):Int) (lb.getD k 0:Nat) ((c+lb.getD k 0:Nat):Int) ?_;refine G.rem ((c+lb.getD k 0:Nat):Int) 1000000000 (((c+lb.getD k 0)%1000000000:Nat):Int) kV oV oV oV oV ?_;refine G.B 3 1 8 (.int .i64 0) [.int .i64 (((c+lb.getD k 0)%1000000000:Nat):Int)] (Ax [(c+lb.getD k 0)%1000000000]) ?_;intro g u1 l1 e1;refine G.append 3 1 8 (.int .i64 0) PH.mt (Ag ys) [.int .i64 (((c+lb.getD k 0)%1000000000:Nat):Int)] vo g 0 1 1 kV rfl rfl oV hA e1 (Ax [(c+lb.getD k 0)%1000000000]) rfl oV (by rw[Ah,hst.len];omega) (by rw[Ah,hst.len];omega) ?_;intro v2 m2 hA2;rw[Cj]at hA2;refine G.quo ((c+lb.getD k 0:Nat):Int) 1000000000 (((c+lb.getD k 0)/1000000000:Nat):Int) kV oV oV oV oV ?_;refine G.i k ?_;refine G.b (hJ (k+1,ys++[(c+lb.getD k 0)%1000000000],(c+lb.getD k 0)/1000000000,v2) _ _ _ cV (hle.trans l1) ⟨⟨oV,dV⟩,hA2,?_⟩ (by show max la.length lb.length+2-(k+1)<max la.length lb.length+2-k;omega));have:=hst.step lla llb (x:=la.getD k 0) (y:=lb.getD k 0) rfl rfl;rw[show la.getD k 0+lb.getD k 0+c=c+lb.getD k 0 by omega]at this;exact this
  ·have hzb:=Hh hkb;by_cases hc0:0<c
   ·refine G.lF (k:Int) (la.length:Int) ?_;refine G.lF (k:Int) (lb.length:Int) ?_;refine G.gT (c:Int) 0 ?_;refine G.lF (k:Int) (la.length:Int) ?_;refine G.lF (k:Int) (lb.length:Int) ?_;refine G.rem ((c:Nat):Int) 1000000000 (((c)%1000000000:Nat):Int) kV oV oV oV oV ?_;refine G.B 3 1 8 (.int .i64 0) [.int .i64 (((c)%1000000000:Nat):Int)] (Ax [(c)%1000000000]) ?_;intro g u1 l1 e1;refine G.append 3 1 8 (.int .i64 0) PH.mt (Ag ys) [.int .i64 (((c)%1000000000:Nat):Int)] vo g 0 1 1 kV rfl rfl oV hA e1 (Ax [(c)%1000000000]) rfl oV (by rw[Ah,hst.len];omega) (by rw[Ah,hst.len];omega) ?_;intro v2 m2 hA2;rw[Cj]at hA2;refine G.quo ((c:Nat):Int) 1000000000 (((c)/1000000000:Nat):Int) kV oV oV oV oV ?_;refine G.i k ?_;refine G.b (hJ (k+1,ys++[(c)%1000000000],(c)/1000000000,v2) _ _ _ cV (hle.trans l1) ⟨⟨oV,dV⟩,hA2,?_⟩ (by show max la.length lb.length+2-(k+1)<max la.length lb.length+2-k;omega));have:=hst.step lla llb (x:=la.getD k 0) (y:=lb.getD k 0) rfl rfl;rw[show la.getD k 0+lb.getD k 0+c=c by omega]at this;exact this
   ·refine G.lF (k:Int) (la.length:Int) ?_;refine G.lF (k:Int) (lb.length:Int) ?_;refine G.gF (c:Int) 0 ?_;refine G.give PH.mt (Ag ys) vo kV hA (fun _=>.inl rfl) ?_;intro u1 l1 hL;refine G.r vo ⟨rfl,ys,hL,hst.low,hst.over lla llb hka hkb oV,?_⟩;rw[hst.len];omega
end
section
variable {la ys:List Nat}
def Gz (l:List Nat):List Int:=l.map fun (n:Nat)=>(n:Int)
def Zl (la ys:List Nat)(c:Nat):List Int:=Gz ys++(match la.drop ys.length with|[]=>[]|x::r=>((x:Int)-c)::Gz r)
theorem Ah1 (la:List Nat):Zl la [] 0=Gz la:=by
 unfold Zl;cases la<;>simp[Gz]
theorem Q7 (c:Nat)(h:ys.length<la.length):Zl la ys c=Gz ys++((la.getD ys.length 0:Nat)-(c:Int))::Gz (la.drop (ys.length+1)):=by
 unfold Zl;rw[Aqh la ys.length h]
theorem Ll (c:Nat)(h:ys.length<=la.length):(Zl la ys c).length=la.length:=by
 rcases A11 ys.length la.length with h1|h1
 ·rw[Q7 c h1];simp[Gz];omega
 ·unfold Zl;rw[A1u h1];simp[Gz];omega
theorem Amw (c:Nat)(h:ys.length<la.length):(Zl la ys c)[ys.length]?=some ((la.getD ys.length 0:Nat)-(c:Int)):=by
 rw[Q7 c h,A1s (by simp[Gz])];simp[Gz]
theorem Akb (c:Nat)(d:Int)(h:ys.length<la.length):(Zl la ys c).set ys.length d=Gz ys++d::Gz (la.drop (ys.length+1)):=by
 rw[Q7 c h,List.set_append_right _ _ (by simp[Gz])];simp[Gz]
theorem Q8 (c n:Nat)(h:ys.length<la.length):(Zl la ys c).set ys.length (n:Int)=Zl la (ys++[n]) 0:=by
 rw[Akb c _ h];unfold Zl;simp only[A0z,A2o];cases la.drop (ys.length+1)<;>simp[Gz]
theorem Aak (c n:Nat)(h:ys.length+1<la.length):((Zl la ys c).set ys.length (n:Int)).set (ys.length+1) ((la.getD (ys.length+1) 0:Nat)-1)=Zl la (ys++[n]) 1:=by
 rw[Q8 c n oV];have h1:(ys++[n]).length<la.length:=by simpa using h
 have:=Akb (la:=la) (ys:=ys++[n]) 0 ((la.getD (ys.length+1) 0:Nat)-1) h1;rw[A0z,A2o]at this;rw[this,Q7 1 h1];simp
theorem Adj (c n:Nat)(h:ys.length+1<la.length):((Zl la ys c).set ys.length (n:Int))[ys.length+1]?=some ((la.getD (ys.length+1) 0:Nat):Int):=by
 rw[Q8 c n oV];have:=Amw (la:=la) (ys:=ys++[n]) 0 (by simpa using h);rw[A0z,A2o]at this;simpa using this
theorem Alf (c:Nat)(h:ys.length=la.length):Zl la ys c=Gz ys:=by
 unfold Zl;rw[A1u oV];simp
theorem It.last {a b ys:List Nat}{c:Nat}(h:It a b a.length ys c)(hb:b.length<=a.length)(hle:val b<=val a):c=0:=by
 have hs:=h.sum;rw[A03 (A0w _),A03 hb]at hs;have h1:=Ip h.low;rw[h.len]at h1;rcases A1p c with h0|h0
 ·exact h0
 ·have:1000000000^a.length*1<=1000000000^a.length*c:=A2i _ h0;omega
theorem elZ {l:List Int}{j:Nat}{d:Int}(h:l[j]?=some d):(Dx l)[j]?=some (.int .i64 d):=by simp[Dx,h]
theorem Iz {u:PH}{va vb:Value}{la lb:List Nat}(ha:B7 u va la)(hb:B7 u vb lb)(lla:Low la)(llb:Low lb)(sa:la.length<=1000000000000)(hlen:lb.length<=la.length)(hval:val lb<=val la) :
 Fn0 prog 173 [va,vb] u fun v u'=>∃ l,B7 u' v l/\Low l/\val l=val la-val lb/\l.length=la.length:=by
 obtain⟨a,ca,rfl,hca⟩:=ha.opn;obtain⟨b,cb,rfl,hcb⟩:=hb.opn;refine Fn0.o func173 ?_;rcases A1p la.length with h0|h0
 ·have e1:la = []:=A13 h0;have e2:lb = []:=A13 oV;subst e1 e2;refine G.appendNil 3 1 8 (.int .i64 0) a ca kV ?_;refine G.l (ι:=Unit) (fun _=>[(5,sV none 0 0),(6,iV 0)]) (fun _=>[]) (fun _ _ m'=>m'=PH.mt) (fun _=>0) () rfl ?_;rintro J _ hJ u' m' hle rfl;refine G.lF 0 ((0:Nat):Int) ?_;exact G.r (.slice none 0 0) ⟨rfl,[],Ab.nil _ _ _ _,Low.nil,by simp[val],rfl⟩
 ·obtain⟨ba,oa,rfl,_⟩:=ha.at (j:=0) h0;refine G.append 3 1 8 (.int .i64 0) PH.mt [] (Ag la) (.slice none 0 0) ba oa la.length ca kV rfl rfl oV (Ae.nil _ _ _) ha.els (Ax la) (Ah la) h0 gV gV ?_;intro vo m1 hA;rw[List.nil_append,<-Pe]at hA;obtain⟨bo,co,rfl⟩:=hA.ptr (by intro e;have:=congrArg A35 e;rw[Aqg,A0p,A3i]at this;omega);have hA0:Ae PH.mt m1 (.slice (some ⟨bo,0,none⟩) la.length co) 3 1 (Dx (Zl la [] 0)):=by
   have:=hA;rw[Aqg,A0p]at this;rw[Ah1];exact this
  rw[Aqg,A0p];refine G.l (ι:=Nat×List Nat×Nat) (fun i=>[(1,sV b lb.length cb),(5,sV (some ⟨bo,0,none⟩) la.length co),(6,iV i.1)]) (fun _=>[])
   (fun i _ m'=>i.1<=la.length/\It la lb i.1 i.2.1 i.2.2/\Ae PH.mt m' (.slice (some ⟨bo,0,none⟩) la.length co) 3 1 (Dx (Zl la i.2.1 i.2.2))) (fun i=>la.length-i.1) (0,[],0)
   ⟨mV,It.start _ _,hA0⟩ ?_
  clear hA hA0 m1;rintro J ⟨k,ys,c⟩ hJ u' m' hle ⟨hk,hst,hA⟩;simp only at hk hst hA hJ;have hc1:=hst.carry;have hyl:=hst.len;have hal:=lla.getD k;have hbl:=llb.getD k;by_cases hlt:k<la.length
  ·refine G.lT (k:Int) (la.length:Int) ?_;have hky:ys.length<la.length:=oV
   have hat:=Amw (la:=la) (ys:=ys) c hky;rw[hyl]at hat;by_cases hkb:k<lb.length
   ·obtain⟨bb,ob,rfl,eb⟩:=(hb.mono hle).at (j:=k) hkb;refine G.lT (k:Int) (lb.length:Int) ?_;refine G.a bo 0 la.length co k 1 hlt ?_;refine G.lM none bo (0+k*1) (.int .i64 ((la.getD k 0:Nat)-(c:Int))) (hA.el (elZ hat)) ?_;refine G.a bb ob lb.length cb k 1 hkb ?_;refine G.lU none bb (ob+k*1) (.int .i64 (lb.getD k 0:Nat)) eb ?_;obtain⟨d,hd⟩:∃ d:Int,d=(la.getD k 0:Nat)-(c:Int)-(lb.getD k 0:Nat):=⟨_,rfl⟩;refine G.s ((la.getD k 0:Nat)-(c:Int)) (lb.getD k 0:Nat) d ?_;refine G.a bo 0 la.length co k 1 hlt ?_;refine G.storeA 1 PH.mt _ bo la.length co k (.int .i64 d) kV hA (by rw[Aqg,Ll c oV];exact hlt) rfl rfl ?_;intro m2 hA2;rw[Ix]at hA2;have hd2:((Zl la ys c).set k d)[k]?=some d:=by rw[A4v (by rw[Ll c oV];exact hlt)]
    refine G.a bo 0 la.length co k 1 hlt ?_;refine G.lM none bo (0+k*1) (.int .i64 d) (hA2.el (elZ hd2)) ?_;by_cases hneg:d<0
    ·refine G.lT' d 0 hneg ?_;have hstep:=hst.step lla llb (x:=la.getD k 0) (y:=lb.getD k 0) rfl rfl;obtain⟨n,hn⟩:∃ n:Nat,n=(la.getD k 0+1000000000-lb.getD k 0-c)%1000000000:=⟨_,rfl⟩;have hc':1-(la.getD k 0+1000000000-lb.getD k 0-c)/1000000000=1:=oV
     rw[<-hn,hc']at hstep;have hk1:k+1<la.length:=by
      rcases A11 (k+1) la.length with h|h
      ·exact h
      ·have:k+1=la.length:=oV
       rw[this]at hstep;have:=hstep.last hlen hval;omega
     refine G.a bo 0 la.length co k 1 hlt ?_;refine G.lM none bo (0+k*1) (.int .i64 d) (hA2.el (elZ hd2)) ?_;refine G.p d 1000000000 (n:Int) ?_;refine G.a bo 0 la.length co k 1 hlt ?_;refine G.storeA 1 PH.mt _ bo la.length co k (.int .i64 (n:Int)) kV hA2 (by rw[Aqg,A3u,Ll c oV];exact hlt) rfl rfl ?_;intro m3 hA3;rw[Ix,A86]at hA3;refine G.i k ?_;have hg1:=Adj (la:=la) (ys:=ys) c n oV;rw[hyl]at hg1;have hal1:=lla.getD (k+1);refine G.a bo 0 la.length co (k+1) 1 hk1 ?_;refine G.lM none bo (0+(k+1)*1) (.int .i64 ((la.getD (k+1) 0:Nat):Int)) (hA3.el (elZ hg1)) ?_;refine G.sub ((la.getD (k+1) 0:Nat):Int) 1 ((la.getD (k+1) 0:Nat)-1) kV rfl oV oV ?_;refine G.a bo 0 la.length co (k+1) 1 hk1 ?_;refine G.storeA 1 PH.mt _ bo la.length co (k+1) (.int .i64 ((la.getD (k+1) 0:Nat)-1)) kV hA3 (by rw[Aqg,A3u,Ll c oV];exact hk1) rfl rfl ?_;intro m4 hA4;have e4:=Aak (la:=la) (ys:=ys) c n oV;rw[hyl]at e4;rw[Ix,e4]at hA4;refine G.i k ?_;exact G.b (hJ (k+1,ys++[n],1) _ _ _ cV hle ⟨oV,hstep,hA4⟩ dV)
    ·refine G.lF' d 0 hneg ?_;have hstep:=hst.step lla llb (x:=la.getD k 0) (y:=lb.getD k 0) rfl rfl;obtain⟨n,hn⟩:∃ n:Nat,n=(la.getD k 0+1000000000-lb.getD k 0-c)%1000000000:=⟨_,rfl⟩;have hc':1-(la.getD k 0+1000000000-lb.getD k 0-c)/1000000000=0:=oV
     rw[<-hn,hc']at hstep;have hdn:d=(n:Int):=oV
     have e4:=Q8 (la:=la) (ys:=ys) c n oV;rw[hyl]at e4;rw[hdn,e4]at hA2;refine G.i k ?_;exact G.b (hJ (k+1,ys++[n],0) _ _ _ cV hle ⟨oV,hstep,hA2⟩ dV)
   ·have hz:=Hh hkb;refine G.lF (k:Int) (lb.length:Int) ?_;obtain⟨d,hd⟩:∃ d:Int,d=(la.getD k 0:Nat)-(c:Int)-(lb.getD k 0:Nat):=⟨_,rfl⟩;have hA2:Ae PH.mt m' (.slice (some ⟨bo,0,none⟩) la.length co) 3 1 (Dx ((Zl la ys c).set k d)):=by
     have e:(Zl la ys c).set k d=Zl la ys c:=by
      have:(la.getD k 0:Nat)-(c:Int)=d:=oV
      rw[this]at hat;refine A4g fun j=>?_;by_cases hj:k=j
      ·subst hj;rw[A4v (by rw[Ll c oV];exact hlt),hat]
      ·rw[A95 hj]
     rw[e];exact hA
    have hd2:((Zl la ys c).set k d)[k]?=some d:=by rw[A4v (by rw[Ll c oV];exact hlt)]
    refine G.a bo 0 la.length co k 1 hlt ?_;refine G.lM none bo (0+k*1) (.int .i64 d) (hA2.el (elZ hd2)) ?_;by_cases hneg:d<0
    ·refine G.lT' d 0 hneg ?_;have hstep:=hst.step lla llb (x:=la.getD k 0) (y:=lb.getD k 0) rfl rfl;obtain⟨n,hn⟩:∃ n:Nat,n=(la.getD k 0+1000000000-lb.getD k 0-c)%1000000000:=⟨_,rfl⟩;have hc':1-(la.getD k 0+1000000000-lb.getD k 0-c)/1000000000=1:=oV
     rw[<-hn,hc']at hstep;have hk1:k+1<la.length:=by
      rcases A11 (k+1) la.length with h|h
      ·exact h
      ·have:k+1=la.length:=oV
       rw[this]at hstep;have:=hstep.last hlen hval;omega
     refine G.a bo 0 la.length co k 1 hlt ?_;refine G.lM none bo (0+k*1) (.int .i64 d) (hA2.el (elZ hd2)) ?_;refine G.p d 1000000000 (n:Int) ?_;refine G.a bo 0 la.length co k 1 hlt ?_;refine G.storeA 1 PH.mt _ bo la.length co k (.int .i64 (n:Int)) kV hA2 (by rw[Aqg,A3u,Ll c oV];exact hlt) rfl rfl ?_;intro m3 hA3;rw[Ix,A86]at hA3;refine G.i k ?_;have hg1:=Adj (la:=la) (ys:=ys) c n oV;rw[hyl]at hg1;have hal1:=lla.getD (k+1);refine G.a bo 0 la.length co (k+1) 1 hk1 ?_;refine G.lM none bo (0+(k+1)*1) (.int .i64 ((la.getD (k+1) 0:Nat):Int)) (hA3.el (elZ hg1)) ?_;refine G.sub ((la.getD (k+1) 0:Nat):Int) 1 ((la.getD (k+1) 0:Nat)-1) kV rfl oV oV ?_;refine G.a bo 0 la.length co (k+1) 1 hk1 ?_;refine G.storeA 1 PH.mt _ bo la.length co (k+1) (.int .i64 ((la.getD (k+1) 0:Nat)-1)) kV hA3 (by rw[Aqg,A3u,Ll c oV];exact hk1) rfl rfl ?_;intro m4 hA4;have e4:=Aak (la:=la) (ys:=ys) c n oV;rw[hyl]at e4;rw[Ix,e4]at hA4;refine G.i k ?_;exact G.b (hJ (k+1,ys++[n],1) _ _ _ cV hle ⟨oV,hstep,hA4⟩ dV)
    ·refine G.lF' d 0 hneg ?_;have hstep:=hst.step lla llb (x:=la.getD k 0) (y:=lb.getD k 0) rfl rfl;obtain⟨n,hn⟩:∃ n:Nat,n=(la.getD k 0+1000000000-lb.getD k 0-c)%1000000000:=⟨_,rfl⟩;have hc':1-(la.getD k 0+1000000000-lb.getD k 0-c)/1000000000=0:=oV
     rw[<-hn,hc']at hstep;have hdn:d=(n:Int):=oV
     have e4:=Q8 (la:=la) (ys:=ys) c n oV;rw[hyl]at e4;rw[hdn,e4]at hA2;refine G.i k ?_;exact G.b (hJ (k+1,ys++[n],0) _ _ _ cV hle ⟨oV,hstep,hA2⟩ dV)
  ·obtain rfl:k=la.length:=oV
   refine G.lF (la.length:Int) (la.length:Int) ?_;have hc0:=hst.last hlen hval;rw[Alf c hyl,show Dx (Gz ys)=Ag ys from Pe ys]at hA;refine G.give PH.mt (Ag ys) _ kV hA (fun _=>.inl rfl) ?_;intro u1 l1 hL;exact G.r (.slice (some ⟨bo,0,none⟩) la.length co) ⟨rfl,ys,hL,hst.low,hst.done hlen hval,hyl⟩
end
section
variable {a:Option Addr}{c n:Nat}{l:List Nat}{u:PH}{x x':Value}{y z:Int}
def Cn (u:PH)(v:Value)(z:Int):Prop:=∃ a n c,v=.agg #[.bool (decide (z<0)),.slice a n c]/\B7 u (.slice a n c) (Aa z.natAbs)
theorem Cn.mono {u u':PH}{v:Value}{z:Int}(h:Cn u v z)(hl:PH.le u u'):Cn u' v z:=by
 obtain⟨a,n,c,h1,h2⟩:=h;exact⟨a,n,c,h1,h2.mono hl⟩
theorem Cn.opn {v:Value}(h:Cn u v z):∃ b a n c,v=.agg #[.bool b,.slice a n c]/\b=decide (z<0)/\B7 u (.slice a n c) (Aa z.natAbs):=by
 obtain⟨a,n,c,rfl,h2⟩:=h;exact⟨_,a,n,c,rfl,rfl,h2⟩
theorem Agj (hl:Low l):0<Bj l l.length↔0<val l:=by
 have:=Hl hl;rw[<-Ce (n:=val l),this,A00];have:=I9 l l.length;omega
theorem Yu (b:Bool)(h:B7 u (.slice a n c) l)(hl:Low l):Cn u (.agg #[.bool (b&&decide (0<Bj l l.length)),.slice a (Bj l l.length) c]) (Bp b (val l)):=by
 refine⟨a,Bj l l.length,c,?_,?_⟩
 ·rw[Tr,decide_eq_decide.2 (Agj hl)]
 ·rw[Ik,Hl hl];exact h.take _ (I9 _ _)
theorem C7 {b:Bool}(h:B7 u (.slice a n c) l)(hl:Low l)(hs:l.length<=1000000000000000000) :
 Fn0 prog 168 [.agg #[.bool b,.slice a n c]] u fun v u'=>Cn u' v (Bp b (val l)):=by
 intro w hg;refine Calls.mono (Aig (b:=b) h hs w hg) fun e w' he=>?_;obtain⟨v,u',m',e1,e2,e3,e4,rfl⟩:=he;exact⟨_,u',m',e1,e2,e3,e4,Yu b (h.mono (e3.le hg.pu)) hl⟩
theorem Pn (h:Cn u x z)(hs:nl z.natAbs<=1000000000000000000):Fn0 prog 170 [x] u fun v u'=>Cn u' v (-z):=by
 obtain⟨b,a,n,c,rfl,hb,hi⟩:=h.opn;obtain⟨rfl,hc⟩:=hi.len;have hs':(Aa z.natAbs).length<=1000000000000000000:=hs;refine Fn0.o func170 ?_;have hp:=Ce (n:=z.natAbs);have fin:∀ b':Bool,b'=decide (-z<0)->Cn u (.agg #[.bool b',.slice a (Aa z.natAbs).length c]) (-z):=fun b' hb'=>⟨a,(Aa z.natAbs).length,c,by rw[hb'],by rw[A3b];exact hi⟩;cases b
 ·have hz:0<=z:=by simpa using hb.symm
  by_cases h0:0<(Aa z.natAbs).length
  ·refine G.gT ((Aa z.natAbs).length:Int) 0 ?_;exact G.r (.agg #[.bool true,.slice a (Aa z.natAbs).length c]) ⟨rfl,fin true (by have:=hp.1 h0;simp;omega)⟩
  ·refine G.gF ((Aa z.natAbs).length:Int) 0 ?_;exact G.r (.agg #[.bool false,.slice a (Aa z.natAbs).length c]) ⟨rfl,fin false (by have:¬ 0<z.natAbs:=fun h=>h0 (hp.2 h);simp;omega)⟩
 ·have hz:z<0:=by simpa using hb.symm
  exact G.r (.agg #[.bool false,.slice a (Aa z.natAbs).length c]) ⟨rfl,fin false gV⟩
theorem D5 {m n:Nat}(h:n<=m):(Aa n).length<=(Aa m).length:=C6 h
theorem Adg (hx:Cn u x y)(hx':Cn u x' z)(sy:nl y.natAbs<=1000000000000)(sz:nl z.natAbs<=1000000000000):Fn0 prog 87 [x,x'] u fun v u'=>Cn u' v (y+z):=by
 obtain⟨b,a,n,c,rfl,hb,hi⟩:=hx.opn;obtain⟨b',a',n',c',rfl,hb',hi'⟩:=hx'.opn;have sy':(Aa y.natAbs).length<=1000000000000:=sy;have sz':(Aa z.natAbs).length<=1000000000000:=sz;refine Fn0.o func87 ?_;refine G.eqB b b' kV ?_;by_cases hbb:b=b'
 ·have hs:=Zq (y:=y) (z:=z) (by rw[<-hb,<-hb',hbb]);rw[<-hb]at hs;rw[show (b==b')=true by rw[hbb];simp];refine G.c call171 (Agr hi hi' (Am _) (Am _) sy' sz') ?_;rintro v1 u1 l1 ⟨l,h1,h2,h3,h4⟩;obtain⟨a1,c1,rfl,hc1⟩:=h1.opn;refine G.c call168 (C7 (b:=b) h1 h2 oV) ?_;intro v2 u2 l2 h5;rw[h3,Aj,Aj,hs]at h5;obtain⟨b5,a5,n5,c5,rfl,_,_⟩:=h5.opn;exact G.r (.agg #[.bool b5,.slice a5 n5 c5]) ⟨rfl,h5⟩
 ·rw[show (b==b')=false by simpa using hbb];have hne:decide (y<0)≠decide (z<0):=by rw[<-hb,<-hb'];exact hbb
  refine G.c call172 (Jb hi hi' oV oV) ?_;rintro v1 u1 l1 rfl;by_cases hle:z.natAbs<=y.natAbs
  ·have hs:=Ve (y:=y) (z:=z) hne hle;rw[<-hb]at hs;refine G.hT' (sgn ((y.natAbs:Int)-z.natAbs)) 0 (by rcases A4f ((y.natAbs:Int)-z.natAbs) 0 with h|h|h<;>first|omega|(rw[h];decide)|(rw[B9 h];decide)) ?_
   refine G.c call173 (Iz (hi.mono l1) (hi'.mono l1) (Am _) (Am _) sy' (D5 hle) (by rw[Aj,Aj];exact hle)) ?_;rintro v1 u2 l2 ⟨l,h1,h2,h3,h4⟩;obtain⟨a1,c1,rfl,hc1⟩:=h1.opn;refine G.c call168 (C7 (b:=b) h1 h2 oV) ?_;intro v2 u2 l2 h5;rw[h3,Aj,Aj,hs]at h5;obtain⟨b5,a5,n5,c5,rfl,_,_⟩:=h5.opn;exact G.r (.agg #[.bool b5,.slice a5 n5 c5]) ⟨rfl,h5⟩
  ·have hs:=Uq (y:=y) (z:=z) hne oV;rw[<-hb']at hs;refine G.hF' (sgn ((y.natAbs:Int)-z.natAbs)) 0 (by rw[C0 oV];decide) ?_;refine G.c call173 (Iz (hi'.mono l1) (hi.mono l1) (Am _) (Am _) sz' (D5 oV) (by rw[Aj,Aj];omega)) ?_;rintro v1 u2 l2 ⟨l,h1,h2,h3,h4⟩;obtain⟨a1,c1,rfl,hc1⟩:=h1.opn;refine G.c call168 (C7 (b:=b') h1 h2 oV) ?_;intro v2 u2 l2 h5;rw[h3,Aj,Aj,hs]at h5;obtain⟨b5,a5,n5,c5,rfl,_,_⟩:=h5.opn;exact G.r (.agg #[.bool b5,.slice a5 n5 c5]) ⟨rfl,h5⟩
theorem Ala (hx:Cn u x y)(hx':Cn u x' z)(sy:nl y.natAbs<=1000000000000)(sz:nl z.natAbs<=1000000000000):Fn0 prog 86 [x,x'] u fun v u'=>Cn u' v (y-z):=by
 obtain⟨b,a,n,c,rfl,hb,hi⟩:=hx.opn;obtain⟨b',a',n',c',rfl,hb',hi'⟩:=hx'.opn;refine Fn0.o func86 ?_;refine G.c call170 (Pn hx' oV) ?_;intro v1 u1 l1 h1;obtain⟨b1,a1,n1,c1,rfl,_,_⟩:=h1.opn;refine G.c call87 (Adg (hx.mono l1) h1 sy (by rw[A3b];exact sz)) ?_;intro v5 u5 l5 h5;rw[<-A59]at h5;obtain⟨b5,a5,n5,c5,rfl,_,_⟩:=h5.opn;exact G.r (.agg #[.bool b5,.slice a5 n5 c5]) ⟨rfl,h5⟩
end
section
variable {j:Nat}{l:List Nat}
theorem Je (l:List Nat)(j n:Nat):(Ag l).set j (.int .i64 (n:Int))=Ag (l.set j n):=by simp[Ag,List.map_set]
theorem Un (h:j<l.length):(Ag l)[j]?=some (.int .i64 (l.getD j 0:Nat)):=by simp[Ag,h]
theorem Qk (n:Nat):A0x n (Value.int .i64 0)=Ag (A0x n 0):=by simp[Ag]
theorem Zm (h:j<l.length)(r:List Nat):(l++r).getD j 0=l.getD j 0:=by
 rw[A0o,A0o,List.getElem?_append_left h]
theorem Adb (h:j<l.length)(r:List Nat)(d:Nat):(l++r).set j d=l.set j d++r:=List.set_append_left _ _ h
theorem Aj7 (h:j<l.length)(h0:l.getD j 0=0):l.set j 0=l:=by
 refine A4g fun i=>?_;by_cases hi:j=i
 ·subst hi;rw[A4v h,A0n h];rw[A0o,A0n h]at h0;simpa using h0.symm
 ·rw[A95 hi]
def Apt (la lb:List Nat)(i k:Nat)(o:List Nat)(c:Nat):Prop:=(k<=lb.length/\Ey la lb i k o c)\/(k=lb.length+1/\c=0/\Ey la lb (i+1) 0 o 0)
theorem En {u:PH}{x x':Value}{y z:Int}(hx:Cn u x y)(hx':Cn u x' z)(sy:nl y.natAbs<=1000000000000)(sz:nl z.natAbs<=1000000000000):Fn0 prog 85 [x,x'] u fun v u'=>Cn u' v (y*z):=by
 obtain⟨b,a,n,c,rfl,hb,hi⟩:=hx.opn;obtain⟨b',a',n',c',rfl,hb',hi'⟩:=hx'.opn;obtain⟨rfl,_⟩:=hi.len;obtain⟨rfl,_⟩:=hi'.len;have hll:=Am y.natAbs;have hll':=Am z.natAbs;have sy':(Aa y.natAbs).length<=1000000000000:=sy;have sz':(Aa z.natAbs).length<=1000000000000:=sz;have hfin:∀ l:List Nat,Low l->val l=y.natAbs*z.natAbs->Bp (!(b==b')) (val l)=y*z:=by
  intro l _ hv;rw[hv,hb,hb'];exact Aaa y z
 have hvy:=Aj y.natAbs;have hvz:=Aj z.natAbs;rw[<-hvy,<-hvz]at hfin;generalize Aa y.natAbs=la at *
 generalize Aa z.natAbs=lb at *
 refine Fn0.o func85 ?_;refine G.p (la.length:Int) (lb.length:Int) ((la.length+lb.length:Nat):Int) ?_;refine G.p ((la.length+lb.length:Nat):Int) 1 ((la.length+lb.length+1:Nat):Int) ?_;refine G.make 3 1 8 (.int .i64 0) (la.length+lb.length+1) kV rfl rfl oV oV oV ?_;intro vo m1 hA _;rw[Qk]at hA;obtain⟨bo,co,rfl⟩:=hA.ptr (by intro e;have:=congrArg A35 e;rw[Ah,A3e,A3i]at this;omega);rw[Ah,A3e]at hA⊢;rw[show A0x (la.length+lb.length+1) 0=A0x (la.length+lb.length) 0++[0] from List.replicate_succ' ..]at hA;refine G.l (ι:=Nat×List Nat) (fun i=>[(2,.p 0 0),(3,.p 1 0),(4,.p 2 0),(5,sV (some ⟨bo,0,none⟩) (la.length+lb.length+1) co),(6,iV i.1)])
  (fun _=>[(0,⟨66,[bV b,sV a la.length c]⟩),(1,⟨66,[bV b',sV a' lb.length c']⟩),(2,⟨66,[bV false,sV none 0 0]⟩)])
  (fun i _ m'=>i.1<=la.length/\Ey la lb i.1 0 i.2 0/\Ae PH.mt m' (.slice (some ⟨bo,0,none⟩) (la.length+lb.length+1) co) 3 1 (Ag (i.2++[0]))) (fun i=>la.length-i.1) (0,A0x (la.length+lb.length) 0)
  ⟨mV,Ey.start _ _,hA⟩ ?_
 clear hA m1;rintro J ⟨i,o⟩ hJ u' m' hle ⟨hk,hst,hA⟩;simp only at hk hst hA hJ;by_cases hlt:i<la.length
 ·refine G.lT (i:Int) (la.length:Int) ?_;obtain⟨ba,oa,rfl,ea⟩:=(hi.mono hle).at (j:=i) hlt;have hal:=hll.getD i;refine G.l (ι:=Nat×List Nat×Nat) (fun q=>[(2,.p 0 0),(3,.p 1 0),(4,.p 2 0),(5,sV (some ⟨bo,0,none⟩) (la.length+lb.length+1) co),(6,iV i),(7,iV q.2.2),(8,iV q.1)])
   (fun _=>[(0,⟨66,[bV b,sV (some ⟨ba,oa,none⟩) la.length c]⟩),(1,⟨66,[bV b',sV a' lb.length c']⟩),(2,⟨66,[bV false,sV none 0 0]⟩)])
   (fun q _ m'=>Apt la lb i q.1 q.2.1 q.2.2/\Ae PH.mt m' (.slice (some ⟨bo,0,none⟩) (la.length+lb.length+1) co) 3 1 (Ag (q.2.1++[0]))) (fun q=>lb.length+1-q.1) (0,o,0)
   ⟨.inl ⟨mV,hst⟩,hA⟩ ?_
  clear hA hst m';rintro J2 ⟨k,o,cc⟩ hJ2 u2 m' hle2 ⟨hin,hA⟩;simp only at hin hA hJ2;have hlo:o.length=la.length+lb.length:=by rcases hin with ⟨_,h⟩|⟨_,_,h⟩<;>exact h.len
  have hcc:cc<1000000000:=by rcases hin with ⟨_,h⟩|⟨_,h,_⟩;exact h.carry;omega
  have hol:=(show Low o by rcases hin with ⟨_,h⟩|⟨_,_,h⟩<;>exact h.low).getD (i+k)
  by_cases hkb:k<lb.length
  ·have hst:Ey la lb i k o cc:=by rcases hin with ⟨_,h⟩|⟨h,_⟩;exact h;omega
   obtain⟨bb,ob,rfl,eb⟩:=(hi'.mono (hle.trans hle2)).at (j:=k) hkb;have hbl:=hll'.getD k;have hikl:i+k<(o++[0]).length:=gV
   refine G.lT (k:Int) (lb.length:Int) ?_;refine G.p (i:Int) (k:Int) ((i+k:Nat):Int) ?_;refine G.a bo 0 (la.length+lb.length+1) co (i+k) 1 oV ?_;refine G.lM none bo (0+(i+k)*1) (.int .i64 ((o++[0]).getD (i+k) 0:Nat)) (hA.el (Un hikl)) ?_;rw[Zm oV];refine G.p (cc:Int) (o.getD (i+k) 0:Nat) ((cc+o.getD (i+k) 0:Nat):Int) ?_;refine G.lT (k:Int) (lb.length:Int) ?_;refine G.a ba oa la.length c i 1 hlt ?_;refine G.lU none ba (oa+i*1) (.int .i64 (la.getD i 0:Nat)) (ea.mono hle2) ?_;refine G.a bb ob lb.length c' k 1 hkb ?_;refine G.lU none bb (ob+k*1) (.int .i64 (lb.getD k 0:Nat)) eb ?_;have hp:la.getD i 0*lb.getD k 0<=999999999*999999999:=A3j oV oV;refine G.mul (la.getD i 0:Nat) (lb.getD k 0:Nat) ((la.getD i 0*lb.getD k 0:Nat):Int) kV (A4j _ _).symm oV oV ?_;obtain⟨t,ht⟩:∃ t,t=o.getD (i+k) 0+la.getD i 0*lb.getD k 0+cc:=⟨_,rfl⟩;refine G.p ((cc+o.getD (i+k) 0:Nat):Int) ((la.getD i 0*lb.getD k 0:Nat):Int) (t:Int) ?_;refine G.p (i:Int) (k:Int) ((i+k:Nat):Int) ?_;refine G.rem (t:Int) 1000000000 ((t%1000000000:Nat):Int) kV oV oV oV oV ?_;refine G.a bo 0 (la.length+lb.length+1) co (i+k) 1 oV ?_;refine G.storeA 1 PH.mt _ bo (la.length+lb.length+1) co (i+k) (.int .i64 ((t%1000000000:Nat):Int)) kV hA (by rw[Ah];exact hikl) rfl rfl ?_;intro m2 hA2;rw[Je,Adb oV]at hA2;refine G.quo (t:Int) 1000000000 ((t/1000000000:Nat):Int) kV oV oV oV oV ?_;refine G.i k ?_;exact G.b (hJ2 (k+1,o.set (i+k) (t%1000000000),t/1000000000) _ _ _ cV hle2 ⟨.inl ⟨oV,hst.step hll hll' hkb hlt rfl rfl rfl ht⟩,hA2⟩ dV)
  ·refine G.lF (k:Int) (lb.length:Int) ?_;by_cases hc0:0<cc
   ·have hst:Ey la lb i lb.length o cc/\k=lb.length:=by
     rcases hin with ⟨h1,h⟩|⟨_,h,_⟩
     ·obtain rfl:k=lb.length:=oV
      exact⟨h,rfl⟩
     ·omega
    obtain⟨hst,rfl⟩:=hst;obtain⟨hz0,hnext⟩:=hst.next hlt;have hikl:i+lb.length<(o++[0]).length:=gV
    refine G.gT (cc:Int) 0 ?_;refine G.p (i:Int) (lb.length:Int) ((i+lb.length:Nat):Int) ?_;refine G.a bo 0 (la.length+lb.length+1) co (i+lb.length) 1 oV ?_;refine G.lM none bo (0+(i+lb.length)*1) (.int .i64 ((o++[0]).getD (i+lb.length) 0:Nat)) (hA.el (Un hikl)) ?_;rw[Zm oV];refine G.p (cc:Int) (o.getD (i+lb.length) 0:Nat) (cc:Int) ?_;refine G.lF (lb.length:Int) (lb.length:Int) ?_;refine G.p (i:Int) (lb.length:Int) ((i+lb.length:Nat):Int) ?_;refine G.rem (cc:Int) 1000000000 (cc:Int) kV oV oV oV oV ?_;refine G.a bo 0 (la.length+lb.length+1) co (i+lb.length) 1 oV ?_;refine G.storeA 1 PH.mt _ bo (la.length+lb.length+1) co (i+lb.length) (.int .i64 (cc:Int)) kV hA (by rw[Ah];exact hikl) rfl rfl ?_;intro m2 hA2;rw[Je,Adb oV]at hA2;refine G.quo (cc:Int) 1000000000 0 kV oV oV oV oV ?_;refine G.p (lb.length:Int) 1 ((lb.length+1:Nat):Int) ?_;exact G.b (hJ2 (lb.length+1,o.set (i+lb.length) cc,0) _ _ _ cV hle2 ⟨.inr ⟨rfl,rfl,hnext⟩,hA2⟩ dV)
   ·refine G.gF (cc:Int) 0 ?_;have hst:Ey la lb (i+1) 0 o 0:=by
     rcases hin with ⟨h1,h⟩|⟨_,_,h⟩
     ·obtain rfl:k=lb.length:=oV
      obtain rfl:cc=0:=oV
      obtain⟨hz0,hnext⟩:=h.next hlt;rw[Aj7 oV hz0]at hnext;exact hnext
     ·exact h
    refine G.i i ?_;exact G.b (hJ (i+1,o) _ _ _ cV (hle.trans hle2) ⟨oV,hst,hA⟩ dV)
 ·obtain rfl:i=la.length:=oV
  refine G.lF (la.length:Int) (la.length:Int) ?_;refine G.give PH.mt (Ag (o++[0])) _ kV hA (fun _=>.inl rfl) ?_;intro u1 l1 hL;have hlow:Low (o++[0]):=hst.low.append (Low.cons oV Low.nil);have hval:val (o++[0])=val la*val lb:=by rw[Hp,A3n,A3f];exact hst.done
  have hlo:=hst.len;refine G.neB b b' kV ?_;refine G.c call168 (C7 (b:=!(b==b')) hL hlow gV) ?_;intro v2 u2 l2 h5;rw[hfin _ hlow hval]at h5;obtain⟨b5,a5,n5,c5,rfl,_,_⟩:=h5.opn;exact G.r (.agg #[.bool b5,.slice a5 n5 c5]) ⟨rfl,h5⟩
end
section
variable {R Y c k n:Nat}{a ys:List Nat}
structure Ha (a:List Nat)(n k:Nat)(ys:List Nat)(c:Nat):Prop where
 len:ys.length=k
 low:Low ys
 carry:c<1000000000
 sum:val ys+1000000000^k*c=val (a.take k)*n
theorem Ha.start (a:List Nat)(n:Nat):Ha a n 0 [] 0:=⟨rfl,Low.nil,oV,by simp[val]⟩
theorem Ha.step {n k c t:Nat}(h:Ha a n k ys c)(ha:Low a)(hn:n<1000000000)(ht:t=c+a.getD k 0*n):Ha a n (k+1) (ys++[t%1000000000]) (t/1000000000):=by
 have h1:=ha.getD k;have h2:=h.carry;have hp:a.getD k 0*n<=999999999*999999999:=A3j oV oV;refine⟨by simp[h.len],h.low.append (Low.cons oV Low.nil),oV,?_⟩;rw[Hp,B3,h.len,A16,A28,Gy,A1o];have:=h.sum;rw[ht,A2a,<-A28,this,A1x]
theorem Ha.over (h:Ha a n k ys c)(hk:¬ k<a.length)(hc:c=0):val ys=val a*n:=by
 have:=h.sum;rw[A03 oV,hc]at this;simpa using this
structure Qc (lx:List Nat)(Y k:Nat)(qs:List Nat)(R:Nat):Prop where
 len:qs.length=lx.length
 low:Low qs
 quo:val (qs.drop k)=val (lx.drop k)/Y
 rest:R=val (lx.drop k)%Y
theorem Qc.start (lx:List Nat)(Y:Nat):Qc lx Y lx.length (A0x lx.length 0) 0:=by
 refine⟨mV,Low.zeros _,?_,?_⟩
 ·rw[A1u mV,A1u oV];simp[val]
 ·rw[A1u oV];simp[val]
theorem Vs {R Y x:Nat}(hR:R<Y)(hx:x<1000000000):(x+1000000000*R)/Y<1000000000:=by
 rw[A2w oV];have:1000000000*(R+1)<=1000000000*Y:=A2i _ hR;omega
theorem Qc.step {lx qs:List Nat}(h:Qc lx Y (k+1) qs R)(hx:Low lx)(hk:k<lx.length)(hY:0<Y) :
 Qc lx Y k (qs.set k ((lx.getD k 0+1000000000*R)/Y)) ((lx.getD k 0+1000000000*R)%Y):=by
 have hR:R<Y:=by rw[h.rest];exact A2s _ hY
 have hl:=h.len;have e1:(qs.set k ((lx.getD k 0+1000000000*R)/Y)).drop k=(lx.getD k 0+1000000000*R)/Y::qs.drop (k+1):=by
  rw[Aqh _ k gV,List.drop_set_of_lt oV]
  congr 1
  rw[A0o,A4v oV];rfl
 have e2:=Aqh lx k hk;have e3:val (lx.drop k)=lx.getD k 0+1000000000*R+Y*(1000000000*(val (lx.drop (k+1))/Y)):=by
  rw[e2];simp only[val];have:=A26 (val (lx.drop (k+1))) Y;rw[<-h.rest]at this;have e4:1000000000*val (lx.drop (k+1))=1000000000*(Y*(val (lx.drop (k+1))/Y))+1000000000*R:=by rw[<-A2a,this]
  rw[e4,Nat.mul_left_comm Y 1000000000];omega
 refine⟨by simpa using hl,h.low.set _ (Vs hR (hx.getD k)),?_,?_⟩
 ·rw[e1,e3,Nat.add_mul_div_left _ _ hY];simp only[val];rw[h.quo]
 ·rw[e3,Nat.add_mul_mod_self_left]
theorem All {Y R y1 p yl top rl:Nat}(hY:Y=y1*p+yl)(hyl:yl<p)(hy1:0<y1)(hR:R=top*p+rl)(hrl:rl<p):top/(y1+1)<=R/Y/\R/Y<=top/y1:=by
 have hp:0<p:=oV
 have hY0:0<Y:=by have:=Nat.mul_pos hy1 hp;omega
 constructor
 ·rw[A4l hY0];have h1:Y<=(y1+1)*p:=by rw[A1o];omega
  have h2:top/(y1+1)*(y1+1)<=top:=A6s _ _
  calc top/(y1+1)*Y<=top/(y1+1)*((y1+1)*p):=A2i _ h1
   _=top/(y1+1)*(y1+1)*p:=by rw[A1x]
   _<=top*p:=A12 _ h2
   _<=R:=oV
 ·rw[A4l hy1];have h1:R/Y*Y<=R:=A6s _ _;have h2:R/Y*(y1*p)<=R/Y*Y:=A2i _ oV;have h3:R/Y*y1*p<(top+1)*p:=by rw[A1x,A1o];omega
  exact Nat.le_of_lt_succ (Nat.lt_of_mul_lt_mul_right h3)
theorem Anr (R n:Nat)(hn:0<n)(hl:(Aa R).length<=n+1)(hl2:n<=(Aa R).length) :
 ∃ rl,R=((Aa R).getD (n-1) 0+(Aa R).getD n 0*1000000000)*1000000000^(n-1)+rl/\rl<1000000000^(n-1):=by
 refine⟨val ((Aa R).take (n-1)),?_,?_⟩
 ·have h:=E5 (Aa R) (n-1) oV;rw[Aj]at h;have hd:=Aqh (Aa R) (n-1) oV;rw[show n-1+1=n by omega]at hd;rcases A11 n (Aa R).length with h1|h1
  ·have hd2:=Aqh (Aa R) n h1;rw[A1u (show (Aa R).length<=n+1 by omega)]at hd2;rw[hd,hd2]at h;simp only[val,A3n,A3f]at h;rw[A10 _ (1000000000^(n-1)),A10 ((Aa R).getD n 0)];omega
  ·rw[A1u h1]at hd;rw[hd]at h;simp only[val]at h;have h0:(Aa R).getD n 0=0:=by rw[A0o,A1g h1];rfl
   rw[h0,A10 _ (1000000000^(n-1))];simp only[A4p,A3n,A3f]at h⊢;omega
 ·have:=Ip ((Am R).take (n-1));rwa[A00,A32 oV]at this
end
section
variable {n:Nat}{u:PH}
theorem Cn.lim {b:Bool}{a:Option Addr}{n c k:Nat}(h:Cn u (.agg #[.bool b,.slice a n c]) (Bp false k)):B7 u (.slice a n c) (Aa k):=by
 obtain⟨_,_,_,h1,h2⟩:=h;simp only[A33,A3z,A18,A4o,A09,and_true]at h1;obtain⟨_,rfl,rfl,rfl⟩:=h1;rw[Ik]at h2;exact h2
theorem Hj {va:Value}{la:List Nat}(ha:B7 u va la)(lla:Low la)(sa:la.length<=1000000000000)(hn:n<1000000000) :
 Fn0 prog 231 [va,.int .i64 (n:Int)] u fun v u'=>B7 u' v (Aa (val la*n)):=by
 obtain⟨a,ca,rfl,hca⟩:=ha.opn;refine Fn0.o func231 ?_;refine G.l (ι:=Nat×List Nat×Nat×Value) (fun i=>[(0,sV a la.length ca),(1,iV n),(5,.v i.2.2.2),(6,iV i.2.2.1),(7,iV i.1)]) (fun _=>[])
  (fun i _ m'=>(i.1<=la.length+1/\(la.length+1<=i.1->i.2.2.1=0))/\Ae PH.mt m' i.2.2.2 3 1 (Ag i.2.1)/\Ha la n i.1 i.2.1 i.2.2.1) (fun i=>la.length+2-i.1) (0,[],0,.slice none 0 0)
  ⟨⟨mV,fun _=>rfl⟩,Ae.nil _ _ _,Ha.start _ _⟩ ?_
 rintro J ⟨k,ys,c,vo⟩ hJ u' m' hle ⟨hk,hA,hst⟩;simp only at hk hA hst hJ;have hc1:=hst.carry;have hal:=lla.getD k;have hp:la.getD k 0*n<=999999999*999999999:=A3j oV oV;obtain⟨ao,co,rfl⟩:=hA.shape;obtain⟨vo,hvo⟩:∃ vo,vo=A06 ao (Ag ys).length co:=⟨_,rfl⟩;rw[<-hvo]at hA⊢;obtain⟨t,ht⟩:∃ t,t=c+la.getD k 0*n:=⟨_,rfl⟩;have hstep:=hst.step lla hn ht;by_cases hka:k<la.length
 ·refine G.lT (k:Int) (la.length:Int) ?_;refine G.lT (k:Int) (la.length:Int) ?_;obtain⟨ba,oa,rfl,ea⟩:=(ha.mono hle).at (j:=k) hka;refine G.a ba oa la.length ca k 1 hka ?_;refine G.lU none ba (oa+k*1) (.int .i64 (la.getD k 0:Nat)) ea ?_;refine G.mul (la.getD k 0:Nat) (n:Int) ((la.getD k 0*n:Nat):Int) kV (A4j _ _).symm oV oV ?_;refine G.p (c:Int) ((la.getD k 0*n:Nat):Int) (t:Int) ?_;refine G.rem (t:Int) 1000000000 ((t%1000000000:Nat):Int) kV oV oV oV oV ?_;refine G.B 3 1 8 (.int .i64 0) [.int .i64 ((t%1000000000:Nat):Int)] (Ax [t%1000000000]) ?_;intro g u1 l1 e1;refine G.append 3 1 8 (.int .i64 0) PH.mt (Ag ys) [.int .i64 ((t%1000000000:Nat):Int)] vo g 0 1 1 kV rfl rfl oV hA e1 (Ax [t%1000000000]) rfl oV (by rw[Ah,hst.len];omega) (by rw[Ah,hst.len];omega) ?_;intro v2 m2 hA2;rw[Cj]at hA2;refine G.quo (t:Int) 1000000000 ((t/1000000000:Nat):Int) kV oV oV oV oV ?_;refine G.i k ?_;exact G.b (hJ (k+1,ys++[t%1000000000],t/1000000000,v2) _ _ _ cV (hle.trans l1) ⟨⟨oV,dV⟩,hA2,hstep⟩ dV)
 ·have hz:=Hh hka;rw[hz,A4p,A3f]at ht;subst ht;refine G.lF (k:Int) (la.length:Int) ?_;by_cases hc0:0<t
  ·refine G.gT (t:Int) 0 ?_;refine G.lF (k:Int) (la.length:Int) ?_;refine G.rem (t:Int) 1000000000 ((t%1000000000:Nat):Int) kV oV oV oV oV ?_;refine G.B 3 1 8 (.int .i64 0) [.int .i64 ((t%1000000000:Nat):Int)] (Ax [t%1000000000]) ?_;intro g u1 l1 e1;refine G.append 3 1 8 (.int .i64 0) PH.mt (Ag ys) [.int .i64 ((t%1000000000:Nat):Int)] vo g 0 1 1 kV rfl rfl oV hA e1 (Ax [t%1000000000]) rfl oV (by rw[Ah,hst.len];omega) (by rw[Ah,hst.len];omega) ?_;intro v2 m2 hA2;rw[Cj]at hA2;refine G.quo (t:Int) 1000000000 ((t/1000000000:Nat):Int) kV oV oV oV oV ?_;refine G.i k ?_;exact G.b (hJ (k+1,ys++[t%1000000000],t/1000000000,v2) _ _ _ cV (hle.trans l1) ⟨⟨oV,dV⟩,hA2,hstep⟩ dV)
  ·refine G.gF (t:Int) 0 ?_;refine G.give PH.mt (Ag ys) vo kV hA (fun _=>.inl rfl) ?_;intro u1 l1 hL;have hyl:=hst.len;subst hvo;refine G.c call168 (C7 (b:=false) hL hst.low oV) ?_;intro v2 u2 l2 h5;rw[hst.over hka oV]at h5;obtain⟨b5,a5,n5,c5,rfl,_,_⟩:=h5.opn;exact G.r (.slice a5 n5 c5) ⟨rfl,h5.lim⟩
end
section
variable {R Y hi lo mid:Nat}{z:Int}
theorem I7 (m n:Nat):((m:Int)).tdiv n=((m/n:Nat):Int):=rfl
theorem Lh (m n:Nat):((m:Int)).tmod n=((m%n:Nat):Int):=rfl
theorem Af9 (y z:Int):Bp (!(decide (y<0)==decide (z<0))) (y.natAbs/z.natAbs)=y.tdiv z:=by
 unfold Bp;rcases A5n y 0 with hy|hy<;>rcases A5n z 0 with hz|hz
 ·rw[decide_eq_true hy,decide_eq_true hz];obtain⟨m,rfl⟩:∃ m:Nat,y = -(m:Int):=⟨y.natAbs,oV⟩;obtain⟨n,rfl⟩:∃ n:Nat,z = -(n:Int):=⟨z.natAbs,oV⟩;rw[A64,Bci,Int.neg_neg,I7,A3b,A3b];rfl
 ·rw[decide_eq_true hy,decide_eq_false (show ¬ z<0 by omega)];obtain⟨m,rfl⟩:∃ m:Nat,y = -(m:Int):=⟨y.natAbs,oV⟩;obtain⟨n,rfl⟩:∃ n:Nat,z=(n:Int):=⟨z.natAbs,oV⟩;rw[A64,I7,A3b];rfl
 ·rw[decide_eq_false (show ¬ y<0 by omega),decide_eq_true hz];obtain⟨m,rfl⟩:∃ m:Nat,y=(m:Int):=⟨y.natAbs,oV⟩;obtain⟨n,rfl⟩:∃ n:Nat,z = -(n:Int):=⟨z.natAbs,oV⟩;rw[Bci,I7,A3b];rfl
 ·rw[decide_eq_false (show ¬ y<0 by omega),decide_eq_false (show ¬ z<0 by omega)];obtain⟨m,rfl⟩:∃ m:Nat,y=(m:Int):=⟨y.natAbs,oV⟩;obtain⟨n,rfl⟩:∃ n:Nat,z=(n:Int):=⟨z.natAbs,oV⟩;rw[I7];rfl
theorem Aex (y z:Int):Bp (decide (y<0)) (y.natAbs%z.natAbs)=y.tmod z:=by
 unfold Bp;have hn:∀ m:Nat,((m:Int)).tmod z=((m%z.natAbs:Nat):Int):=by
  intro m;rcases A5n z 0 with hz|hz
  ·obtain⟨n,rfl⟩:∃ n:Nat,z = -(n:Int):=⟨z.natAbs,oV⟩;rw[Int.tmod_neg,Lh,A3b];rfl
  ·obtain⟨n,rfl⟩:∃ n:Nat,z=(n:Int):=⟨z.natAbs,oV⟩;rw[Lh];rfl
 rcases A5n y 0 with hy|hy
 ·rw[decide_eq_true hy];obtain⟨m,rfl⟩:∃ m:Nat,y = -(m:Int):=⟨y.natAbs,oV⟩;rw[Bcj,hn,A3b];rfl
 ·rw[decide_eq_false (show ¬ y<0 by omega)];obtain⟨m,rfl⟩:∃ m:Nat,y=(m:Int):=⟨y.natAbs,oV⟩;rw[hn];rfl
theorem An4 {n:Nat}(h:n≠0):0<(Aa n).getD ((Aa n).length-1) 0:=by
 have h1:=Hl (Am n);rw[Aj]at h1;have h2:=congrArg A35 h1;rw[A00]at h2;have hp:0<(Aa n).length:=Ce.2 oV;have h3:=I9 (Aa n) (Aa n).length;have h4:=Qo (Aa n) (Aa n).length oV;rw[show Bj (Aa n) (Aa n).length=(Aa n).length by omega]at h4;omega
theorem Ab6 (h:z<=0):sgn z<=0:=by
 rcases A4f z 0 with h1|h1|h1
 ·rw[C0 h1];decide
 ·rw[h1];decide
 ·omega
theorem Ao3 (h:0<=z):0<=sgn z:=by
 rcases A4f z 0 with h1|h1|h1
 ·omega
 ·rw[h1];decide
 ·rw[B9 h1];decide
theorem Al7 (g:Nat)(u:PH)(x:Nat)(e:El u g 0 1 [.int .i64 (x:Int)]):Ab u (.slice (some ⟨g,0,none⟩) 1 1) 1 (Ag [x]):=⟨_,1,rfl,by simp[Ag],fun j v hj=>⟨g,0,rfl,e j v hj⟩⟩
theorem Aav (x:Nat)(l:List Nat):Ag [x]++Ag l=Ag (x::l):=rfl
structure Rg (Y R lo hi:Nat):Prop where
 a:lo<=R/Y
 b:R/Y<=hi
 c:hi<=999999999
theorem Rg.up (h:Rg Y R lo hi)(hY:0<Y)(hm:Y*mid<=R):Rg Y R mid hi:=⟨by rw[A4l hY,A10];exact hm,h.b,h.c⟩
theorem Rg.down (h:Rg Y R lo hi)(hY:0<Y)(hm:¬ Y*mid<=R)(h0:0<mid)(hc:mid<=hi):Rg Y R lo (mid-1):=by
 have:R/Y<mid:=by rw[A2w hY,A10];omega
 exact⟨h.a,oV,by have:=h.c;omega⟩
theorem Nn {u:PH}{x x':Value}{y z:Int}(hx:Cn u x y)(hx':Cn u x' z)(sy:nl y.natAbs<=100000000000)(sz:nl z.natAbs<=100000000000)(hz0:z≠0) :
 Fn0 prog 169 [x,x'] u fun v u'=>∃ a b,v=.tuple #[a,b]/\Cn u' a (y.tdiv z)/\Cn u' b (y.tmod z):=by
 obtain⟨b,a,n,c,rfl,hb,hi⟩:=hx.opn;obtain⟨b',a',n',c',rfl,hb',hi'⟩:=hx'.opn;obtain⟨rfl,_⟩:=hi.len;obtain⟨rfl,_⟩:=hi'.len;have hll:=Am y.natAbs;have sy':(Aa y.natAbs).length<=100000000000:=sy;have sz':(Aa z.natAbs).length<=100000000000:=sz;have hYp:0<z.natAbs:=oV
 have hn1:0<(Aa z.natAbs).length:=Ce.2 hYp;have hquo:Bp (!(b==b')) (y.natAbs/z.natAbs)=y.tdiv z:=by rw[hb,hb'];exact Af9 y z
 have hrem:Bp b (y.natAbs%z.natAbs)=y.tmod z:=by rw[hb];exact Aex y z
 have hvy:=Aj y.natAbs;rw[<-hvy]at hquo hrem;generalize Aa y.natAbs=lx at *
 have hY:=Aj z.natAbs;have hly:=Am z.natAbs;have htop:=An4 (n:=z.natAbs) oV;generalize z.natAbs=Y at *
 clear hb hb' hx hx' sy sz;refine Fn0.o func169 ?_;refine G.make 3 1 8 (.int .i64 0) lx.length kV rfl rfl oV oV oV ?_;rintro vq m1 hA ⟨aq,rfl⟩;rw[Qk]at hA;refine G.sub (lx.length:Int) 1 ((lx.length:Int)-1) kV rfl oV oV ?_;refine G.l (ι:=Int×Nat×List Nat×Value) (fun i=>[(2,.p 0 0),(3,.p 1 0),(4,.p 2 0),(5,.p 3 0),(6,.v i.2.2.2),(7,sV (some aq) lx.length lx.length),(8,iV i.1)])
  (fun _=>[(0,⟨66,[bV b,sV a lx.length c]⟩),(1,⟨66,[bV b',sV a' (Aa Y).length c']⟩),(2,⟨66,[bV false,sV none 0 0]⟩),(3,⟨66,[bV false,sV none 0 0]⟩)])
  (fun i u' m'=>(-1<=i.1/\i.1<lx.length)/\Qc lx Y (i.1+1).toNat i.2.2.1 i.2.1/\B7 u' i.2.2.2 (Aa i.2.1)/\Ae PH.mt m' (.slice (some aq) lx.length lx.length) 3 1 (Ag i.2.2.1)) (fun i=>(i.1+1).toNat) ((lx.length:Int)-1,0,A0x lx.length 0,.slice none 0 0)
  ⟨⟨gV,gV⟩,by rw[show (((lx.length:Int)-1)+1).toNat=lx.length by omega];exact Qc.start _ _,by rw[Bd];exact Ab.nil _ _ _ _,hA⟩ ?_
 clear hA m1;rintro J ⟨zi,R,qs,vr⟩ hJ u' m' hle ⟨hzi,hst,hR,hA⟩;simp only at hzi hst hR hA hJ;obtain⟨ar,cr,rfl,hcr⟩:=hR.opn;by_cases hneg:0<=zi
 ·obtain⟨k,rfl⟩:=A53 hneg;rw[show ((k:Int)+1).toNat=k+1 by omega]at hst;have hk:k<lx.length:=oV
  have hRY:R<Y:=by rw[hst.rest];exact A2s _ hYp
  have hxk:=hll.getD k;have hstep:=hst.step hll hk hYp;have hdig:=Vs hRY hxk;obtain⟨baq,caq,e⟩:=hA.ptr (by intro e;have:=congrArg A35 e;rw[Ah,hst.len,A3i]at this;omega);simp only[A09,A0t]at e;obtain⟨rfl,_,_⟩:=e;obtain⟨ba,oa,rfl,ea⟩:=(hi.mono hle).at (j:=k) hk;refine G.hT (k:Int) 0 ?_;refine G.a ba oa lx.length c k 1 hk ?_;refine G.lU none ba (oa+k*1) (.int .i64 (lx.getD k 0:Nat)) ea ?_;refine G.B 3 1 8 (.int .i64 0) [.int .i64 (lx.getD k 0:Nat)] (Ax [lx.getD k 0]) ?_;intro g u1 l1 e1;have hRlen:(Aa R).length<=(Aa Y).length:=D5 oV;refine G.appendV 3 1 8 (.int .i64 0) (Ag [lx.getD k 0]) (Ag (Aa R)) (some ⟨g,0,none⟩) 1 ar (Aa R).length cr kV oV (Al7 g u1 _ e1) (Ax _) (hR.mono l1) (Ax _) (by rw[Ah,Ah];simp;omega) (by rw[Ah,Ah];simp;omega) ?_;intro v2 u2 l2 h2;rw[Aav]at h2;obtain⟨a2,c2,rfl,hc2⟩:=B7.opn h2;refine G.c call168 (C7 (b:=false) (l:=lx.getD k 0::Aa R) h2 (Low.cons hxk (Am R)) gV) ?_;intro v3 u3 l3 h3;rw[show val (lx.getD k 0::Aa R)=lx.getD k 0+1000000000*R by simp only[val];rw[Aj]]at h3;generalize lx.getD k 0+1000000000*R=R' at *
  obtain⟨b3,a3,n3,c3,rfl,_,_⟩:=h3.opn;have hR':=h3.lim;obtain⟨rfl,hc3⟩:=hR'.len;have hR'len:(Aa R').length<=(Aa Y).length+1:=by
   have h5:=hdig;rw[A2w hYp]at h5;refine A4 ?_;have h6:=Cd Y;rw[A16];have h7:1000000000*Y<1000000000*1000000000^nl Y:=Nat.mul_lt_mul_of_pos_left h6 oV;have h8:(1000000000:Nat)^(Aa Y).length=1000000000^nl Y:=rfl;rw[h8,A10 (1000000000^nl Y)];omega
  have hiy:=hi'.mono (((hle.trans l1).trans l2).trans l3);refine G.c call172 (Jb hR' hiy (by show (Aa R').length<=_;omega) (by show (Aa Y).length<=_;omega)) ?_;rintro v4 u4 l4 rfl;have hR4:=hR'.mono l4;have hiy4:=hiy.mono l4;have hle4:PH.le u u4:=(((hle.trans l1).trans l2).trans l3).trans l4;by_cases hge:Y<=R'
  ·refine G.hT' (sgn ((R':Int)-Y)) 0 (Ao3 oV) ?_;have hlen2:(Aa Y).length<=(Aa R').length:=D5 hge;obtain⟨rl,hr1,hr2⟩:=Anr R' (Aa Y).length hn1 hR'len hlen2;obtain⟨br,orr,rfl,er⟩:=hR4.at (j:=(Aa Y).length-1) oV;have hr1l:=(Am R').getD ((Aa Y).length-1);have hr2l:=(Am R').getD (Aa Y).length;have hy1l:=hly.getD ((Aa Y).length-1);obtain⟨by_,oy,rfl,ey⟩:=hiy4.at (j:=(Aa Y).length-1) oV;have hYsplit:Y=(Aa Y).getD ((Aa Y).length-1) 0*1000000000^((Aa Y).length-1)+val ((Aa Y).take ((Aa Y).length-1)):=by
    have h5:=E5 (Aa Y) ((Aa Y).length-1) oV;rw[hY,Aqh _ _ (show (Aa Y).length-1<(Aa Y).length by omega),A1u oV]at h5;simp only[val,A3n,A3f]at h5;rw[A10];omega
   have hyl:val ((Aa Y).take ((Aa Y).length-1))<1000000000^((Aa Y).length-1):=by
    have:=Ip (hly.take ((Aa Y).length-1));rwa[A00,A32 oV]at this
   have hest:=All hYsplit hyl htop hr1 hr2;refine G.s ((Aa Y).length:Int) 1 (((Aa Y).length-1:Nat):Int) ?_;refine G.a br orr (Aa R').length c3 ((Aa Y).length-1) 1 oV ?_;refine G.lU none br (orr+((Aa Y).length-1)*1) (.int .i64 ((Aa R').getD ((Aa Y).length-1) 0:Nat)) er ?_;obtain⟨top,htp⟩:∃ top,top=(Aa R').getD ((Aa Y).length-1) 0+(Aa R').getD (Aa Y).length 0*1000000000:=⟨_,rfl⟩;rw[<-htp]at hest;have hmm:∀ k:Nat,((min (999999999:Int) (k:Int)))=((min 999999999 k:Nat):Int):=fun k=>oV
   obtain⟨h1,hh1⟩:∃ h1,h1=min 999999999 (top/(Aa Y).getD ((Aa Y).length-1) 0):=⟨_,rfl⟩;obtain⟨l0,hl0⟩:∃ l0,l0=min h1 (top/((Aa Y).getD ((Aa Y).length-1) 0+1)):=⟨_,rfl⟩;have hfind:Rg Y R' l0 h1:=⟨oV,oV,oV⟩;by_cases hlong:(Aa Y).length<(Aa R').length
   ·refine G.gT ((Aa R').length:Int) ((Aa Y).length:Int) ?_;obtain⟨_,_,e9,er2⟩:=hR4.at (j:=(Aa Y).length) hlong;simp only[A0t,Addr.mk.injEq,and_true]at e9;obtain⟨rfl,rfl⟩:=e9;refine G.a br orr (Aa R').length c3 (Aa Y).length 1 hlong ?_;refine G.lU none br (orr+(Aa Y).length*1) (.int .i64 ((Aa R').getD (Aa Y).length 0:Nat)) er2 ?_;refine G.mul ((Aa R').getD (Aa Y).length 0:Nat) 1000000000 (((Aa R').getD (Aa Y).length 0*1000000000:Nat):Int) kV oV oV oV ?_;refine G.p ((Aa R').getD ((Aa Y).length-1) 0:Nat) (((Aa R').getD (Aa Y).length 0*1000000000:Nat):Int) (top:Int) ?_;obtain⟨y1,hy1e⟩:∃ y1,y1=(Aa Y).getD ((Aa Y).length-1) 0:=⟨_,rfl⟩;rw[<-hy1e]at ey hh1 hl0 htop hy1l;refine G.s ((Aa Y).length:Int) 1 (((Aa Y).length-1:Nat):Int) ?_;refine G.a by_ oy (Aa Y).length c' ((Aa Y).length-1) 1 oV ?_;refine G.lU none by_ (oy+((Aa Y).length-1)*1) (.int .i64 (y1:Nat)) ey ?_;refine G.quo (top:Int) (y1:Int) ((top/y1:Nat):Int) kV oV oV oV (A4q _ _).symm ?_;refine G.minI [3,3] 999999999 ((top/y1:Nat):Int) (h1:Int) kV (by rw[hmm,hh1]) ?_;refine G.s ((Aa Y).length:Int) 1 (((Aa Y).length-1:Nat):Int) ?_;refine G.a by_ oy (Aa Y).length c' ((Aa Y).length-1) 1 oV ?_;refine G.lU none by_ (oy+((Aa Y).length-1)*1) (.int .i64 (y1:Nat)) ey ?_;refine G.i y1 ?_;refine G.quo (top:Int) ((y1+1:Nat):Int) ((top/(y1+1):Nat):Int) kV oV oV oV (A4q _ _).symm ?_;refine G.minI [3,3] (h1:Int) ((top/(y1+1):Nat):Int) (l0:Int) kV (by rw[hl0];omega) ?_;refine G.l (ι:=Nat×Nat) (fun i=>[(2,.p 0 0),(3,.p 1 0),(4,.p 2 0),(5,.p 3 0),(6,sV (some ⟨br,orr,none⟩) (Aa R').length c3),(7,sV (some ⟨baq,0,none⟩) lx.length lx.length),(8,iV k),(9,iV i.1),(10,iV i.2)])
     (fun _=>[(0,⟨66,[bV b,sV (some ⟨ba,oa,none⟩) lx.length c]⟩),(1,⟨66,[bV b',sV (some ⟨by_,oy,none⟩) (Aa Y).length c']⟩),(2,⟨66,[bV false,sV none 0 0]⟩),(3,⟨66,[bV false,sV none 0 0]⟩)])
     (fun i _ m'=>Rg Y R' i.1 i.2/\Ae PH.mt m' (.slice (some ⟨baq,0,none⟩) lx.length lx.length) 3 1 (Ag qs)) (fun i=>i.2-i.1) (l0,h1) ⟨hfind,hA⟩ ?_
    clear hfind hA hl0 hh1;rintro J2 ⟨lo,hi2⟩ hJ2 u5 m' hle5 ⟨hf,hA⟩;simp only at hf hA hJ2;have hf1:=hf.a;have hf2:=hf.b;have hf3:=hf.c;by_cases hlt:lo<hi2
    ·refine G.lT (lo:Int) (hi2:Int) ?_;refine G.p (lo:Int) (hi2:Int) ((lo+hi2:Nat):Int) ?_;refine G.p ((lo+hi2:Nat):Int) 1 ((lo+hi2+1:Nat):Int) ?_;obtain⟨mid,hmid⟩:∃ mid,mid=(lo+hi2+1)/2:=⟨_,rfl⟩;refine G.quo ((lo+hi2+1:Nat):Int) 2 (mid:Int) kV oV oV oV oV ?_;refine G.c call231 (Hj (n:=mid) (hiy4.mono hle5) hly oV oV) ?_;intro v6 u6 l6 h6;rw[hY]at h6;obtain⟨a6,c6,rfl,hc6⟩:=h6.opn;have hs6:(Aa (Y*mid)).length<=200000000002:=by
      have h5:=Fp Y mid;have h7:nl mid<=1:=A4 oV;have h8:nl Y=(Aa Y).length:=rfl;have h9:nl (Y*mid)=(Aa (Y*mid)).length:=rfl;omega
     refine G.c call172 (Jb h6 ((hR4.mono hle5).mono l6) (by show (Aa (Y*mid)).length<=_;omega) (by show (Aa R').length<=_;omega)) ?_;rintro v7 u7 l7 rfl;by_cases hle7:Y*mid<=R'
     ·refine G.kT' (sgn (((Y*mid:Nat):Int)-R')) 0 (Ab6 oV) ?_;exact G.b (hJ2 (mid,hi2) _ _ _ cV ((hle5.trans l6).trans l7) ⟨hf.up hYp hle7,hA⟩ dV)
     ·refine G.kF' (sgn (((Y*mid:Nat):Int)-R')) 0 (by rw[B9 oV];decide) ?_;refine G.s (mid:Int) 1 ((mid-1:Nat):Int) ?_;exact G.b (hJ2 (lo,mid-1) _ _ _ cV ((hle5.trans l6).trans l7) ⟨hf.down hYp hle7 oV oV,hA⟩ dV)
    ·obtain rfl:lo=R' / Y:=oV
     refine G.lF ((R' / Y:Nat):Int) (hi2:Int) ?_;refine G.a baq 0 lx.length lx.length k 1 hk ?_;refine G.storeA 1 PH.mt _ baq lx.length lx.length k (.int .i64 ((R' / Y:Nat):Int)) kV hA (by rw[Ah,hst.len];exact hk) rfl rfl ?_;intro m2 hA2;rw[Je]at hA2;by_cases hq0:0<R' / Y
     ·refine G.gT ((R' / Y:Nat):Int) 0 ?_;refine G.c call231 (Hj (n:=R' / Y) (hiy4.mono hle5) hly oV oV) ?_;intro v6 u6 l6 h6;rw[hY]at h6;have hmul:Y*(R' / Y)<=R':=A9t R' Y;obtain⟨a6,c6,rfl,hc6⟩:=h6.opn;refine G.c call173 (Iz ((hR4.mono hle5).mono l6) h6 (Am _) (Am _) oV (D5 hmul) (by rw[Aj,Aj];exact hmul)) ?_;rintro v7 u7 l7 ⟨l,g1,g2,g3,g4⟩;obtain⟨a7,c7,rfl,hc7⟩:=g1.opn;refine G.c call168 (C7 (b:=false) g1 g2 oV) ?_;intro v8 u8 l8 h8;rw[g3,Aj,Aj,show R' - Y*(R' / Y)=R' % Y by have:=A26 R' Y;omega]at h8;obtain⟨b8,a8,n8,c8,rfl,_,_⟩:=h8.opn;refine G.sub (k:Int) 1 ((k:Int)-1) kV rfl oV oV ?_;refine G.b (hJ ((k:Int)-1,R' % Y,qs.set k (R' / Y),.slice a8 n8 c8) _ _ _ cV ((((hle4.trans hle5).trans l6).trans l7).trans l8) ⟨⟨dV,dV⟩,?_,h8.lim,hA2⟩ dV);rw[show (((k:Int)-1)+1).toNat=k by omega];exact hstep
     ·refine G.gF ((R' / Y:Nat):Int) 0 ?_;refine G.sub (k:Int) 1 ((k:Int)-1) kV rfl oV oV ?_;have hm0:R' % Y=R':=by have:=A26 R' Y;rw[show R' / Y=0 by omega,A3n]at this;omega
      rw[hm0]at hstep;refine G.b (hJ ((k:Int)-1,R',qs.set k (R' / Y),.slice (some ⟨br,orr,none⟩) (Aa R').length c3) _ _ _ cV (hle4.trans hle5) ⟨⟨dV,dV⟩,?_,hR4.mono hle5,hA2⟩ dV);rw[show (((k:Int)-1)+1).toNat=k by omega];exact hstep
   ·refine G.gF ((Aa R').length:Int) ((Aa Y).length:Int) ?_;have h0:=Hh (l:=Aa R') (k:=(Aa Y).length) oV;rw[h0,A4p,A3f]at htp;rw[<-htp];obtain⟨y1,hy1e⟩:∃ y1,y1=(Aa Y).getD ((Aa Y).length-1) 0:=⟨_,rfl⟩;rw[<-hy1e]at ey hh1 hl0 htop hy1l;refine G.s ((Aa Y).length:Int) 1 (((Aa Y).length-1:Nat):Int) ?_;refine G.a by_ oy (Aa Y).length c' ((Aa Y).length-1) 1 oV ?_;refine G.lU none by_ (oy+((Aa Y).length-1)*1) (.int .i64 (y1:Nat)) ey ?_;refine G.quo (top:Int) (y1:Int) ((top/y1:Nat):Int) kV oV oV oV (A4q _ _).symm ?_;refine G.minI [3,3] 999999999 ((top/y1:Nat):Int) (h1:Int) kV (by rw[hmm,hh1]) ?_;refine G.s ((Aa Y).length:Int) 1 (((Aa Y).length-1:Nat):Int) ?_;refine G.a by_ oy (Aa Y).length c' ((Aa Y).length-1) 1 oV ?_;refine G.lU none by_ (oy+((Aa Y).length-1)*1) (.int .i64 (y1:Nat)) ey ?_;refine G.i y1 ?_;refine G.quo (top:Int) ((y1+1:Nat):Int) ((top/(y1+1):Nat):Int) kV oV oV oV (A4q _ _).symm ?_;refine G.minI [3,3] (h1:Int) ((top/(y1+1):Nat):Int) (l0:Int) kV (by rw[hl0];omega) ?_;refine G.l (ι:=Nat×Nat) (fun i=>[(2,.p 0 0),(3,.p 1 0),(4,.p 2 0),(5,.p 3 0),(6,sV (some ⟨br,orr,none⟩) (Aa R').length c3),(7,sV (some ⟨baq,0,none⟩) lx.length lx.length),(8,iV k),(9,iV i.1),(10,iV i.2)])
     (fun _=>[(0,⟨66,[bV b,sV (some ⟨ba,oa,none⟩) lx.length c]⟩),(1,⟨66,[bV b',sV (some ⟨by_,oy,none⟩) (Aa Y).length c']⟩),(2,⟨66,[bV false,sV none 0 0]⟩),(3,⟨66,[bV false,sV none 0 0]⟩)])
     (fun i _ m'=>Rg Y R' i.1 i.2/\Ae PH.mt m' (.slice (some ⟨baq,0,none⟩) lx.length lx.length) 3 1 (Ag qs)) (fun i=>i.2-i.1) (l0,h1) ⟨hfind,hA⟩ ?_
    clear hfind hA hl0 hh1;rintro J2 ⟨lo,hi2⟩ hJ2 u5 m' hle5 ⟨hf,hA⟩;simp only at hf hA hJ2;have hf1:=hf.a;have hf2:=hf.b;have hf3:=hf.c;by_cases hlt:lo<hi2
    ·refine G.lT (lo:Int) (hi2:Int) ?_;refine G.p (lo:Int) (hi2:Int) ((lo+hi2:Nat):Int) ?_;refine G.p ((lo+hi2:Nat):Int) 1 ((lo+hi2+1:Nat):Int) ?_;obtain⟨mid,hmid⟩:∃ mid,mid=(lo+hi2+1)/2:=⟨_,rfl⟩;refine G.quo ((lo+hi2+1:Nat):Int) 2 (mid:Int) kV oV oV oV oV ?_;refine G.c call231 (Hj (n:=mid) (hiy4.mono hle5) hly oV oV) ?_;intro v6 u6 l6 h6;rw[hY]at h6;obtain⟨a6,c6,rfl,hc6⟩:=h6.opn;have hs6:(Aa (Y*mid)).length<=200000000002:=by
      have h5:=Fp Y mid;have h7:nl mid<=1:=A4 oV;have h8:nl Y=(Aa Y).length:=rfl;have h9:nl (Y*mid)=(Aa (Y*mid)).length:=rfl;omega
     refine G.c call172 (Jb h6 ((hR4.mono hle5).mono l6) (by show (Aa (Y*mid)).length<=_;omega) (by show (Aa R').length<=_;omega)) ?_;rintro v7 u7 l7 rfl;by_cases hle7:Y*mid<=R'
     ·refine G.kT' (sgn (((Y*mid:Nat):Int)-R')) 0 (Ab6 oV) ?_;exact G.b (hJ2 (mid,hi2) _ _ _ cV ((hle5.trans l6).trans l7) ⟨hf.up hYp hle7,hA⟩ dV)
     ·refine G.kF' (sgn (((Y*mid:Nat):Int)-R')) 0 (by rw[B9 oV];decide) ?_;refine G.s (mid:Int) 1 ((mid-1:Nat):Int) ?_;exact G.b (hJ2 (lo,mid-1) _ _ _ cV ((hle5.trans l6).trans l7) ⟨hf.down hYp hle7 oV oV,hA⟩ dV)
    ·obtain rfl:lo=R' / Y:=oV
     refine G.lF ((R' / Y:Nat):Int) (hi2:Int) ?_;refine G.a baq 0 lx.length lx.length k 1 hk ?_;refine G.storeA 1 PH.mt _ baq lx.length lx.length k (.int .i64 ((R' / Y:Nat):Int)) kV hA (by rw[Ah,hst.len];exact hk) rfl rfl ?_;intro m2 hA2;rw[Je]at hA2;by_cases hq0:0<R' / Y
     ·refine G.gT ((R' / Y:Nat):Int) 0 ?_;refine G.c call231 (Hj (n:=R' / Y) (hiy4.mono hle5) hly oV oV) ?_;intro v6 u6 l6 h6;rw[hY]at h6;have hmul:Y*(R' / Y)<=R':=A9t R' Y;obtain⟨a6,c6,rfl,hc6⟩:=h6.opn;refine G.c call173 (Iz ((hR4.mono hle5).mono l6) h6 (Am _) (Am _) oV (D5 hmul) (by rw[Aj,Aj];exact hmul)) ?_;rintro v7 u7 l7 ⟨l,g1,g2,g3,g4⟩;obtain⟨a7,c7,rfl,hc7⟩:=g1.opn;refine G.c call168 (C7 (b:=false) g1 g2 oV) ?_;intro v8 u8 l8 h8;rw[g3,Aj,Aj,show R' - Y*(R' / Y)=R' % Y by have:=A26 R' Y;omega]at h8;obtain⟨b8,a8,n8,c8,rfl,_,_⟩:=h8.opn;refine G.sub (k:Int) 1 ((k:Int)-1) kV rfl oV oV ?_;refine G.b (hJ ((k:Int)-1,R' % Y,qs.set k (R' / Y),.slice a8 n8 c8) _ _ _ cV ((((hle4.trans hle5).trans l6).trans l7).trans l8) ⟨⟨dV,dV⟩,?_,h8.lim,hA2⟩ dV);rw[show (((k:Int)-1)+1).toNat=k by omega];exact hstep
     ·refine G.gF ((R' / Y:Nat):Int) 0 ?_;refine G.sub (k:Int) 1 ((k:Int)-1) kV rfl oV oV ?_;have hm0:R' % Y=R':=by have:=A26 R' Y;rw[show R' / Y=0 by omega,A3n]at this;omega
      rw[hm0]at hstep;refine G.b (hJ ((k:Int)-1,R',qs.set k (R' / Y),.slice (some ⟨br,orr,none⟩) (Aa R').length c3) _ _ _ cV (hle4.trans hle5) ⟨⟨dV,dV⟩,?_,hR4.mono hle5,hA2⟩ dV);rw[show (((k:Int)-1)+1).toNat=k by omega];exact hstep
  ·refine G.hF' (sgn ((R':Int)-Y)) 0 (by rw[C0 oV];decide) ?_;obtain⟨l0,hl0⟩:∃ l0:Nat,l0=0:=⟨_,rfl⟩;obtain⟨h1,hh1⟩:∃ h1:Nat,h1=0:=⟨_,rfl⟩;have hfind:Rg Y R' 0 0:=by
    have:R' / Y=0:=Nat.div_eq_of_lt oV;exact⟨oV,oV,oV⟩
   refine G.l (ι:=Nat×Nat) (fun i=>[(2,.p 0 0),(3,.p 1 0),(4,.p 2 0),(5,.p 3 0),(6,sV a3 (Aa R').length c3),(7,sV (some ⟨baq,0,none⟩) lx.length lx.length),(8,iV k),(9,iV i.1),(10,iV i.2)])
    (fun _=>[(0,⟨66,[bV b,sV (some ⟨ba,oa,none⟩) lx.length c]⟩),(1,⟨66,[bV b',sV a' (Aa Y).length c']⟩),(2,⟨66,[bV false,sV none 0 0]⟩),(3,⟨66,[bV false,sV none 0 0]⟩)])
    (fun i _ m'=>Rg Y R' i.1 i.2/\Ae PH.mt m' (.slice (some ⟨baq,0,none⟩) lx.length lx.length) 3 1 (Ag qs)) (fun i=>i.2-i.1) (0,0) ⟨hfind,hA⟩ ?_
   clear hfind hA hl0 hh1;rintro J2 ⟨lo,hi2⟩ hJ2 u5 m' hle5 ⟨hf,hA⟩;simp only at hf hA hJ2;have hf1:=hf.a;have hf2:=hf.b;have hf3:=hf.c;by_cases hlt:lo<hi2
   ·refine G.lT (lo:Int) (hi2:Int) ?_;refine G.p (lo:Int) (hi2:Int) ((lo+hi2:Nat):Int) ?_;refine G.p ((lo+hi2:Nat):Int) 1 ((lo+hi2+1:Nat):Int) ?_;obtain⟨mid,hmid⟩:∃ mid,mid=(lo+hi2+1)/2:=⟨_,rfl⟩;refine G.quo ((lo+hi2+1:Nat):Int) 2 (mid:Int) kV oV oV oV oV ?_;refine G.c call231 (Hj (n:=mid) (hiy4.mono hle5) hly oV oV) ?_;intro v6 u6 l6 h6;rw[hY]at h6;obtain⟨a6,c6,rfl,hc6⟩:=h6.opn;have hs6:(Aa (Y*mid)).length<=200000000002:=by
     have h5:=Fp Y mid;have h7:nl mid<=1:=A4 oV;have h8:nl Y=(Aa Y).length:=rfl;have h9:nl (Y*mid)=(Aa (Y*mid)).length:=rfl;omega
    refine G.c call172 (Jb h6 ((hR4.mono hle5).mono l6) (by show (Aa (Y*mid)).length<=_;omega) (by show (Aa R').length<=_;omega)) ?_;rintro v7 u7 l7 rfl;by_cases hle7:Y*mid<=R'
    ·refine G.kT' (sgn (((Y*mid:Nat):Int)-R')) 0 (Ab6 oV) ?_;exact G.b (hJ2 (mid,hi2) _ _ _ cV ((hle5.trans l6).trans l7) ⟨hf.up hYp hle7,hA⟩ dV)
    ·refine G.kF' (sgn (((Y*mid:Nat):Int)-R')) 0 (by rw[B9 oV];decide) ?_;refine G.s (mid:Int) 1 ((mid-1:Nat):Int) ?_;exact G.b (hJ2 (lo,mid-1) _ _ _ cV ((hle5.trans l6).trans l7) ⟨hf.down hYp hle7 oV oV,hA⟩ dV)
   ·obtain rfl:lo=R' / Y:=oV
    refine G.lF ((R' / Y:Nat):Int) (hi2:Int) ?_;refine G.a baq 0 lx.length lx.length k 1 hk ?_;refine G.storeA 1 PH.mt _ baq lx.length lx.length k (.int .i64 ((R' / Y:Nat):Int)) kV hA (by rw[Ah,hst.len];exact hk) rfl rfl ?_;intro m2 hA2;rw[Je]at hA2;by_cases hq0:0<R' / Y
    ·refine G.gT ((R' / Y:Nat):Int) 0 ?_;refine G.c call231 (Hj (n:=R' / Y) (hiy4.mono hle5) hly oV oV) ?_;intro v6 u6 l6 h6;rw[hY]at h6;have hmul:Y*(R' / Y)<=R':=A9t R' Y;obtain⟨a6,c6,rfl,hc6⟩:=h6.opn;refine G.c call173 (Iz ((hR4.mono hle5).mono l6) h6 (Am _) (Am _) oV (D5 hmul) (by rw[Aj,Aj];exact hmul)) ?_;rintro v7 u7 l7 ⟨l,g1,g2,g3,g4⟩;obtain⟨a7,c7,rfl,hc7⟩:=g1.opn;refine G.c call168 (C7 (b:=false) g1 g2 oV) ?_;intro v8 u8 l8 h8;rw[g3,Aj,Aj,show R' - Y*(R' / Y)=R' % Y by have:=A26 R' Y;omega]at h8;obtain⟨b8,a8,n8,c8,rfl,_,_⟩:=h8.opn;refine G.sub (k:Int) 1 ((k:Int)-1) kV rfl oV oV ?_;refine G.b (hJ ((k:Int)-1,R' % Y,qs.set k (R' / Y),.slice a8 n8 c8) _ _ _ cV ((((hle4.trans hle5).trans l6).trans l7).trans l8) ⟨⟨dV,dV⟩,?_,h8.lim,hA2⟩ dV);rw[show (((k:Int)-1)+1).toNat=k by omega];exact hstep
    ·refine G.gF ((R' / Y:Nat):Int) 0 ?_;refine G.sub (k:Int) 1 ((k:Int)-1) kV rfl oV oV ?_;have hm0:R' % Y=R':=by have:=A26 R' Y;rw[show R' / Y=0 by omega,A3n]at this;omega
     rw[hm0]at hstep;refine G.b (hJ ((k:Int)-1,R',qs.set k (R' / Y),.slice a3 (Aa R').length c3) _ _ _ cV (hle4.trans hle5) ⟨⟨dV,dV⟩,?_,hR4.mono hle5,hA2⟩ dV);rw[show (((k:Int)-1)+1).toNat=k by omega];exact hstep
 ·obtain rfl:zi = -1:=oV
  refine G.hF (-1) 0 ?_;refine G.give PH.mt (Ag qs) _ kV hA (fun _=>.inl rfl) ?_;intro u1 l1 hL;have hst:Qc lx Y 0 qs R:=hst;have hq:=hst.quo;have hr:=hst.rest;rw[A41,A41]at hq;rw[A41]at hr;have hRY:R<Y:=by rw[hr];exact A2s _ hYp
  have hRlen:(Aa R).length<=(Aa Y).length:=D5 oV;refine G.neB b b' kV ?_;refine G.c call168 (C7 (b:=!(b==b')) hL hst.low (by rw[hst.len];omega)) ?_;intro v2 u2 l2 h2;rw[hq,hquo]at h2;obtain⟨b2,a2,n2,c2,rfl,_,_⟩:=h2.opn;refine G.c call168 (C7 (b:=b) (hR.mono (l1.trans l2)) (Am R) oV) ?_;intro v3 u3 l3 h3;rw[Aj,hr,hrem]at h3;obtain⟨b3,a3,n3,c3,rfl,_,_⟩:=h3.opn;exact G.r (.tuple #[.agg #[.bool b2,.slice a2 n2 c2],.agg #[.bool b3,.slice a3 n3 c3]]) ⟨rfl,_,_,rfl,h2.mono l3,h3⟩
end
section
variable {k n:Nat}{y z:Int}{ys:List Nat}
section rules
variable {P:Program} [Ba P] {fn:Func} {Post:B0} {st:List KI×S} {u m:PH}
theorem Amf {x y z:Int}(hx:-9223372036854775807<=x)(hx2:x<=9223372036854775807)(hy:0<y)(hz:x.tdiv y=z):-9223372036854775808<=z/\z<=9223372036854775807:=by
 rw[<-hz];rcases A5n x 0 with h|h
 ·obtain⟨k,rfl⟩:∃ k:Int,x = -k:=⟨-x,oV⟩;rw[A64,A31 oV];have h1:=A77 (a:=k) (b:=y) oV oV;have h2:=A88 (a:=k) y oV;omega
 ·rw[A31 h];have h1:=A77 (a:=x) (b:=y) h oV;have h2:=A88 (a:=x) y h;omega
theorem G.quoT (x y z:Int)(h:Al P (adv P st)=.bin .quo (.int .i64 x) (.int .i64 y))(hx:-9223372036854775807<=x)(hx2:x<=9223372036854775807)(hy:0<y)(hz:x.tdiv y=z)
 (k:G P fn Post (nx (adv P st) (.int .i64 z)) u m):G P fn Post st u m:=by
 refine G.bin _ h Cy (fun t w=>?_) k;have hb:=Amf hx hx2 hy hz;have h4:¬ y=0:=oV
 simp[binOp,Op.intDiv,h4,hz,Cl hb.1 hb.2]
theorem G.remT (x y z:Int)(h:Al P (adv P st)=.bin .rem (.int .i64 x) (.int .i64 y))(hy:0<y)(hz:x.tmod y=z)(h1:-9223372036854775808<=z)(h2:z<=9223372036854775807)
 (k:G P fn Post (nx (adv P st) (.int .i64 z)) u m):G P fn Post st u m:=by
 refine G.bin _ h Cy (fun t w=>?_) k;have h4:¬ y=0:=oV
 simp[binOp,Op.intDiv,h4,hz,Cl h1 h2]
end rules
theorem Cn.nonneg {u:PH}{v:Value}(h:Cn u v (k:Int)):∃ a n c,v=.agg #[.bool false,.slice a n c]/\B7 u (.slice a n c) (Aa k):=by
 obtain⟨a,n,c,h1,h2⟩:=h;rw[decide_eq_false oV]at h1;exact⟨a,n,c,h1,h2⟩
theorem V2 {u:PH}{x x':Value}(hx:Cn u x y)(hx':Cn u x' z)(sy:nl y.natAbs<=100000000000)(sz:nl z.natAbs<=100000000000) :
 Fn0 prog 167 [x,x'] u fun v u'=>Cn u' v (A2p y.natAbs z.natAbs:Nat):=by
 obtain⟨b,a,n,c,rfl,hb,hi⟩:=hx.opn;obtain⟨b',a',n',c',rfl,hb',hi'⟩:=hx'.opn;refine Fn0.o func167 ?_;refine G.l (ι:=(Nat×Nat)×(Option Addr×Nat×Nat)×(Option Addr×Nat×Nat)) (fun _=>[(2,.p 0 0),(3,.p 1 0),(4,.p 2 0)])
  (fun i=>[(0,⟨66,[bV false,sV i.2.1.1 i.2.1.2.1 i.2.1.2.2]⟩),(1,⟨66,[bV false,sV i.2.2.1 i.2.2.2.1 i.2.2.2.2]⟩),(2,⟨66,[bV false,sV none 0 0]⟩)])
  (fun i u' m'=>(A2p i.1.1 i.1.2=A2p y.natAbs z.natAbs/\nl i.1.1<=100000000000/\nl i.1.2<=100000000000)/\B7 u' (.slice i.2.1.1 i.2.1.2.1 i.2.1.2.2) (Aa i.1.1)/\B7 u' (.slice i.2.2.1 i.2.2.2.1 i.2.2.2.2) (Aa i.1.2)/\m'=PH.mt) (fun i=>i.1.2)
  ((y.natAbs,z.natAbs),(a,n,c),(a',n',c')) ⟨⟨rfl,sy,sz⟩,hi,hi',rfl⟩ ?_
 clear hi hi' hx hx';rintro J ⟨⟨p,q⟩,⟨a,n,c⟩,⟨a',n',c'⟩⟩ hJ u' m' hle ⟨⟨hg,sp,sq⟩,hi,hi',rfl⟩;simp only at hg sp sq hi hi' hJ;obtain⟨rfl,_⟩:=hi.len;obtain⟨rfl,_⟩:=hi'.len;have sp':(Aa p).length<=100000000000:=sp;have sq':(Aa q).length<=100000000000:=sq;by_cases h0:0<(Aa q).length
 ·have hq:=Ce.1 h0;refine G.gT ((Aa q).length:Int) 0 ?_;have hP:Cn u' (.agg #[.bool false,.slice a (Aa p).length c]) (p:Int):=⟨_,_,_,by rw[decide_eq_false oV],hi⟩;have hQ:Cn u' (.agg #[.bool false,.slice a' (Aa q).length c']) (q:Int):=⟨_,_,_,by rw[decide_eq_false oV],hi'⟩;refine G.c call169 (Nn hP hQ sp sq oV) ?_;rintro v1 u1 l1 ⟨va,vb,rfl,h1,h2⟩;rw[Lh]at h2;obtain⟨b1,a1,n1,c1,rfl,_,_⟩:=h1.opn;obtain⟨a2,n2,c2,rfl,h3⟩:=h2.nonneg;exact G.b (hJ ((q,p%q),(a',(Aa q).length,c'),(a2,n2,c2)) _ _ _ cV (hle.trans l1) ⟨⟨by dsimp only;rw[A87 q,<-Nat.gcd_rec,A87];exact hg,sq,A0q (C6 (A62 (A2s _ hq))) sq⟩,hi'.mono l1,h3,rfl⟩ (A2s _ hq))
 ·have hq:q=0:=by
   rcases A1p q with h|h
   ·exact h
   ·exact absurd (Ce.2 h) h0
  subst hq;refine G.gF ((Aa 0).length:Int) 0 ?_;rw[A8o]at hg;exact G.r (.agg #[.bool false,.slice a (Aa p).length c]) ⟨rfl,by rw[<-hg];exact⟨_,_,_,by rw[decide_eq_false oV],hi⟩⟩
structure Wa (n k:Nat)(ys:List Nat):Prop where
 low:Low ys
 sum:n=val ys+1000000000^ys.length*k
 top:ys≠[]->k=0->0<ys.getD (ys.length-1) 0
theorem Wa.start (n:Nat):Wa n n []:=⟨Low.nil,by simp[val],fun h=>absurd rfl h⟩
theorem Wa.step (h:Wa n k ys)(hk:k≠0):Wa n (k/1000000000) (ys++[k%1000000000]):=by
 refine⟨h.low.append (Low.cons oV Low.nil),?_,fun _ h0=>?_⟩
 ·have:=h.sum;rw[Hp,A0z,A2o,A16,A28,Gy];exact this
 ·rw[A0z,A2o,A5l,A0o,A1s (A0w _)];simp;omega
theorem Ajd {l:List Nat}(h:l = []\/0<l.getD (l.length-1) 0):Bj l l.length=l.length:=by
 rcases h with rfl|h
 ·rfl
 ·cases hl:l.length with
  |zero=>rfl
  |succ n=>rw[hl]at h;simp only[A5l]at h;simp only[Bj];rw[if_neg oV]
theorem Wa.done (h:Wa n 0 ys):ys=Aa n:=by
 have hs:=h.sum;rw[A3n,A3f]at hs;rw[hs,Hl h.low,Ajd,List.take_length];by_cases he:ys = []
 ·exact .inl he
 ·exact .inr (h.top he rfl)
theorem Vp (b:Bool)(k:Nat):(Bp b k).tmod 1000000000=Bp b (k%1000000000):=by
 unfold Bp;cases b
 ·exact Lh k 1000000000
 ·show (-(k:Int)).tmod 1000000000 = -((k%1000000000:Nat):Int);rw[Bcj];exact congrArg _ (Lh k 1000000000)
theorem Ut (b:Bool)(k:Nat):(Bp b k).tdiv 1000000000=Bp b (k/1000000000):=by
 unfold Bp;cases b
 ·exact I7 k 1000000000
 ·show (-(k:Int)).tdiv 1000000000 = -((k/1000000000:Nat):Int);rw[A64];exact congrArg _ (I7 k 1000000000)
theorem Te {u:PH}{n:Int}(h1:-9223372036854775807<=n)(h2:n<=9223372036854775807) :
 Fn0 prog 79 [.int .i64 n] u fun v u'=>Cn u' v n:=by
 refine Fn0.o func79 ?_;have key:∀ b:Bool,b=decide (n<0)->G prog Tryz.f79 ⟨fun v u' m'=>m'=PH.mt/\Cn u' v n,PH.mt⟩ (nx (adv prog (st0 Tryz.f79 [.int .i64 n])) (.bool b)) u PH.mt:=by
  intro b hb;have hn:=Po n;rw[<-hb]at hn;refine G.loop (ι:=Nat×List Nat×(Option Addr×Nat×Nat)) (fun i=>[(2,.p 0 0),(3,.p 1003 0),(0,iV (Bp b i.1))])
   (fun i=>[(0,⟨66,[bV false,sV none 0 0]⟩),(1003,⟨66,[bV b,sV i.2.2.1 i.2.2.2.1 i.2.2.2.2]⟩)])
   (fun i u' m'=>(i.1<=9223372036854775807/\(i.1≠0->i.2.1.length<=3)/\i.2.1.length<=4/\i.1*1000000000^i.2.1.length<=9223372036854775807)/\Wa n.natAbs i.1 i.2.1/\Ae PH.mt m' (.slice i.2.2.1 i.2.2.2.1 i.2.2.2.2) 3 1 (Ag i.2.1)) (fun i=>i.1) (n.natAbs,[],(none,0,0)) kV (fun _=>kV) ⟨kV,by rw[hn];kernel_rfl,kV⟩ ⟨⟨dV,mV,mV,gV⟩,Wa.start _,Ae.nil _ _ _⟩ ?_
  rintro J ⟨k,ys,⟨a,ny,c⟩⟩ hJ u' m' hle ⟨⟨hk,hk2,hk3,hk4⟩,hst,hA⟩;simp only at hk hk2 hk3 hk4 hst hA hJ;have hys:=hA.len;rw[Ah]at hys;have hsk:-9223372036854775807<=Bp b k/\Bp b k<=9223372036854775807:=by unfold Bp;split<;>omega
  by_cases h0:k=0
  ·subst h0;refine G.nF' (Bp b 0) 0 (by unfold Bp;split<;>simp) ?_
   refine G.give PH.mt (Ag ys) _ kV hA (fun _=>.inl rfl) ?_;intro u1 l1 hL;refine G.r (.agg #[.bool b,.slice a ny c]) ⟨rfl,a,ny,c,by rw[hb],?_⟩;rw[<-hst.done];exact hL
  ·have hlt3:=hk2 h0;refine G.nT' (Bp b k) 0 (by unfold Bp;split<;>omega) ?_
   have hnext:(k/1000000000<=9223372036854775807/\(k/1000000000≠0->(ys++[k%1000000000]).length<=3)/\(ys++[k%1000000000]).length<=4/\k/1000000000*1000000000^(ys++[k%1000000000]).length<=9223372036854775807):=by
    have e4:k/1000000000*1000000000^(ys.length+1)<=9223372036854775807:=by
     rw[A16,A10 (1000000000^ys.length),<-A1x];exact A0q (A12 _ (A6s _ _)) hk4
    refine⟨oV,fun hne=>?_,gV,by simpa using e4⟩;rcases A11 ys.length 3 with h|h
    ·simp;omega
    ·exfalso;have:ys.length=3:=oV
     rw[this]at e4;have h1:1*1000000000^(3+1)<=k/1000000000*1000000000^(3+1):=A12 _ oV;have h2:(9223372036854775807:Nat)<1*1000000000^(3+1):=fV
     omega
   by_cases hb2:b=true/\k%1000000000≠0
   ·obtain⟨hbt,hm⟩:=hb2;refine G.remT (Bp b k) 1000000000 (-((k%1000000000:Nat):Int)) kV oV (by rw[Vp,hbt];rfl) oV oV ?_;refine G.lT (-((k%1000000000:Nat):Int)) 0 ?_;refine G.neg (-((k%1000000000:Nat):Int)) ((k%1000000000:Nat):Int) kV oV oV oV ?_;refine G.B 3 1 8 (.int .i64 0) [.int .i64 ((k%1000000000:Nat):Int)] (Ax [k%1000000000]) ?_;intro g u1 l1 e1;refine G.append 3 1 8 (.int .i64 0) PH.mt (Ag ys) [.int .i64 ((k%1000000000:Nat):Int)] (.slice a ny c) g 0 1 1 kV rfl rfl oV hA e1 (Ax [k%1000000000]) rfl oV (by rw[Ah];omega) (by rw[Ah];omega) ?_;intro v2 m2 hA2;rw[Cj]at hA2;obtain⟨a2,c2,rfl⟩:=hA2.shape;refine G.quoT (Bp b k) 1000000000 (Bp b (k/1000000000)) kV oV oV oV (Ut b k) ?_;exact G.b (hJ (k/1000000000,ys++[k%1000000000],(a2,(Ag (ys++[k%1000000000])).length,c2)) _ _ _ cV (hle.trans l1) ⟨hnext,hst.step h0,hA2⟩ dV)
   ·refine G.remT (Bp b k) 1000000000 ((k%1000000000:Nat):Int) kV oV (by rw[Vp];unfold Bp;split<;>simp_all) oV oV ?_
    refine G.lF ((k%1000000000:Nat):Int) 0 ?_;refine G.B 3 1 8 (.int .i64 0) [.int .i64 ((k%1000000000:Nat):Int)] (Ax [k%1000000000]) ?_;intro g u1 l1 e1;refine G.append 3 1 8 (.int .i64 0) PH.mt (Ag ys) [.int .i64 ((k%1000000000:Nat):Int)] (.slice a ny c) g 0 1 1 kV rfl rfl oV hA e1 (Ax [k%1000000000]) rfl oV (by rw[Ah];omega) (by rw[Ah];omega) ?_;intro v2 m2 hA2;rw[Cj]at hA2;obtain⟨a2,c2,rfl⟩:=hA2.shape;refine G.quoT (Bp b k) 1000000000 (Bp b (k/1000000000)) kV oV oV oV (Ut b k) ?_;exact G.b (hJ (k/1000000000,ys++[k%1000000000],(a2,(Ag (ys++[k%1000000000])).length,c2)) _ _ _ cV (hle.trans l1) ⟨hnext,hst.step h0,hA2⟩ dV)
 by_cases hneg:n<0
 ·exact G.lssT n 0 kV hneg (key true (by simpa using hneg))
 ·exact G.lssF n 0 kV hneg (key false (by simpa using hneg))
end
section
variable {k:Nat}{q r:Rat}{u:PH}{x x':Value}{y z:Int}
def QP (u:PH)(v:Value)(q:Rat):Prop :=
 ∃ a n c a' n' c',v=.agg #[.bool (decide (q.num<0)),.slice a n c,.bool false,.slice a' n' c']/\B7 u (.slice a n c) (Aa q.num.natAbs)/\B7 u (.slice a' n' c') (Aa q.den)
theorem QP.mono {u u':PH}{v:Value}{q:Rat}(h:QP u v q)(hl:PH.le u u'):QP u' v q:=by
 obtain⟨a,n,c,a',n',c',h1,h2,h3⟩:=h;exact⟨a,n,c,a',n',c',h1,h2.mono hl,h3.mono hl⟩
theorem QP.opn {v:Value}(h:QP u v q):∃ b a n c a' n' c',v=.agg #[.bool b,.slice a n c,.bool false,.slice a' n' c']/\b=decide (q.num<0)/\Cn u (.agg #[.bool b,.slice a n c]) q.num/\Cn u (.agg #[.bool false,.slice a' n' c']) (q.den:Int):=by
 obtain⟨a,n,c,a',n',c',rfl,h2,h3⟩:=h;exact⟨_,a,n,c,a',n',c',rfl,rfl,⟨a,n,c,rfl,h2⟩,⟨a',n',c',by rw[decide_eq_false oV],h3⟩⟩
theorem QP.mk {u:PH}{q:Rat}{y z:Int}{b b':Bool}{a a':Option Addr}{n c n' c':Nat}(h1:Cn u (.agg #[.bool b,.slice a n c]) y)(h2:Cn u (.agg #[.bool b',.slice a' n' c']) z)(hy:q.num=y)(hz:(q.den:Int)=z) :
 QP u (.agg #[.bool b,.slice a n c,.bool b',.slice a' n' c']) q:=by
 obtain⟨_,_,_,e1,i1⟩:=h1;obtain⟨_,_,_,e2,i2⟩:=h2;subst hy hz;rw[decide_eq_false oV]at e2;simp only[A33,A3z,A18,A4o,A09,and_true]at e1 e2;obtain⟨rfl,rfl,rfl,rfl⟩:=e1;obtain⟨rfl,rfl,rfl,rfl⟩:=e2;exact⟨_,_,_,_,_,_,rfl,i1,i2⟩
theorem Sw (y:Int)(z:Nat):y.tdiv (A2p y.natAbs z:Nat)=y/(A2p y.natAbs z:Nat):=by
 apply A9f;exact Ban.2 (Nat.gcd_dvd_left _ _)
theorem Ab0 (y:Nat)(z:Int):z.tdiv (A2p y z.natAbs:Nat)=z/(A2p y z.natAbs:Nat):=by
 apply A9f;exact Ban.2 (Nat.gcd_dvd_right _ _)
theorem Ju (hz:0<z):(A2m y z).num=y.tdiv (A2p y.natAbs z.natAbs:Nat)/\((A2m y z).den:Int)=z.tdiv (A2p y.natAbs z.natAbs:Nat)/\0<z.tdiv (A2p y.natAbs z.natAbs:Nat):=by
 have h:=Rz (y:=y) hz rfl;have e:z=((z.natAbs:Nat):Int):=oV
 have h3:((A2m y z).den:Int)=z.tdiv (A2p y.natAbs z.natAbs:Nat):=by
  rw[h.2,Ab0,A4q];congr 1;exact e.symm
 refine⟨by rw[h.1,Sw],h3,?_⟩;rw[<-h3];have:=(A2m y z).den_pos;omega
theorem Alo (hz:z<0):(A2m y z).num = -(y.tdiv (A2p y.natAbs z.natAbs:Nat))/\((A2m y z).den:Int) = -(z.tdiv (A2p y.natAbs z.natAbs:Nat))/\z.tdiv (A2p y.natAbs z.natAbs:Nat)<0:=by
 have h:=Ju (y:=-y) (z:=-z) oV;rw[K1,A3b,A3b,A64,A64]at h;exact⟨h.1,h.2.1,oV⟩
theorem Q3 {g k:Nat}(h:nl y.natAbs<=k):nl (y.tdiv g).natAbs<=k:=by
 refine A0q (C6 ?_) h;rw[Int.natAbs_tdiv];exact A3v _ _
theorem Pq (h1:-9223372036854775807<=z)(h2:z<=9223372036854775807):Fn0 prog 27 [.int .i64 z] u fun v u'=>QP u' v (z:Rat):=by
 refine Fn0.o func27 ?_;refine G.c call79 (Te h1 h2) ?_;intro v1 u1 l1 k1;obtain⟨b1,a1,n1,c1,rfl,_,_⟩:=k1.opn;refine G.c call79 (Te (n:=1) oV oV) ?_;intro v2 u2 l2 k2;obtain⟨b2,a2,n2,c2,rfl,_,_⟩:=k2.opn;exact G.r (.agg #[.bool b1,.slice a1 n1 c1,.bool b2,.slice a2 n2 c2]) ⟨rfl,QP.mk (k1.mono l2) k2 rfl rfl⟩
theorem Q1 (hx:Cn u x y)(hx':Cn u x' z)(sy:nl y.natAbs<=100000000000)(sz:nl z.natAbs<=100000000000)(hz:z≠0) :
 Fn0 prog 84 [x,x'] u fun v u'=>QP u' v (A2m y z):=by
 obtain⟨b,a,n,c,rfl,_,_⟩:=hx.opn;obtain⟨b',a',n',c',rfl,_,hi'⟩:=hx'.opn;obtain⟨rfl,_⟩:=hi'.len;have sz':(Aa z.natAbs).length<=100000000000:=sz;have hzp:0<(Aa z.natAbs).length:=Ce.2 oV;have hg0:0<A2p y.natAbs z.natAbs:=A63 _ oV;have hgs:nl (A2p y.natAbs z.natAbs)<=100000000000:=A0q (C6 (Bbj _ oV)) sz;refine Fn0.o func84 ?_;refine G.eF ((Aa z.natAbs).length:Int) 0 ?_;refine G.c call167 (V2 hx hx' sy sz) ?_;intro v1 u1 l1 k1;obtain⟨b1,a1,n1,c1,rfl,_,_⟩:=k1.opn;refine G.c call169 (Nn (hx.mono l1) k1 sy (by simpa using hgs) oV) ?_;rintro v2 u2 l2 ⟨va,vb,rfl,k2,k2'⟩;obtain⟨b2,a2,n2,c2,rfl,_,_⟩:=k2.opn;obtain⟨b3,a3,n3,c3,rfl,_,_⟩:=k2'.opn;refine G.c call169 (Nn (hx'.mono (l1.trans l2)) (k1.mono l2) sz (by simpa using hgs) oV) ?_;rintro v4 u4 l4 ⟨va,vb,rfl,k4,k4'⟩;obtain⟨b4,a4,n4,c4,rfl,hb4,_⟩:=k4.opn;obtain⟨b5,a5,n5,c5,rfl,_,_⟩:=k4'.opn;have k2:=k2.mono l4;rcases Int.lt_or_gt_of_ne hz with hn|hp
 ·obtain⟨e1,e2,e3⟩:=Alo (y:=y) hn;rw[decide_eq_true e3]at hb4;subst hb4;refine G.c call170 (Pn k2 (A0q (Q3 sy) oV)) ?_;intro v6 u6 l6 k6;obtain⟨b6,a6,n6,c6,rfl,_,_⟩:=k6.opn;refine G.c call170 (Pn (k4.mono l6) (A0q (Q3 sz) oV)) ?_;intro v7 u7 l7 k7;obtain⟨b7,a7,n7,c7,rfl,_,_⟩:=k7.opn;exact G.r (.agg #[.bool b6,.slice a6 n6 c6,.bool b7,.slice a7 n7 c7]) ⟨rfl,QP.mk (k6.mono l7) k7 e1 e2⟩
 ·obtain⟨e1,e2,e3⟩:=Ju (y:=y) hp;rw[decide_eq_false oV]at hb4;subst hb4;exact G.r (.agg #[.bool b2,.slice a2 n2 c2,.bool false,.slice a4 n4 c4]) ⟨rfl,QP.mk k2 k4 e1 e2⟩
theorem Lm (h:QP u x q)(hs:nl q.num.natAbs<=100000000000):Fn0 prog 141 [x] u fun v u'=>v=.bool (decide (q.num=0)):=by
 obtain⟨b,a,n,c,a',n',c',rfl,hb,h1,h2⟩:=h.opn;obtain⟨_,_,_,e1,hi⟩:=h1;simp only[A33,A3z,A18,A4o,A09,and_true]at e1;obtain⟨_,rfl,rfl,rfl⟩:=e1;obtain⟨rfl,_⟩:=hi.len;have hs':(Aa q.num.natAbs).length<=100000000000:=hs;have hp:=Ce (n:=q.num.natAbs);refine Fn0.o func141 ?_;by_cases h0:q.num=0
 ·refine G.eT' ((Aa q.num.natAbs).length:Int) 0 (by rw[h0];simp[Bd]) ?_;exact G.r (.bool true) ⟨rfl,by simp[h0]⟩
 ·have h3:0<(Aa q.num.natAbs).length:=hp.2 oV;refine G.eF ((Aa q.num.natAbs).length:Int) 0 ?_;exact G.r (.bool false) ⟨rfl,by simp[h0]⟩
theorem Yn (h:QP u x q)(hs:nl q.num.natAbs<=100000000000):Fn0 prog 94 [x] u fun v u'=>v=.int .i64 (sgn q.num):=by
 obtain⟨b,a,n,c,a',n',c',rfl,hb,h1,h2⟩:=h.opn;refine Fn0.o func94 ?_;by_cases hn:q.num<0
 ·rw[decide_eq_true hn]at hb;subst hb;exact G.r (.int .i64 (-1)) ⟨rfl,by simp[sgn,hn]⟩
 ·rw[decide_eq_false hn]at hb;subst hb;refine G.c call141 (Lm h hs) ?_;rintro v1 u1 l1 rfl;by_cases h0:q.num=0
  ·rw[decide_eq_true h0];exact G.r (.int .i64 0) ⟨rfl,by simp[sgn,h0]⟩
  ·rw[decide_eq_false h0];exact G.r (.int .i64 1) ⟨rfl,by simp[sgn,hn];omega⟩
theorem Wg (q r:Rat):A2m (q.num*(r.den:Int)-r.num*(q.den:Int)) ((q.den:Int)*(r.den:Int))=q-r:=by
 have h:=Nx q (-r);rw[A9p,A9q,Int.neg_mul,<-A59]at h;rw[h,A8p]
theorem Ac9 (h1:nl y.natAbs<=k)(h2:nl z.natAbs<=k):nl (y-z).natAbs<=k+1:=by
 rw[A59];exact Nq h1 (by rw[A3b];exact h2)
theorem Eo (hx:QP u x q)(hx':QP u x' r)(s1:Sz q 10000000000)(s2:Sz r 10000000000) :
 Fn0 prog 34 [x,x'] u fun v u'=>QP u' v (q*r):=by
 obtain⟨b,a,n,c,a',n',c',rfl,_,hn,hd⟩:=hx.opn;obtain⟨b2,a2,n2,c2,a2',n2',c2',rfl,_,hn2,hd2⟩:=hx'.opn;refine Fn0.o func34 ?_;refine G.c call85 (En hn hn2 (A0q s1.1 oV) (A0q s2.1 oV)) ?_;intro v3 u3 l3 k3;obtain⟨b3,a3,n3,c3,rfl,_,_⟩:=k3.opn;refine G.c call85 (En (hd.mono l3) (hd2.mono l3) (A0q s1.2 oV) (A0q s2.2 oV)) ?_;intro v4 u4 l4 k4;obtain⟨b4,a4,n4,c4,rfl,_,_⟩:=k4.opn;refine G.c call84 (Q1 (k3.mono l4) k4 (A0q (Bl s1.1 s2.1) oV) (A0q (Bl (k:=10000000000) (by simpa using s1.2) (by simpa using s2.2)) oV) (Tf q r)) ?_;intro v5 u5 l5 k5;rw[Wf]at k5;obtain⟨b5,a5,n5,c5,a5',n5',c5',rfl,_⟩:=k5.opn;exact G.r (.agg #[.bool b5,.slice a5 n5 c5,.bool false,.slice a5' n5' c5']) ⟨rfl,k5⟩
theorem Lw (hx:QP u x q)(hx':QP u x' r)(s1:Sz q 10000000000)(s2:Sz r 10000000000) :
 Fn0 prog 33 [x,x'] u fun v u'=>QP u' v (q+r):=by
 obtain⟨b,a,n,c,a',n',c',rfl,_,hn,hd⟩:=hx.opn;obtain⟨b2,a2,n2,c2,a2',n2',c2',rfl,_,hn2,hd2⟩:=hx'.opn;have d1:nl ((q.den:Int)).natAbs<=10000000000:=by simpa using s1.2
 have d2:nl ((r.den:Int)).natAbs<=10000000000:=by simpa using s2.2
 refine Fn0.o func33 ?_;refine G.c call85 (En hn hd2 (A0q s1.1 oV) (A0q d2 oV)) ?_;intro v3 u3 l3 k3;obtain⟨b3,a3,n3,c3,rfl,_,_⟩:=k3.opn;refine G.c call85 (En (hn2.mono l3) (hd.mono l3) (A0q s2.1 oV) (A0q d1 oV)) ?_;intro v4 u4 l4 k4;obtain⟨b4,a4,n4,c4,rfl,_,_⟩:=k4.opn;refine G.c call87 (Adg (k3.mono l4) k4 (A0q (Bl s1.1 d2) oV) (A0q (Bl s2.1 d1) oV)) ?_;intro v6 u6 l6 k6;obtain⟨b6,a6,n6,c6,rfl,_,_⟩:=k6.opn;refine G.c call85 (En (hd.mono ((l3.trans l4).trans l6)) (hd2.mono ((l3.trans l4).trans l6)) (A0q d1 oV) (A0q d2 oV)) ?_;intro v7 u7 l7 k7;obtain⟨b7,a7,n7,c7,rfl,_,_⟩:=k7.opn;refine G.c call84 (Q1 (k6.mono l7) k7 (A0q (Nq (Bl s1.1 d2) (Bl s2.1 d1)) oV) (A0q (Bl d1 d2) oV) (Tf q r)) ?_;intro v5 u5 l5 k5;rw[Nx]at k5;obtain⟨b5,a5,n5,c5,a5',n5',c5',rfl,_⟩:=k5.opn;exact G.r (.agg #[.bool b5,.slice a5 n5 c5,.bool false,.slice a5' n5' c5']) ⟨rfl,k5⟩
theorem Wu (hx:QP u x q)(hx':QP u x' r)(s1:Sz q 10000000000)(s2:Sz r 10000000000) :
 Fn0 prog 32 [x,x'] u fun v u'=>QP u' v (q-r):=by
 obtain⟨b,a,n,c,a',n',c',rfl,_,hn,hd⟩:=hx.opn;obtain⟨b2,a2,n2,c2,a2',n2',c2',rfl,_,hn2,hd2⟩:=hx'.opn;have d1:nl ((q.den:Int)).natAbs<=10000000000:=by simpa using s1.2
 have d2:nl ((r.den:Int)).natAbs<=10000000000:=by simpa using s2.2
 refine Fn0.o func32 ?_;refine G.c call85 (En hn hd2 (A0q s1.1 oV) (A0q d2 oV)) ?_;intro v3 u3 l3 k3;obtain⟨b3,a3,n3,c3,rfl,_,_⟩:=k3.opn;refine G.c call85 (En (hn2.mono l3) (hd.mono l3) (A0q s2.1 oV) (A0q d1 oV)) ?_;intro v4 u4 l4 k4;obtain⟨b4,a4,n4,c4,rfl,_,_⟩:=k4.opn;refine G.c call86 (Ala (k3.mono l4) k4 (A0q (Bl s1.1 d2) oV) (A0q (Bl s2.1 d1) oV)) ?_;intro v6 u6 l6 k6;obtain⟨b6,a6,n6,c6,rfl,_,_⟩:=k6.opn;refine G.c call85 (En (hd.mono ((l3.trans l4).trans l6)) (hd2.mono ((l3.trans l4).trans l6)) (A0q d1 oV) (A0q d2 oV)) ?_;intro v7 u7 l7 k7;obtain⟨b7,a7,n7,c7,rfl,_,_⟩:=k7.opn;refine G.c call84 (Q1 (k6.mono l7) k7 (A0q (Ac9 (Bl s1.1 d2) (Bl s2.1 d1)) oV) (A0q (Bl d1 d2) oV) (Tf q r)) ?_;intro v5 u5 l5 k5;rw[Wg]at k5;obtain⟨b5,a5,n5,c5,a5',n5',c5',rfl,_⟩:=k5.opn;exact G.r (.agg #[.bool b5,.slice a5 n5 c5,.bool false,.slice a5' n5' c5']) ⟨rfl,k5⟩
end
end Go.Proofs.YtanfagpabkdmiaaGreatDoor
