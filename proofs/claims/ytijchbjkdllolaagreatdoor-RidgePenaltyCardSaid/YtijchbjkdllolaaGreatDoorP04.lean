/- Parts of one proof, joined by a program. -/
import Derived.Test.YtijchbjkdllolaaGreatDoorP03
set_option linter.defProp false
set_option linter.unusedVariables false
set_option linter.unusedSimpArgs false
set_option linter.unusedSectionVars false
set_option maxHeartbeats 16000000
namespace Go.Proofs.YtijchbjkdllolaaGreatDoor
open Go.Proofs.Tryz
open Go.RowKit
def A16:=@Nat.div_le_self
def A7a:=@Nat.gcd_zero_right
def A1p:=@Int.natAbs_neg
def A4q:=@Int.sub_eq_add_neg
def A76:=@Rat.neg_num
def A77:=@Rat.neg_den
def A5m:=@Nat.gcd_pos_of_pos_right
def A23:=@Int.natCast_ediv
def A5n:=@Rat.sub_eq_add_neg
def A0u:=@List.length_singleton
def Ayt:=@List.length_map
def A37:=@List.getElem?_set_ne
def A6t:=@List.set_append_left
def A6u:=@List.replicate_succ'
def A3z:=@Int.lt_or_le
def A5o:=@Int.neg_tdiv
def A8a:=@Nat.mul_div_le
section
variable {a:Option Addr}{b neg:Bool}{c n:Nat}{l:List Nat}{q:Rat}{y z:Int}
section
variable [Cc] {P:Program} [A5 P] {fn:Func} {Post:By} {st:List KI×S} {u m:PH}
def Apg (e:0<=z)(f:z<18446744073709551616):IntKind.u64.wrap z=z:=by
 simp only[IntKind.wrap,IntKind.signed,IntKind.bits];simp;omega
def G.quoW (x y z:Nat)(h:Aj P (adv P st)=.bin .quo (.int .u64 (x:Int)) (.int .u64 (y:Int)))(e:x/y=z)(A:x<18446744073709551616)(C:0<y)(k:G P fn Post (nx (adv P st) (.int .u64 (z:Int))) u m):G P fn Post st u m:=by
 refine G.bin _ h Cp (fun t w=>?_) k;have j:z<=x:=by rw[<-e];exact A16 _ _
 have f:(x:Int).tdiv y=z:=by rw[A2a oV,<-e];rfl
 have g:¬ y=0:=oV
 simp[binOp,Op.intDiv,g,f,Apg (z:=(z:Int)) oV oV]
def G.remW (x y z:Nat)(h:Aj P (adv P st)=.bin .rem (.int .u64 (x:Int)) (.int .u64 (y:Int)))(e:x%y=z)(A:x<18446744073709551616)(C:0<y)(k:G P fn Post (nx (adv P st) (.int .u64 (z:Int))) u m):G P fn Post st u m:=by
 refine G.bin _ h Cp (fun t w=>?_) k;have j:z<=x:=by rw[<-e];exact Nat.mod_le _ _
 have f:(x:Int).tmod y=z:=by rw[A2o oV,<-e];rfl
 have g:¬ y=0:=oV
 simp[binOp,Op.intDiv,g,f,Apg (z:=(z:Int)) oV oV]
def G.negW (x z:Int)(h:Aj P (adv P st)=.un .neg (.int .u64 x))(E:IntKind.u64.wrap (-x)=z)(k:G P fn Post (nx (adv P st) (.int .u64 z)) u m):G P fn Post st u m:=by
 refine G.ask h mV (fun D o e w hp=>?_) k;obtain⟨t,X,g,C⟩:=Akd e;obtain⟨A,F,j,pos,after,f⟩:=o;simp only at g;subst g;simp[execOp,Op.unary,C,Op.intArith,E]
end
section
variable {u:PH} {x x':Value}
def Aim {m n:Nat}(h:C6 u x m)(e:C6 u x' n)(f:nl m<=10000000000000)(sb:nl n<=10000000000000):Fn0 prog 177 [x,x'] u fun v g=>C6 g v (m+n) :=
 Fn0.ofW (fun v w=>Cu w v (m+n)) (fun w hp=>Af5 x x' m n w (h.toW hp) (e.toW hp) f sb) (fun _ _ _ h _ c _=>C6.ofW h c)
def Aas {m n:Nat}(h:C6 u x m)(f:C6 u x' n)(g:nl m<=10000000000000)(e:n<=m):Fn0 prog 179 [x,x'] u fun v j=>C6 j v (m-n) :=
 Fn0.ofW (fun v w=>Cu w v (m-n)) (fun w hp=>Ahl x x' m n w (h.toW hp) (f.toW hp) g e) (fun _ _ _ h _ c _=>C6.ofW h c)
def Atx {m n:Nat}(h:C6 u x m)(e:C6 u x' n)(f:nl m<=10000000000000)(sb:nl n<=10000000000000):Fn0 prog 184 [x,x'] u fun v g=>C6 g v (m*n) :=
 Fn0.ofW (fun v w=>Cu w v (m*n)) (fun w hp=>Ahh x x' m n w (h.toW hp) (e.toW hp) f sb) (fun _ _ _ h _ c _=>C6.ofW h c)
def Aew {m n:Nat}(h:C6 u x m)(e:C6 u x' n)(f:nl m<=10000000000000)(sb:nl n<=10000000000000):Fn0 prog 178 [x,x'] u fun v _=>v=.int .i64 (sgn ((m:Int)-n)) :=
 Fn0.ofW (fun v _=>v=.int .i64 (sgn ((m:Int)-n))) (fun w hp=>(Gw x x' m n w (h.toW hp) (e.toW hp) f sb).mono fun _ _ h=>⟨_,h.ext.1,rfl,h.ext.2⟩) (fun _ _ _ h _ _ _=>h)
def P6 {m n:Nat}(h:C6 u x m)(t:C6 u x' n)(D:nl m<=5000000000000)(sb:nl n<=5000000000000)(A:0<n):Fn0 prog 225 [x,x'] u fun v j=>∃ a b,v=.tuple #[a,b]/\C6 j a (m/n)/\C6 j b (m%n) :=
 Fn0.ofW (fun v w=>∃ a b,v=.tuple #[a,b]/\Cu w a (m/n)/\Cu w b (m%n)) (fun w hp=>(Yc x x' m n w (h.toW hp) (t.toW hp) D sb A).mono fun _ _ ⟨a,b,e,f,g,C⟩=>⟨_,e,⟨a,b,rfl,f,g⟩,C⟩)
  (fun _ _ _ ⟨a,b,e,f,g⟩ _ c _=>⟨a,b,e,C6.ofW f c,C6.ofW g c⟩)
def Zz (h:C6 u x n)(f:nl n<=2):Fn0 prog 258 [x] u fun v _=>v=.int .u64 (n:Int) :=
 Fn0.ofW (fun v _=>v=.int .u64 (n:Int)) (fun w hp=>(Ab0 x n w (h.toW hp) f).mono fun _ _ ⟨e,k⟩=>⟨_,e,rfl,k▸Ext.refl _⟩) (fun _ _ _ h _ _ _=>h)
def Ag1.els {g:Nat}(h:Fz u g 0 1 (Be l)):Ag1 u (some ⟨g,0,none⟩) (Be l):=fun j f=>by
 refine⟨g,0,rfl,?_⟩;have e:j<l.length:=by simpa[Be] using f
 have:=h j (.int .u64 (l[j]:Nat)) (by simp[Be,e]) 0 (.int .u64 (l[j]:Nat)) rfl;simpa[Be,e] using this
def Aua (E:Low l)(H:Ag1 u a (Be l))(F:val l=n)(t:l.length<=c)(C:l.length<=9223372036854775807):Fn0 prog 188 [.slice a l.length c] u fun v I=>C6 I v n :=
 Fn0.ofW (fun v w=>Cu w v n) (fun w hp=>by
  have A:Row w a (Be l):=fun j D=>by obtain⟨b,off,f,g⟩:=H j D;exact⟨b,off,f,g.cell hp⟩
  exact (Gr a c l.length l w rfl C t A).mono fun e w' ⟨f,g⟩=>by subst g;exact⟨_,f,Dt E A F t,Ext.refl _⟩) (fun _ _ _ h _ c _=>C6.ofW h c)
def C6.len {k c n:Nat}(h:C6 u (.slice a k c) n):k=nl n:=by
 obtain⟨_,_,e,_⟩:=h;cases e;rfl
def C6.opn (h:C6 u x n):∃ a c,x=.slice a (nl n) c:=by
 obtain⟨a,c,e,_⟩:=h;exact⟨a,c,e⟩
theorem Asd {m n : Nat} (h : C6 u x m) (h' : C6 u x' n) (sa : nl m ≤ 5000000000000) (sb : nl n ≤ 5000000000000) : Fn0 prog 224 [x, x'] u fun v u' => C6 u' v (Nat.gcd m n) := by
  obtain ⟨a, c, rfl⟩ := h.opn
  obtain ⟨b, d, rfl⟩ := h'.opn
  refine Fn0.o func224 ?_
  refine G.l (ι := (Option Addr × Nat × Nat) × (Option Addr × Nat × Nat)) (fun i => [(0, sV i.1.1 (nl i.1.2.1) i.1.2.2), (1, sV i.2.1 (nl i.2.2.1) i.2.2.2)]) (fun _ => [])
    (fun i u' m' => m' = PH.mt ∧ C6 u' (.slice i.1.1 (nl i.1.2.1) i.1.2.2) i.1.2.1 ∧ C6 u' (.slice i.2.1 (nl i.2.2.1) i.2.2.2) i.2.2.1 ∧ Nat.gcd i.1.2.1 i.2.2.1 = Nat.gcd m n ∧ nl i.1.2.1 ≤ 5000000000000 ∧ nl i.2.2.1 ≤ 5000000000000)
    (fun i => i.2.2.1) ((a, m, c), (b, n, d)) ⟨rfl, h, h', rfl, sa, sb⟩ ?_
  rintro J ⟨⟨a1, m1, c1⟩, b1, n1, d1⟩ hJ u1 _ l1 ⟨rfl, h1, h1', hg, s1, s1'⟩
  simp only at h1 h1' hg s1 s1' hJ
  by_cases h2 : 2 < nl n1
  · refine G.gT (nl n1 : Int) 2 ?_
    have hp : 0 < n1 := Cz.1 (show 0 < nl n1 by omega)
    refine G.c call225 (P6 h1 h1' s1 s1' hp) ?_
    rintro _ u2 l2 ⟨q, r, rfl, hq, hr⟩
    obtain ⟨aq, cq, rfl⟩ := hq.opn
    obtain ⟨ar, cr, rfl⟩ := hr.opn
    have hlt := A0z m1 hp
    exact G.b (hJ ((b1, n1, d1), (ar, m1 % n1, cr)) _ _ _ cV (l1.trans l2) ⟨rfl, h1'.mono l2, hr, by rw [← hg]; exact Xo m1 n1, s1', Ayv (Cs (A5l hlt)) s1'⟩ hlt)
  refine G.gF (nl n1 : Int) 2 ?_
  by_cases h0 : nl n1 = 0
  · refine G.eT (nl n1 : Int) 0 ?_
    have e0 : n1 = 0 := by rcases Azx n1 with e | e; · exact e
                           · have := Cz.2 e; unfold nl at h0; omega
    rw [← hg, e0, A7a]
    exact G.r _ ⟨rfl, h1⟩
  have hp : 0 < n1 := Cz.1 (show 0 < nl n1 by omega)
  refine G.eF (nl n1 : Int) 0 ?_
  refine dite (2 < nl m1) (fun h3 => ?y) (fun h3 => ?n)
  case' y =>
    refine G.gT (nl m1 : Int) 2 ?_
    refine G.c call225 (P6 h1 h1' s1 s1' hp) ?_
    rintro _ u2 l2 ⟨q, r, rfl, hq, hr⟩
    obtain ⟨aq, cq, rfl⟩ := hq.opn
    obtain ⟨ar, cr, rfl⟩ := hr.opn
    have ha := h1'.mono l2
    have hg2 : Nat.gcd n1 (m1 % n1) = Nat.gcd m n := by rw [← hg]; exact Xo m1 n1
    have hm2 : nl n1 ≤ 2 := by omega
    have hn2 : nl (m1 % n1) ≤ 2 := Ayv (Cs (A5l (A0z m1 hp))) hm2
    generalize m1 % n1 = r2 at hr hg2 hn2
  case' n =>
    refine G.gF (nl m1 : Int) 2 ?_
    have ha := h1
    have hr := h1'
    have hg2 := hg
    have hm2 : nl m1 ≤ 2 := by omega
    have hn2 : nl n1 ≤ 2 := by omega
  case y | n =>
    refine G.c call258 (Zz ha hm2) ?_
    rintro _ u3 l3 rfl
    refine G.c call258 (Zz (hr.mono l3) hn2) ?_
    rintro _ u4 l4 rfl
    refine G.l (ι := Nat × Nat) (fun i => [(9, .v (.int .u64 (i.1 : Int))), (10, .v (.int .u64 (i.2 : Int)))]) (fun _ => [])
      (fun i u' m' => m' = PH.mt ∧ Nat.gcd i.1 i.2 = Nat.gcd m n ∧ i.1 < 1000000000000000000 ∧ i.2 < 1000000000000000000) (fun i => i.2) (_, _) ⟨rfl, hg2, Zc hm2, Zc hn2⟩ ?_
    rintro J ⟨p, q⟩ hJ u5 _ l5 ⟨rfl, hpq, b1, b2⟩
    simp only at hpq b1 b2 hJ
    by_cases hq : q = 0
    · refine G.cmpG .neq .u64 (q : Int) 0 false kV rfl (by simp [Cl, hq]) ?_
      refine G.remW p 1000000000 _ kV rfl oV oV ?_
      refine G.quoW p 1000000000 _ kV rfl oV oV ?_
      refine G.buildW (p := fun _ => true) 254 1 8 (.int .u64 0) (Be [p % 1000000000, p / 1000000000]) kV (by simp [Yi, Be, Value.cells]) rfl oV (by simp [Be]) (by simp [Be]) ?_
      intro g u6 l6 e6
      refine G.c call188 (Aua (l := [p % 1000000000, p / 1000000000]) (n := p) (Low.cons (A0z _ oV) (Low.cons oV Low.nil)) (Ag1.els e6) (by simp [val]; omega) (c := 2) mV mV) ?_
      intro v7 u7 l7 k7
      obtain ⟨a7, c7, rfl⟩ := k7.opn
      rw [hq, A7a] at hpq
      exact G.r (.slice a7 (nl p) c7) ⟨rfl, by rw [← hpq]; exact k7⟩
    · refine G.cmpG .neq .u64 (q : Int) 0 true kV rfl (by simp [Cl, hq]) ?_
      refine G.remW p q _ kV rfl oV oV ?_
      have hlt := A0z p (show 0 < q by omega)
      exact G.b (hJ (q, p % q) _ _ _ cV l5 ⟨rfl, by rw [← hpq]; exact Xo p q, b2, by dsimp only; omega⟩ hlt)
def Ab6 {s:Value}(f:b=(neg&&decide (0<n)))(e:C6 u s n):Bq u (.agg #[.bool b,s]) (B6 neg n):=by
 obtain⟨a,c,rfl,g⟩:=id e;exact⟨a,_,c,by rw[Xr,f],by rw[Kc];exact e⟩
def Iz (h:C6 u x n):Fn0 prog 176 [.bool neg,x] u fun v f=>Bq f v (B6 neg n):=by
 obtain⟨a,c,rfl⟩:=h.opn;have e:0<nl n↔0<n:=Cz;refine Fn0.o func176 ?_;cases neg
 ·exact G.r (.agg #[.bool false,.slice a (nl n) c]) ⟨rfl,Ab6 rfl h⟩
 by_cases h0:0<nl n
 ·exact G.gT (nl n:Int) 0<|G.r (.agg #[.bool true,.slice a (nl n) c]) ⟨rfl,Ab6 (by simp[e.1 h0]) h⟩
 exact G.gF (nl n:Int) 0<|G.r (.agg #[.bool false,.slice a (nl n) c]) ⟨rfl,Ab6 (by simp[mt e.2 h0]) h⟩
def Bq.opn' (h:Bq u x z):∃ a c,x=.agg #[.bool (decide (z<0)),.slice a (nl z.natAbs) c]/\C6 u (.slice a (nl z.natAbs) c) z.natAbs:=by
 obtain⟨a,n,c,rfl,h⟩:=h;have:=h.len;subst this;exact⟨a,c,rfl,h⟩
def R3 (h:Bq u x z)(g:nl z.natAbs<=100000000000000):Fn0 prog 180 [x] u fun v _=>v=.int .i64 (sgn z):=by
 obtain⟨a,c,rfl,k⟩:=h.opn';have f:0<nl z.natAbs↔0<z.natAbs:=Cz;refine Fn0.o func180 ?_;by_cases h0:z<0
 ·rw[decide_eq_true h0,Ej h0];exact G.r (.int .i64 (-1)) ⟨rfl,rfl⟩
 rw[decide_eq_false h0];by_cases e:0<nl z.natAbs
 ·refine G.gT (nl z.natAbs:Int) 0 ?_;rw[C7 oV];exact G.r (.int .i64 1) ⟨rfl,rfl⟩
 refine G.gF (nl z.natAbs:Int) 0 ?_;rw[show z=0 by omega,Ro];exact G.r (.int .i64 0) ⟨rfl,rfl⟩
def Am1 (z:Int):B6 (!decide (z<0)) z.natAbs = -z:=by unfold B6;by_cases h:z<0<;>simp[h]<;>omega
def Un (h:Bq u x z)(A:nl z.natAbs<=100000000000000):Fn0 prog 181 [x] u fun v f=>Bq f v (-z):=by
 obtain⟨a,c,rfl,k⟩:=h.opn';refine Fn0.o func181<|G.c call176 (Iz (neg:=!decide (z<0)) k) ?_;intro F E C e;rw[Am1]at e;obtain⟨j,g,D,t,rfl⟩:=e.opn;exact G.r _ ⟨rfl,e⟩
def Fq (h:Bq u x y)(g:Bq u x' z)(L:nl y.natAbs<=5000000000000)(sz:nl z.natAbs<=5000000000000):Fn0 prog 117 [x,x'] u fun v t=>Bq t v (y*z):=by
 obtain⟨a,c,rfl,k⟩:=h.opn';obtain⟨A,F,rfl,j⟩:=g.opn';refine Fn0.o func117<|G.neB (decide (y<0)) (decide (z<0)) kV<|G.c call184 (Atx k j oV oV) ?_;intro Q N J f;obtain⟨C,H,rfl⟩:=f.opn;refine G.c call176 (Iz (neg:=!(decide (y<0)==decide (z<0))) f) ?_;intro R O l2 e;rw[Ada]at e;obtain⟨E,D,K,I,rfl⟩:=e.opn;exact G.r _ ⟨rfl,e⟩
def Ab3 (h:Bq u x y)(L:Bq u x' z)(sy:nl y.natAbs<=5000000000000)(sz:nl z.natAbs<=5000000000000):Fn0 prog 115 [x,x'] u fun v Q=>Bq Q v (y+z):=by
 obtain⟨a,c,rfl,k⟩:=h.opn';obtain⟨W,Z,rfl,t⟩:=L.opn';refine Fn0.o func115<|G.eqB (decide (y<0)) (decide (z<0)) kV ?_;by_cases g:decide (y<0)=decide (z<0)
 ·rw[show (decide (y<0)==decide (z<0))=true by simp[g]];refine G.c call177 (Aim k t oV oV) ?_;intro U R j E;obtain⟨X,c1,rfl⟩:=E.opn;refine G.c call176 (Iz (neg:=decide (y<0)) E) ?_;intro H F l2 e;rw[Ad5 g]at e;obtain⟨Y,C,n2,D,rfl⟩:=e.opn;exact G.r _ ⟨rfl,e⟩
 rw[show (decide (y<0)==decide (z<0))=false by simpa using g];refine G.c call178 (Aew k t oV oV) ?_;rintro U R j rfl;by_cases A:z.natAbs<=y.natAbs
 ·refine G.hT' (sgn ((y.natAbs:Int)-z.natAbs)) 0 (Ahp A)<|G.c call179 (Aas (k.mono j) (t.mono j) oV A) ?_;intro H F l2 e;obtain⟨C,D,rfl⟩:=e.opn;refine G.c call176 (Iz (neg:=decide (y<0)) e) ?_;intro V T N f;rw[Z3 g A]at f;obtain⟨J,I,O,K,rfl⟩:=f.opn;exact G.r _ ⟨rfl,f⟩
 refine G.hF' (sgn ((y.natAbs:Int)-z.natAbs)) 0 (by rw[Ej oV];omega)<|G.c call179 (Aas (t.mono j) (k.mono j) oV oV) ?_;intro H F l2 e;obtain⟨C,D,rfl⟩:=e.opn;refine G.c call176 (Iz (neg:=decide (z<0)) e) ?_;intro V T N f;rw[Yz g oV]at f;obtain⟨J,I,O,K,rfl⟩:=f.opn;exact G.r _ ⟨rfl,f⟩
def Ajo (h:Bq u x y)(f:Bq u x' z)(t:nl y.natAbs<=5000000000000)(sz:nl z.natAbs<=5000000000000):Fn0 prog 221 [x,x'] u fun v A=>Bq A v (y-z):=by
 obtain⟨b,a,n,c,rfl⟩:=h.opn;obtain⟨b',C,L,I,rfl⟩:=f.opn;refine Fn0.o func221<|G.c call181 (Un f oV) ?_;intro T Q j g;obtain⟨F,D,N,J,rfl⟩:=g.opn;refine G.c call115 (Ab3 (h.mono j) g t (by rw[A1p];exact sz)) ?_;intro U R l2 e;rw[<-A4q]at e;obtain⟨H,E,O,K,rfl⟩:=e.opn;exact G.r _ ⟨rfl,e⟩
def Kp (h:Bq u x y)(e:Bq u x' z)(g:nl y.natAbs<=5000000000000)(sz:nl z.natAbs<=5000000000000):Fn0 prog 174 [x,x'] u fun v _=>v=.int .i64 (sgn (y-z)):=by
 obtain⟨b,a,n,c,rfl⟩:=h.opn;obtain⟨b',j,F,C,rfl⟩:=e.opn;refine Fn0.o func174<|G.c call221 (Ajo h e g sz) ?_;intro K I E f;obtain⟨A,t,H,D,rfl⟩:=f.opn;have:=Rh (y:=y) (z:=-z) g (by rw[A1p];exact sz);refine G.c call180 (R3 f (by rw[A4q];omega)) ?_;rintro L J l2 rfl;exact G.r (.int .i64 (sgn (y-z))) ⟨rfl,rfl⟩
def Aae (h:Bq u x y)(g:Bq u x' z)(t:nl y.natAbs<=5000000000000)(sz:nl z.natAbs<=5000000000000):Fn0 prog 182 [x,x'] u fun v A=>Bq A v (Nat.gcd y.natAbs z.natAbs):=by
 obtain⟨a,c,rfl,k⟩:=h.opn';obtain⟨C,H,rfl,j⟩:=g.opn';refine Fn0.o func182<|G.c call224 (Asd k j t sz) ?_;intro Q N K e;obtain⟨D,I,rfl⟩:=e.opn;refine G.c call176 (Iz (neg:=false) e) ?_;intro R O l2 f;obtain⟨F,E,L,J,rfl⟩:=f.opn;exact G.r _ ⟨rfl,f⟩
def Ox (h:Bq u x y)(U:Bq u x' z)(sy:nl y.natAbs<=4000000000000)(sz:nl z.natAbs<=4000000000000)(I:z≠0):Fn0 prog 183 [x,x'] u fun v R=>∃ a b,v=.tuple #[a,b]/\Bq R a (y/z)/\Bq R b (y%z):=by
 obtain⟨a,c,rfl,k⟩:=h.opn';obtain⟨a',c',rfl,L⟩:=U.opn';have K:0<nl (y.natAbs%z.natAbs)↔0<y.natAbs%z.natAbs:=Cz;have W:=A0z y.natAbs (show 0<z.natAbs by omega);refine Fn0.o func183<|G.c call225 (P6 k L oV oV oV) ?_;rintro _ u1 Y ⟨q,r,rfl,F,H⟩;obtain⟨aq,cq,rfl⟩:=F.opn;obtain⟨ar,cr,rfl⟩:=H.opn;refine dite (y<0) (fun f=>?A) (fun f=>?D)
 case' A =>
  rw[decide_eq_true f];refine dite (0<y.natAbs%z.natAbs) (fun h0=>?B) (fun h0=>?C)
 case' B =>
  refine G.gT' (nl (y.natAbs%z.natAbs):Int) 0 (by have:=K.2 h0;omega)<|G.buildW (p:=fun _=>true) 254 1 8 (.int .u64 0) (Be [1]) kV (by simp[Yi,Be,Value.cells]) rfl oV (by simp[Be]) (by simp[Be]) ?_;intro g u2 l2 T;have X:C6 u2 (.slice (some ⟨g,0,none⟩) 1 1) 1:=by
   have:=Et (d:=1) oV oV;exact⟨_,1,by rw[this];rfl,by rw[this];simp,by rw[this];exact Ag1.els T⟩
  refine G.c call177 (Aim (F.mono l2) X (by have:=Cs (A16 y.natAbs z.natAbs);omega) (by have:=Sf;omega)) ?_;intro v3 u3 Q t;obtain⟨a3,c3,rfl⟩:=t.opn;refine G.c call179 (Aas ((L.mono Y).mono (l2.trans Q)) (H.mono (l2.trans Q)) oV oV) ?_;intro v4 u4 Z J;obtain⟨a4,c4,rfl⟩:=J.opn;obtain⟨e,j⟩:=Aa2 f I h0;rw[decide_eq_true f]at e;have t:=t.mono Z
 case' C =>
  refine G.gF' (nl (y.natAbs%z.natAbs):Int) 0 (by have:=mt K.1 h0;omega) ?_;obtain⟨e,j⟩:=Yb f I oV;rw[decide_eq_true f]at e
 case' D =>
  obtain⟨e,j⟩:=X9 f I;rw[decide_eq_false f]at e⊢
 case' C|D =>
  have t:=F;have J:=H
 case' B|C=>generalize V:true=E at e⊢
 case' D=>generalize V:false=E at e⊢
 case B|C|D =>
  refine G.neB E (decide (z<0)) kV<|G.c call176 (Iz (neg:=!(E==decide (z<0))) t) ?_;intro v5 u5 l5 N;obtain⟨b5,a5,n5,c5,rfl⟩:=N.opn;refine G.c call176 (Iz (neg:=false) (J.mono l5)) ?_;intro v6 u6 l6 O;obtain⟨b6,a6,n6,c6,rfl⟩:=O.opn;exact G.r (.tuple #[_,_]) ⟨rfl,_,_,rfl,e▸N.mono l6,j▸O⟩
def N1 (D:-9223372036854775808<=z)(F:z<=9223372036854775807):Fn0 prog 175 [.int .i64 z] u fun v H=>Bq H v z:=by
 refine Fn0.o func175<|G.convI .i64 .u64 .i64 z _ kV rfl ?_;have f:=Si z;refine dite (z<0) (fun e=>?A) (fun e=>?B)
 case' A =>
  rw[decide_eq_true e]at f;generalize h:true=E at f;refine G.lT' z 0 e<|G.negW _ _ kV (Af0 e D)<|G.lT' z 0 e ?_
 case' B =>
  rw[decide_eq_false e]at f;generalize h:false=E at f;rw[Ahd oV F];refine G.lF' z 0 e<|G.lF' z 0 e ?_
 case A|B =>
  refine G.remW z.natAbs 1000000000 _ kV rfl oV oV<|G.quoW z.natAbs 1000000000 _ kV rfl oV oV<|G.remW (z.natAbs/1000000000) 1000000000 _ kV rfl oV oV<|G.quoW z.natAbs 1000000000 _ kV rfl oV oV<|G.quoW (z.natAbs/1000000000) 1000000000 _ kV rfl oV oV<|G.buildW (p:=fun _=>true) 254 1 8 (.int .u64 0) (Be [z.natAbs%1000000000,z.natAbs/1000000000%1000000000,z.natAbs/1000000000/1000000000]) kV (by simp[Yi,Be,Value.cells]) rfl oV (by simp[Be]) (by simp[Be]) ?_;intro g U O C;refine G.c call188 (Aua (l:=[_,_,_]) (n:=z.natAbs) (Low.cons (A0z _ oV) (Low.cons (A0z _ oV) (Low.cons oV Low.nil))) (Ag1.els C) (by simp[val];omega) (c:=3) mV mV) ?_;intro X V Q j;obtain⟨I,L,rfl⟩:=j.opn;refine G.c call176 (Iz (neg:=E) (by cases h;exact j)) ?_;intro Y W R t;obtain⟨K,J,T,N,rfl⟩:=t.opn;exact G.r _ ⟨rfl,f▸t⟩
def Akw (h:Ax u x q)(e:nl q.num.natAbs<=100000000000000):Fn0 prog 208 [x] u fun v _=>v=.int .i64 (sgn q.num):=by
 obtain⟨b,a,n,c,b',f,t,g,rfl⟩:=h.opn;refine Fn0.o func208<|G.c call180 (R3 h.num e) ?_;rintro C A j rfl;exact G.r (.int .i64 (sgn q.num)) ⟨rfl,rfl⟩
def Jr (h:Ax u x q)(F:nl q.den<=4000000000000):Fn0 prog 113 [x] u fun v _=>v=.bool (decide (q.den=1)):=by
 obtain⟨b,a,n,c,b',t,H,D,rfl⟩:=h.opn;refine Fn0.o func113<|G.c call175 (N1 (z:=1) oV oV) ?_;intro L J j g;obtain⟨C,A,I,E,rfl⟩:=g.opn;refine G.c call174 (Kp (h.den.mono j) g (by rw[Az6];omega) (by have:=Sf;show nl 1<=_;omega)) ?_;rintro N K l2 rfl;have f:=Tf (d:=q.den);by_cases e:q.den=1
 ·exact G.eT' (sgn ((q.den:Int)-1)) 0 (by simpa[e] using f)<|G.r (.bool true) ⟨rfl,by rw[decide_eq_true e]⟩
 exact G.eF' (sgn ((q.den:Int)-1)) 0 (by simpa[e] using f)<|G.r (.bool false) ⟨rfl,by rw[decide_eq_false e]⟩
def Ax.mk4 {d:Nat}{b b':Bool}{a f:Option Addr}{n A c g:Nat}(h:Bq u (.agg #[.bool b,.slice a n c]) y)(D:Bq u (.agg #[.bool b',.slice f A g]) (d:Int))(e:q.num=y)(C:q.den=d) :
 Ax u (.agg #[.bool b,.slice a n c,.bool b',.slice f A g]) q:=by
 obtain⟨_,_,_,j,E⟩:=h;obtain⟨_,_,_,t,F⟩:=D;simp only[Value.agg.injEq,A19,A0f,Value.bool.injEq,Value.slice.injEq,and_true]at j t;obtain⟨rfl,rfl,rfl,rfl⟩:=j;obtain⟨rfl,rfl,rfl,rfl⟩:=t;exact⟨_,_,_,_,_,_,by rw[e,decide_eq_false (show ¬ ((d:Int)<0) by omega)],by rw[e];exact E,by rw[C];exact F⟩
def Bq.cast (h:Bq u x z)(e:0<z):Bq u x ((z.natAbs:Nat):Int):=by rw[show ((z.natAbs:Nat):Int)=z by omega];exact h
def Pt (h:Bq u x z):Fn0 prog 114 [x] u fun v g=>Ax g v (z:Rat):=by
 obtain⟨b,a,n,c,rfl⟩:=h.opn;refine Fn0.o func114<|G.c call175 (N1 (z:=1) oV oV) ?_;intro E D f e;obtain⟨t,j,C,A,rfl⟩:=e.opn;exact G.r (.agg #[_,_,_,_]) ⟨rfl,Ax.mk4 (h.mono f) e mV mV⟩
def Uz (t:-9223372036854775808<=z)(A:z<=9223372036854775807):Fn0 prog 171 [.int .i64 z] u fun v D=>Ax D v (z:Rat):=by
 refine Fn0.o func171<|G.c call175 (N1 t A) ?_;intro T Q L e;obtain⟨H,E,N,J,rfl⟩:=e.opn;refine G.c call114 (Pt e) ?_;intro U R l2 f;obtain⟨I,F,O,K,h,g,C,j,rfl⟩:=f.opn;exact G.r _ ⟨rfl,f⟩
def Adg (h:Ax u x q)(E:nl q.num.natAbs<=4000000000000):Fn0 prog 148 [x] u fun v g=>Ax g v (-q):=by
 obtain⟨b,a,n,c,b',j,F,C,rfl⟩:=h.opn;refine Fn0.o func148<|G.c call181 (Un h.num oV) ?_;intro J I f e;obtain⟨A,t,H,D,rfl⟩:=e.opn;exact G.r (.agg #[_,_,_,_]) ⟨rfl,Ax.mk4 e (h.den.mono f) (A76 q) (A77 q)⟩
def Xl (h:Bq u x y)(E:Bq u x' z)(X:nl y.natAbs<=4000000000000)(sz:nl z.natAbs<=4000000000000)(hz:z≠0):Fn0 prog 116 [x,x'] u fun v u'=>Ax u' v (Rat.divInt y z):=by
 obtain⟨b,a,n,c,rfl⟩:=h.opn;obtain⟨b',a',n',c',rfl⟩:=E.opn;refine Fn0.o func116<|G.c call180 (R3 E oV) ?_;rintro v1 u1 H rfl;refine dite (z<0) (fun h0=>?A) (fun h0=>?B)
 case' A =>
  refine G.lT' (sgn z) 0 (by rw[Ej h0];omega)<|G.c call181 (Un (h.mono H) oV) ?_;intro v2 u2 l2 f;obtain⟨b2,a2,n2,c2,rfl⟩:=f.opn;refine G.c call181 (Un (E.mono (H.trans l2)) oV) ?_;intro v3 u3 l3 j;obtain⟨b3,a3,n3,c3,rfl⟩:=j.opn;have f:=f.mono l3;have e:=N2 y z;have J:nl (-y).natAbs<=4000000000000:=by rw[A1p];exact X
  have D:nl (-z).natAbs<=4000000000000:=by rw[A1p];exact sz
  have hp:0 < -z:=oV;generalize -y=y2 at f e J;generalize -z=z2 at j e D hp
 case' B =>
  refine G.lF' (sgn z) 0 (by rw[C7 oV];omega) ?_;have f:=h.mono H;have j:=E.mono H;have e:Rat.divInt y z=Rat.divInt y z:=rfl;have J:=X;have D:=sz;have hp:0<z:=oV;generalize y=y2 at f e J;generalize z=z2 at j e D hp
 case A|B =>
  have aa:0<Nat.gcd y2.natAbs z2.natAbs:=A5m _ oV;have K:Nat.gcd y2.natAbs z2.natAbs<=z2.natAbs:=Nat.gcd_le_right _ oV;have C:nl (Nat.gcd y2.natAbs z2.natAbs)<=4000000000000:=Ayv (Cs K) D;refine G.c call182 (Aae f j oV oV) ?_;intro v4 u4 l4 F;obtain⟨b4,a4,n4,c4,rfl⟩:=F.opn;refine G.c call175 (N1 (z:=1) oV oV) ?_;intro v5 u5 I U;obtain⟨b5,a5,n5,c5,rfl⟩:=U.opn;refine G.c call174 (Kp (F.mono I) U (by rw[Az6];omega) (by have:=Sf;show nl 1<=_;omega)) ?_;rintro v6 u6 R rfl;have T:=Tf (d:=Nat.gcd y2.natAbs z2.natAbs);have g:=(l4.trans I).trans R;by_cases L:Nat.gcd y2.natAbs z2.natAbs=1
  ·refine G.nF' (sgn ((Nat.gcd y2.natAbs z2.natAbs:Int)-1)) 0 (by simpa[L] using T) ?_;have t:=Wd hp L;exact G.r (.agg #[_,_,_,_]) ⟨rfl,Ax.mk4 (f.mono g) ((j.mono g).cast hp) (by rw[<-e];exact t.1) (by rw[<-e];exact t.2)⟩
  refine G.nT' (sgn ((Nat.gcd y2.natAbs z2.natAbs:Int)-1)) 0 (by simpa[L] using T) ?_;have t:=Vt hp (y:=y2) rfl;refine G.c call183 (Ox (f.mono g) (F.mono (I.trans R)) J (by rw[Az6];exact C) oV) ?_;rintro _ u7 W ⟨q,r,rfl,V,N⟩;obtain⟨b7,a7,n7,c7,rfl⟩:=V.opn;obtain⟨a0,Y,ab,a6,rfl⟩:=N.opn;refine G.c call183 (Ox (j.mono (g.trans W)) (F.mono ((I.trans R).trans W)) D (by rw[Az6];exact C) oV) ?_;rintro _ u8 l8 ⟨q8,r8,rfl,O,Q⟩;obtain⟨b8,a8,n8,c8,rfl⟩:=O.opn;obtain⟨a1,Z,ac,a9,rfl⟩:=Q.opn;have e8:(((z2.natAbs/Nat.gcd y2.natAbs z2.natAbs:Nat)):Int)=z2/(Nat.gcd y2.natAbs z2.natAbs:Nat):=by rw[A23,show ((z2.natAbs:Nat):Int)=z2 by omega]
  rw[<-e8]at O;exact G.r (.agg #[_,_,_,_]) ⟨rfl,Ax.mk4 (V.mono l8) O (by rw[<-e];exact t.1) (by rw[<-e];exact t.2)⟩
end
end
section
variable {q r:Rat}{y:Int}
section
variable {u:PH} {x x':Value}
def Ae4 (h:Ax u x q):Fn0 prog 200 [x] u fun v e=>Bq e v q.num :=
 Fn0.ofW (fun v w=>Rn w v q.num) (fun w hp=>Ae2 x q w (h.toW hp)) (fun _ _ _ h _ c _=>Bq.ofW h c)
def Rp (h:Ax u x q):Fn0 prog 199 [x] u fun v e=>Bq e v q.den :=
 Fn0.ofW (fun v w=>Rn w v q.den) (fun w hp=>Acr x q w (h.toW hp)) (fun _ _ _ h _ c _=>Bq.ofW h c)
def Ik (h:Ax u x q)(j:Ax u x' r)(V:Sz q 1000000000000)(W:Sz r 1000000000000):Fn0 prog 55 [x,x'] u fun v u'=>Ax u' v (q*r):=by
 obtain⟨s1,s2⟩:=V;obtain⟨s3,s4⟩:=W;obtain⟨b,a,n,c,b',a',n',c',rfl⟩:=h.opn;obtain⟨d,e,k,f,d',e',k',f',rfl⟩:=j.opn;refine Fn0.o func55<|G.c call113 (Jr h oV) ?_;rintro v1 u1 t rfl;refine dite (q.den=1) (fun A=>?y) (fun A=>?n1)
 case' y =>
  rw[decide_eq_true A];refine G.c call113 (Jr (j.mono t) oV) ?_;rintro v2 u2 l2 rfl;refine dite (r.den=1) (fun C=>?yy) (fun C=>?n2)
 case yy =>
  rw[decide_eq_true C];refine G.c call117 (Fq (h.num.mono (t.trans l2)) (j.num.mono (t.trans l2)) oV oV) ?_;intro v3 u3 E m;obtain⟨L,H,X,Q,rfl⟩:=m.opn;refine G.c call114 (Pt m) ?_;intro v4 u4 F g;rw[Al1 A C]at g;obtain⟨N,I,Y,R,O,J,Z,T,rfl⟩:=g.opn;exact G.r _ ⟨rfl,g⟩
 case' n1 =>
  rw[decide_eq_false A];have l2:=t
 case' n2 =>
  rw[decide_eq_false C];have l2:=t.trans l2
 case n1|n2 =>
  refine G.c call117 (Fq (h.num.mono l2) (j.num.mono l2) oV oV) ?_;intro v3 u3 E m;obtain⟨L,H,X,Q,rfl⟩:=m.opn;refine G.c call117 (Fq (h.den.mono (l2.trans E)) (j.den.mono (l2.trans E)) (by rw[Az6];omega) (by rw[Az6];omega)) ?_;intro v4 u4 F g;obtain⟨N,I,Y,R,rfl⟩:=g.opn;refine G.c call116 (Xl (m.mono F) g (by have:=B5 s1 s3;omega) (by have:=B5 (y:=(q.den:Int)) (z:=(r.den:Int)) (k:=1000000000000) (by rw[Az6];omega) (by rw[Az6];omega);omega) (U3 q r)) ?_;intro v5 u5 l5 D;rw[Aax]at D;obtain⟨b5,a5,n5,c5,P,K,a0,U,rfl⟩:=D.opn;exact G.r _ ⟨rfl,D⟩
def If (h:Ax u x q)(g:Ax u x' r)(Z:Sz q 1000000000000)(h2:Sz r 1000000000000):Fn0 prog 53 [x,x'] u fun v u'=>Ax u' v (q+r):=by
 obtain⟨s1,s2⟩:=Z;obtain⟨s3,s4⟩:=h2;obtain⟨b,a,n,c,b',a',n',c',rfl⟩:=h.opn;obtain⟨d,e,k,f,d',e',k',f',rfl⟩:=g.opn;have t2:nl ((q.den:Int)).natAbs<=1000000000000:=by rw[Az6];exact s2
 have K:nl ((r.den:Int)).natAbs<=1000000000000:=by rw[Az6];exact s4
 have m1:=B5 s1 K;have m2:=B5 s3 t2;have m3:=B5 t2 K;have m4:=Rh m1 m2;refine Fn0.o func53<|G.c call113 (Jr h oV) ?_;rintro v1 u1 t rfl;refine dite (q.den=1) (fun C=>?y) (fun C=>?n1)
 case' y =>
  rw[decide_eq_true C];refine G.c call113 (Jr (g.mono t) oV) ?_;rintro v2 u2 l2 rfl;refine dite (r.den=1) (fun D=>?yy) (fun D=>?n2)
 case yy =>
  rw[decide_eq_true D];refine G.c call115 (Ab3 (h.num.mono (t.trans l2)) (g.num.mono (t.trans l2)) oV oV) ?_;intro v3 u3 E m;obtain⟨Q,L,n3,V,rfl⟩:=m.opn;refine G.c call114 (Pt m) ?_;intro v4 u4 H j;rw[Ale C D]at j;obtain⟨R,N,n4,W,T,O,a0,X,rfl⟩:=j.opn;exact G.r _ ⟨rfl,j⟩
 case' n1 =>
  rw[decide_eq_false C];have l2:=t
 case' n2 =>
  rw[decide_eq_false D];have l2:=t.trans l2
 case n1|n2 =>
  refine G.c call117 (Fq (h.num.mono l2) (g.den.mono l2) oV oV) ?_;intro v3 u3 E m;obtain⟨Q,L,n3,V,rfl⟩:=m.opn;refine G.c call117 (Fq (g.num.mono (l2.trans E)) (h.den.mono (l2.trans E)) oV oV) ?_;intro v4 u4 H j;obtain⟨R,N,n4,W,rfl⟩:=j.opn;refine G.c call115 (Ab3 (m.mono H) j oV oV) ?_;intro v5 u5 l5 I;obtain⟨b5,a5,n5,c5,rfl⟩:=I.opn;have A:=((l2.trans E).trans H).trans l5;refine G.c call117 (Fq (h.den.mono A) (g.den.mono A) oV oV) ?_;intro v6 u6 l6 J;obtain⟨b6,a6,n6,c6,rfl⟩:=J.opn;refine G.c call116 (Xl (I.mono l6) J oV oV (U3 q r)) ?_;intro v7 u7 l7 F;rw[Rt]at F;obtain⟨b7,a7,n7,c7,U,P,a1,Y,rfl⟩:=F.opn;exact G.r _ ⟨rfl,F⟩
def Aet (h:Ax u x q)(m:Ax u x' r)(I:Sz q 1000000000000)(g:Sz r 1000000000000):Fn0 prog 111 [x,x'] u fun v N=>Ax N v (q-r):=by
 obtain⟨b,a,n,c,b',O,n',U,rfl⟩:=h.opn;obtain⟨d,e,k,f,X,Y,Z,f',rfl⟩:=m.opn;refine Fn0.o func111<|G.c call148 (Adg m (Ayv g.1 oV)) ?_;intro v1 u1 J t;obtain⟨R,P,n1,V,D,A,K,F,rfl⟩:=t.opn;refine G.c call53 (If (h.mono J) t I ⟨by rw[A76,A1p];exact g.1,by rw[A77];exact g.2⟩) ?_;intro v2 u2 l2 j;rw[<-A5n]at j;obtain⟨T,Q,n2,W,E,C,L,H,rfl⟩:=j.opn;exact G.r _ ⟨rfl,j⟩
end
def R8 (y z:Nat):nl (y/z)<=nl y:=Cs (A16 y z)
def Ard (e:0<y)(g:Nat):(y/(g:Int)).natAbs=y.natAbs/g:=by
 obtain⟨k,rfl⟩:=A4h (A8w e);rfl
def Ajj {u:PH}{x x':Value}{y z:Int}(h:Bq u x y)(e:Bq u x' z)(C:nl y.natAbs<=4000000000000)(sz:nl z.natAbs<=4000000000000)(F:0<y):Fn0 prog 198 [x,x'] u fun v H=>Bq H v (y/(Nat.gcd y.natAbs z.natAbs:Nat)*z):=by
 obtain⟨b,a,n,c,rfl⟩:=h.opn;obtain⟨b',I,Z,T,rfl⟩:=e.opn;refine Fn0.o func198 ?_;have E:0<Nat.gcd y.natAbs z.natAbs:=Nat.gcd_pos_of_pos_left _ oV;have f:Nat.gcd y.natAbs z.natAbs<=y.natAbs:=Nat.gcd_le_left _ oV;have g:nl (Nat.gcd y.natAbs z.natAbs)<=4000000000000:=Ayv (Cs f) C;refine G.c call182 (Aae h e oV oV) ?_;intro v1 u1 A j;obtain⟨O,J,n1,U,rfl⟩:=j.opn;refine G.c call183 (Ox (h.mono A) j C (by rw[Az6];exact g) oV) ?_;rintro v2 u2 l2 ⟨v3,v4,rfl,m,D⟩;obtain⟨P,K,n3,V,rfl⟩:=m.opn;obtain⟨Q,L,n4,W,rfl⟩:=D.opn;refine G.c call117 (Fq m (e.mono (A.trans l2)) (by rw[Ard F];exact Ayv (R8 _ _) oV) oV) ?_;intro v5 u5 Y t;obtain⟨R,N,n5,X,rfl⟩:=t.opn;exact G.r _ ⟨rfl,t⟩
end
def Apw {u:PH}{b:Bool}{a:Option Addr}{n c:Nat}{l:List Nat}(h:Co u (.slice a n c) l)(E:l.length<=1000000000000000000) :
 Fn0 prog 128 [.agg #[.bool b,.slice a n c]] u fun v _=>v=.agg #[.bool (b&&decide (0<Bv l l.length)),.slice a (Bv l l.length) c]:=by
 obtain⟨rfl,C⟩:=h.len;refine Fn0.o func128<|G.l (ι:=Nat) (fun _=>[(1,.p 0 0),(2,.p 1 0)]) (fun k=>[(0,⟨50,[bV b,sV a k c]⟩),(1,⟨50,[bV false,sV none 0 0]⟩)])
  (fun k _ m=>k<=l.length/\Bv l l.length=Bv l k/\m=PH.mt) id l.length ⟨Ay2 _,rfl,rfl⟩ ?_
 rintro J k t H F e ⟨D,g,rfl⟩;rw[g];rcases k with _|k
 ·exact G.gF (0:Nat) 0<|G.eT' (0:Nat) 0 rfl<|G.r (.agg #[.bool false,.slice a 0 c]) ⟨rfl,by simp[Bv]⟩
 refine G.gT (k+1:Nat) 0<|G.s (k+1:Nat) 1 k ?_;obtain⟨f,off,rfl,A⟩:=(h.mono e).at (j:=k) oV;refine G.a f off (k+1) c k 1 oV<|G.lU none f (off+k*1) (.int .i64 (l.getD k 0:Nat)) A ?_;by_cases h0:l.getD k 0=0
 ·exact G.eT (l.getD k 0:Nat) 0<|G.s (k+1:Nat) 1 k<|G.sliceTo 1 (some ⟨f,off,none⟩) (k+1) c k kV oV<|G.b (t k _ _ _ cV e ⟨oV,by rw[g];simp only[Bv,if_pos h0],rfl⟩ mV)
 exact G.eF (l.getD k 0:Nat) 0<|G.eF (k+1:Nat) 0<|G.r (.agg #[.bool b,.slice (some ⟨f,off,none⟩) (k+1) c]) ⟨rfl,by simp only[Bv,if_neg h0];simp⟩
section
variable {k:Nat}{u:PH}{va vb:Value}
def C2 (l:List Nat)(n:Nat):Ai l++[.int .i64 n]=Ai (l++[n]):=by simp[Ai]
def Lc {m n:Nat}(O:Co u va (Aa m))(P:Co u vb (Aa n))(W:nl m<=1000000000000000000)(sb:nl n<=1000000000000000000) :
 Fn0 prog 132 [va,vb] u fun v _=>v=.int .i64 (sgn ((m:Int)-n)):=by
 obtain⟨a,F,rfl,T⟩:=O.opn;obtain⟨b,H,rfl,U⟩:=P.opn;have X:(Aa m).length<=1000000000000000000:=W;have Y:(Aa n).length<=1000000000000000000:=sb;refine Fn0.o func132 ?_;by_cases E:(Aa m).length=(Aa n).length
 ·refine G.nF ((Aa m).length:Int) ((Aa n).length:Int)<|G.sub ((Aa m).length:Int) 1 (((Aa m).length:Int)-1) kV rfl oV oV<|G.l (ι:=Int) (fun z=>[(0,sV a (Aa m).length F),(1,sV b (Aa n).length H),(5,iV z)]) (fun _=>[])
   (fun z _ Q=>-1<=z/\z<(Aa m).length/\(Aa m).drop (z+1).toNat=(Aa n).drop (z+1).toNat/\Q=PH.mt) (fun z=>(z+1).toNat) (((Aa m).length:Int)-1)
   ⟨oV,oV,by rw[Az1 oV,Az1 oV],rfl⟩ ?_
  rintro J z R u' Q f ⟨Z,h2,e,rfl⟩;by_cases V:0<=z
  ·obtain⟨k,rfl⟩:=A4h V;have A:k<(Aa m).length:=oV;rw[show ((k:Int)+1).toNat=k+1 by omega]at e;obtain⟨h,C,rfl,I⟩:=(O.mono f).at (j:=k) A;obtain⟨t,D,rfl,K⟩:=(P.mono f).at (j:=k) oV;refine G.hT k 0<|G.a h C (Aa m).length F k 1 A<|G.lU none h (C+k*1) (.int .i64 ((Aa m).getD k 0:Nat)) I<|G.a t D (Aa n).length H k 1 oV<|G.lU none t (D+k*1) (.int .i64 ((Aa n).getD k 0:Nat)) K ?_;rcases A33 ((Aa m).getD k 0) ((Aa n).getD k 0) with g|L|N
   ·refine G.lT ((Aa m).getD k 0:Nat) ((Aa n).getD k 0:Nat) ?_;have:=G5 E A (An _) e g;rw[Al,Al]at this;exact G.r (.int .i64 (-1)) ⟨rfl,by rw[Ej oV]⟩
   ·refine G.lF ((Aa m).getD k 0:Nat) ((Aa n).getD k 0:Nat)<|G.a h C (Aa m).length F k 1 A<|G.lU none h (C+k*1) (.int .i64 ((Aa m).getD k 0:Nat)) I<|G.a t D (Aa n).length H k 1 oV<|G.lU none t (D+k*1) (.int .i64 ((Aa n).getD k 0:Nat)) K<|G.gF ((Aa m).getD k 0:Nat) ((Aa n).getD k 0:Nat)<|G.sub (k:Int) 1 ((k:Int)-1) kV rfl oV oV<|G.b (R ((k:Int)-1) _ _ _ cV f ⟨oV,oV,?_,rfl⟩ mV);rw[show ((k:Int)-1+1).toNat=k by omega,Cj (Aa m) k A,Cj (Aa n) k oV,e,L]
   refine G.lF ((Aa m).getD k 0:Nat) ((Aa n).getD k 0:Nat)<|G.a h C (Aa m).length F k 1 A<|G.lU none h (C+k*1) (.int .i64 ((Aa m).getD k 0:Nat)) I<|G.a t D (Aa n).length H k 1 oV<|G.lU none t (D+k*1) (.int .i64 ((Aa n).getD k 0:Nat)) K<|G.gT ((Aa m).getD k 0:Nat) ((Aa n).getD k 0:Nat) ?_;have:=G5 E.symm oV (An _) e.symm N;rw[Al,Al]at this;exact G.r (.int .i64 1) ⟨rfl,by rw[C7 oV]⟩
  obtain rfl:z = -1:=oV;refine G.hF (-1) 0 ?_;have:m=n:=by
   have e:(Aa m).drop 0=(Aa n).drop 0:=e;rw[A25,A25]at e;rw[<-Al m,<-Al n,e]
  exact G.r (.int .i64 0) ⟨rfl,by rw[this,Int.sub_self];rfl⟩
 refine G.nT ((Aa m).length:Int) ((Aa n).length:Int) ?_;by_cases g:(Aa m).length<(Aa n).length
 ·refine G.lT ((Aa m).length:Int) ((Aa n).length:Int) ?_;have:=Ku (m:=m) (n:=n) g;exact G.r (.int .i64 (-1)) ⟨rfl,by rw[Ej oV]⟩
 refine G.lF ((Aa m).length:Int) ((Aa n).length:Int) ?_;have:=Ku (m:=n) (n:=m) (show nl n<nl m by unfold nl;omega);exact G.r (.int .i64 1) ⟨rfl,by rw[C7 oV]⟩
def Fr {l:List Nat}(h:¬ k<l.length):l.getD k 0=0:=by rw[Ays,Azo oV];rfl
def Lm.over {a b ys:List Nat}{k c:Nat}(h:Lm a b k ys c)(j:Low a)(m:Low b)(f:¬ k<a.length)(g:¬ k<b.length)(e:c=0):val ys=val a+val b:=by
 have:=h.sum;rw[Ay6 oV,Ay6 oV,e]at this;simpa using this
def Apx {la e:List Nat}(Y:Co u va la)(T:Co u vb e)(t:Low la)(A:Low e)(sa:la.length<=1000000000000)(sb:e.length<=1000000000000) :
 Fn0 prog 131 [va,vb] u fun v u'=>∃ l,Co u' v l/\Low l/\val l=val la+val e/\l.length<=max la.length e.length+1:=by
 obtain⟨a,X,rfl,a3⟩:=Y.opn;obtain⟨b,P,rfl,a4⟩:=T.opn;refine Fn0.o func131<|G.l (ι:=Nat×List Nat×Nat×Value) (fun i=>[(0,sV a la.length X),(1,sV b e.length P),(5,.v i.2.2.2),(6,iV i.2.2.1),(7,iV i.1)]) (fun _=>[])
  (fun i _ Z=>(i.1<=max la.length e.length+1/\(max la.length e.length+1<=i.1->i.2.2.1=0))/\Af PH.mt Z i.2.2.2 3 1 (Ai i.2.1)/\Lm la e i.1 i.2.1 i.2.2.1) (fun i=>max la.length e.length+2-i.1) (0,[],0,.slice none 0 0)
  ⟨⟨mV,fun _=>rfl⟩,Af.nil _ _ _,Lm.start _ _⟩ ?_
 rintro J ⟨k,ys,c,D⟩ L u' Z n ⟨hk,E,f⟩;simp only at hk E f L;have a2:=f.carry;have R:=t.getD k;have a0:=A.getD k;obtain⟨ao,co,rfl⟩:=E.shape;obtain⟨D,U⟩:∃ D,D=Value.slice ao (Ai ys).length co:=⟨_,rfl⟩;rw[<-U]at E⊢;have fin:max la.length e.length+1<=1000000000001:=oV;by_cases C:k<la.length
 ·refine G.lT k la.length<|G.lT k la.length ?_;have a5:la.getD k 0<1000000000:=R;obtain⟨W,oa,rfl,ea⟩:=(Y.mono n).at (j:=k) C;refine G.a W oa la.length X k 1 C<|G.lU none W (oa+k*1) (.int .i64 (la.getD k 0:Nat)) ea<|G.p c (la.getD k 0:Nat) (c+la.getD k 0:Nat) ?_;by_cases m:k<e.length
  ·refine G.lT k e.length ?_;obtain⟨K,N,rfl,Q⟩:=(T.mono n).at (j:=k) m;refine G.a K N e.length P k 1 m<|G.lU none K (N+k*1) (.int .i64 (e.getD k 0:Nat)) Q<|G.p (c+la.getD k 0:Nat) (e.getD k 0:Nat) (c+la.getD k 0+e.getD k 0:Nat)<|G.rem ((c+la.getD k 0+e.getD k 0:Nat):Int) 1000000000 (((c+la.getD k 0+e.getD k 0)%1000000000:Nat):Int) kV oV oV oV oV<|G.B 3 1 8 (.int .i64 0) [.int .i64 (((c+la.getD k 0+e.getD k 0)%1000000000:Nat):Int)] (A8 [(c+la.getD k 0+e.getD k 0)%1000000000]) ?_;intro g O F H;refine G.append 3 1 8 (.int .i64 0) PH.mt (Ai ys) [.int .i64 (((c+la.getD k 0+e.getD k 0)%1000000000:Nat):Int)] D g 0 1 1 kV rfl rfl oV E H (A8 [(c+la.getD k 0+e.getD k 0)%1000000000]) rfl oV (by rw[Ak,f.len];omega) (by rw[Ak,f.len];omega) ?_;intro I V h;rw[C2]at h;refine G.quo ((c+la.getD k 0+e.getD k 0:Nat):Int) 1000000000 (((c+la.getD k 0+e.getD k 0)/1000000000:Nat):Int) kV oV oV oV oV<|G.i k<|G.b (L (k+1,ys++[(c+la.getD k 0+e.getD k 0)%1000000000],(c+la.getD k 0+e.getD k 0)/1000000000,I) _ _ _ cV (n.trans F) ⟨⟨oV,dV⟩,h,?_⟩ (by show max la.length e.length+2-(k+1)<max la.length e.length+2-k;omega));have:=f.step t A (x:=la.getD k 0) (y:=e.getD k 0) rfl rfl;rw[show la.getD k 0+e.getD k 0+c=c+la.getD k 0+e.getD k 0 by omega]at this;exact this
  have hz:=Fr m;refine G.lF k e.length<|G.rem ((c+la.getD k 0:Nat):Int) 1000000000 (((c+la.getD k 0)%1000000000:Nat):Int) kV oV oV oV oV<|G.B 3 1 8 (.int .i64 0) [.int .i64 (((c+la.getD k 0)%1000000000:Nat):Int)] (A8 [(c+la.getD k 0)%1000000000]) ?_;intro g O F H;refine G.append 3 1 8 (.int .i64 0) PH.mt (Ai ys) [.int .i64 (((c+la.getD k 0)%1000000000:Nat):Int)] D g 0 1 1 kV rfl rfl oV E H (A8 [(c+la.getD k 0)%1000000000]) rfl oV (by rw[Ak,f.len];omega) (by rw[Ak,f.len];omega) ?_;intro I V h;rw[C2]at h;refine G.quo ((c+la.getD k 0:Nat):Int) 1000000000 (((c+la.getD k 0)/1000000000:Nat):Int) kV oV oV oV oV<|G.i k<|G.b (L (k+1,ys++[(c+la.getD k 0)%1000000000],(c+la.getD k 0)/1000000000,I) _ _ _ cV (n.trans F) ⟨⟨oV,dV⟩,h,?_⟩ (by show max la.length e.length+2-(k+1)<max la.length e.length+2-k;omega));have:=f.step t A (x:=la.getD k 0) (y:=e.getD k 0) rfl rfl;rw[show la.getD k 0+e.getD k 0+c=c+la.getD k 0 by omega]at this;exact this
 have a6:=Fr C;by_cases m:k<e.length
 ·refine G.lF k la.length<|G.lT k e.length<|G.lF k la.length<|G.lT k e.length ?_;obtain⟨K,N,rfl,Q⟩:=(T.mono n).at (j:=k) m;refine G.a K N e.length P k 1 m<|G.lU none K (N+k*1) (.int .i64 (e.getD k 0:Nat)) Q<|G.p (c:Nat) (e.getD k 0:Nat) (c+e.getD k 0:Nat)<|G.rem ((c+e.getD k 0:Nat):Int) 1000000000 (((c+e.getD k 0)%1000000000:Nat):Int) kV oV oV oV oV<|G.B 3 1 8 (.int .i64 0) [.int .i64 (((c+e.getD k 0)%1000000000:Nat):Int)] (A8 [(c+e.getD k 0)%1000000000]) ?_;intro g O F H;refine G.append 3 1 8 (.int .i64 0) PH.mt (Ai ys) [.int .i64 (((c+e.getD k 0)%1000000000:Nat):Int)] D g 0 1 1 kV rfl rfl oV E H (A8 [(c+e.getD k 0)%1000000000]) rfl oV (by rw[Ak,f.len];omega) (by rw[Ak,f.len];omega) ?_;intro I V h;rw[C2]at h;refine G.quo ((c+e.getD k 0:Nat):Int) 1000000000 (((c+e.getD k 0)/1000000000:Nat):Int) kV oV oV oV oV<|G.i k<|G.b (L (k+1,ys++[(c+e.getD k 0)%1000000000],(c+e.getD k 0)/1000000000,I) _ _ _ cV (n.trans F) ⟨⟨oV,dV⟩,h,?_⟩ (by show max la.length e.length+2-(k+1)<max la.length e.length+2-k;omega));have:=f.step t A (x:=la.getD k 0) (y:=e.getD k 0) rfl rfl;rw[show la.getD k 0+e.getD k 0+c=c+e.getD k 0 by omega]at this;exact this
 have a7:=Fr m;by_cases a1:0<c
 ·refine G.lF k la.length<|G.lF k e.length<|G.gT c 0<|G.lF k la.length<|G.lF k e.length<|G.rem ((c:Nat):Int) 1000000000 (((c)%1000000000:Nat):Int) kV oV oV oV oV<|G.B 3 1 8 (.int .i64 0) [.int .i64 (((c)%1000000000:Nat):Int)] (A8 [(c)%1000000000]) ?_;intro g O F H;refine G.append 3 1 8 (.int .i64 0) PH.mt (Ai ys) [.int .i64 (((c)%1000000000:Nat):Int)] D g 0 1 1 kV rfl rfl oV E H (A8 [(c)%1000000000]) rfl oV (by rw[Ak,f.len];omega) (by rw[Ak,f.len];omega) ?_;intro I V h;rw[C2]at h;refine G.quo ((c:Nat):Int) 1000000000 (((c)/1000000000:Nat):Int) kV oV oV oV oV<|G.i k<|G.b (L (k+1,ys++[(c)%1000000000],(c)/1000000000,I) _ _ _ cV (n.trans F) ⟨⟨oV,dV⟩,h,?_⟩ (by show max la.length e.length+2-(k+1)<max la.length e.length+2-k;omega));have:=f.step t A (x:=la.getD k 0) (y:=e.getD k 0) rfl rfl;rw[show la.getD k 0+e.getD k 0+c=c by omega]at this;exact this
 refine G.lF k la.length<|G.lF k e.length<|G.gF c 0<|G.give PH.mt (Ai ys) D kV E (fun _=>.inl rfl) ?_;intro O F hL;refine G.r D ⟨rfl,ys,hL,f.low,f.over t A C m oV,?_⟩;rw[f.len];omega
end
section
variable {la ys:List Nat}
def Il (l:List Nat):List Int:=l.map fun (n:Nat)=>(n:Int)
def Zl (la ys:List Nat)(c:Nat):List Int:=Il ys++(match la.drop ys.length with|[]=>[]|x::r=>((x:Int)-c)::Il r)
def Amu (la:List Nat):Zl la [] 0=Il la:=by
 unfold Zl;cases la<;>simp[Il]
def Us (c:Nat)(h:ys.length<la.length):Zl la ys c=Il ys++((la.getD ys.length 0:Nat)-(c:Int))::Il (la.drop (ys.length+1)):=by
 unfold Zl;rw[Cj la ys.length h]
def Nm (c:Nat)(h:ys.length<=la.length):(Zl la ys c).length=la.length:=by
 rcases Az8 ys.length la.length with e|e
 ·rw[Us c e];simp[Il];omega
 unfold Zl;rw[Az1 e];simp[Il];omega
def Auj (c:Nat)(h:ys.length<la.length):(Zl la ys c)[ys.length]?=some ((la.getD ys.length 0:Nat)-(c:Int)):=by
 rw[Us c h,Azy (by simp[Il])];simp[Il]
def Anq (c:Nat)(d:Int)(h:ys.length<la.length):(Zl la ys c).set ys.length d=Il ys++d::Il (la.drop (ys.length+1)):=by
 rw[Us c h,A2j _ _ (by simp[Il])];simp[Il]
def Uu (c n:Nat)(h:ys.length<la.length):(Zl la ys c).set ys.length (n:Int)=Zl la (ys++[n]) 0:=by
 rw[Anq c _ h];unfold Zl;simp only[Ay3,A0u];cases la.drop (ys.length+1)<;>simp[Il]
def Ad0 (c n:Nat)(h:ys.length+1<la.length):((Zl la ys c).set ys.length (n:Int)).set (ys.length+1) ((la.getD (ys.length+1) 0:Nat)-1)=Zl la (ys++[n]) 1:=by
 rw[Uu c n oV];have e:(ys++[n]).length<la.length:=by simpa using h
 have:=Anq (la:=la) (ys:=ys++[n]) 0 ((la.getD (ys.length+1) 0:Nat)-1) e;rw[Ay3,A0u]at this;rw[this,Us 1 e];simp
def Aic (c n:Nat)(h:ys.length+1<la.length):((Zl la ys c).set ys.length (n:Int))[ys.length+1]?=some ((la.getD (ys.length+1) 0:Nat):Int):=by
 rw[Uu c n oV];have:=Auj (la:=la) (ys:=ys++[n]) 0 (by simpa using h);rw[Ay3,A0u]at this;simpa using this
def Aro (c:Nat)(h:ys.length=la.length):Zl la ys c=Il ys:=by
 unfold Zl;rw[Az1 oV];simp
def Ld.last {a b ys:List Nat}{c:Nat}(h:Ld a b a.length ys c)(f:b.length<=a.length)(g:val b<=val a):c=0:=by
 have j:=h.sum;rw[Ay6 (Ay2 _),Ay6 f]at j;have e:=K5 h.low;rw[h.len]at e;rcases Azx c with h0|h0
 ·exact h0
 have:1000000000^a.length*1<=1000000000^a.length*c:=A0n _ h0;omega
def elZ {l:List Int}{j:Nat}{d:Int}(h:l[j]?=some d):(Dj l)[j]?=some (.int .i64 d):=by simp[Dj,h]
def Lj {u:PH}{va vb:Value}{la t:List Nat}(ha:Co u va la)(hb:Co u vb t)(L:Low la)(W:Low t)(sa:la.length<=1000000000000)(N:t.length<=la.length)(O:val t<=val la) :
 Fn0 prog 133 [va,vb] u fun v u'=>∃ l,Co u' v l/\Low l/\val l=val la-val t/\l.length=la.length:=by
 obtain⟨a,ca,rfl,a7⟩:=ha.opn;obtain⟨b,cb,rfl,a8⟩:=hb.opn;refine Fn0.o func133 ?_;rcases Azx la.length with h0|h0
 ·have e1:la = []:=A0a h0;have e2:t = []:=A0a oV;subst e1 e2;refine G.appendNil 3 1 8 (.int .i64 0) a ca kV<|G.l (ι:=Unit) (fun _=>[(5,sV none 0 0),(6,iV 0)]) (fun _=>[]) (fun _ _ m'=>m'=PH.mt) (fun _=>0) () rfl ?_;rintro J _ hJ u' m' P rfl;exact G.lF 0 (0:Nat)<|G.r (.slice none 0 0) ⟨rfl,[],Ac.nil _ _ _ _,Low.nil,by simp[val],rfl⟩
 obtain⟨ba,oa,rfl,_⟩:=ha.at (j:=0) h0;refine G.append 3 1 8 (.int .i64 0) PH.mt [] (Ai la) (.slice none 0 0) ba oa la.length ca kV rfl rfl oV (Af.nil _ _ _) ha.els (A8 la) (Ak la) h0 gV gV ?_;intro vo m1 R;rw[A00,<-Su]at R;obtain⟨g,C,rfl⟩:=R.ptr (by intro e;have:=congrArg List.length e;rw[B4,Ayt,A1t]at this;omega);have a0:Af PH.mt m1 (.slice (some ⟨g,0,none⟩) la.length C) 3 1 (Dj (Zl la [] 0)):=by
  have:=R;rw[B4,Ayt]at this;rw[Amu];exact this
 rw[B4,Ayt];refine G.l (ι:=Nat×List Nat×Nat) (fun i=>[(1,sV b t.length cb),(5,sV (some ⟨g,0,none⟩) la.length C),(6,iV i.1)]) (fun _=>[])
  (fun i _ m'=>i.1<=la.length/\Ld la t i.1 i.2.1 i.2.2/\Af PH.mt m' (.slice (some ⟨g,0,none⟩) la.length C) 3 1 (Dj (Zl la i.2.1 i.2.2))) (fun i=>la.length-i.1) (0,[],0)
  ⟨mV,Ld.start _ _,a0⟩ ?_
 clear R a0 m1;rintro J ⟨k,ys,c⟩ hJ u' m' P ⟨hk,D,R⟩;simp only at hk D R hJ;have a6:=D.carry;have E:=D.len;have a3:=L.getD k;have a4:=W.getD k;by_cases m:k<la.length
 ·refine G.lT k la.length ?_;have a2:ys.length<la.length:=oV;have X:=Auj (la:=la) (ys:=ys) c a2;rw[E]at X;by_cases Z:k<t.length
  ·obtain⟨bb,ob,rfl,eb⟩:=(hb.mono P).at (j:=k) Z;refine G.lT k t.length<|G.a g 0 la.length C k 1 m<|G.lM none g (0+k*1) (.int .i64 ((la.getD k 0:Nat)-(c:Int))) (R.el (elZ X))<|G.a bb ob t.length cb k 1 Z<|G.lU none bb (ob+k*1) (.int .i64 (t.getD k 0:Nat)) eb ?_;obtain⟨d,hd⟩:∃ d:Int,d=(la.getD k 0:Nat)-(c:Int)-(t.getD k 0:Nat):=⟨_,rfl⟩;refine G.s ((la.getD k 0:Nat)-(c:Int)) (t.getD k 0:Nat) d<|G.a g 0 la.length C k 1 m<|G.storeA 1 PH.mt _ g la.length C k (.int .i64 d) kV R (by rw[B4,Nm c oV];exact m) rfl rfl ?_;intro m2 A;rw[Lw]at A;have U:((Zl la ys c).set k d)[k]?=some d:=by rw[A12 (by rw[Nm c oV];exact m)]
   refine G.a g 0 la.length C k 1 m<|G.lM none g (0+k*1) (.int .i64 d) (A.el (elZ U)) ?_;by_cases F:d<0
   ·refine G.lT' d 0 F ?_;have f:=D.step L W (x:=la.getD k 0) (y:=t.getD k 0) rfl rfl;obtain⟨n,hn⟩:∃ n:Nat,n=(la.getD k 0+1000000000-t.getD k 0-c)%1000000000:=⟨_,rfl⟩;have I:1-(la.getD k 0+1000000000-t.getD k 0-c)/1000000000=1:=oV;rw[<-hn,I]at f;have K:k+1<la.length:=by
     rcases Az8 (k+1) la.length with h|h
     ·exact h
     have:k+1=la.length:=oV;rw[this]at f;have:=f.last N O;omega
    refine G.a g 0 la.length C k 1 m<|G.lM none g (0+k*1) (.int .i64 d) (A.el (elZ U))<|G.p d 1000000000 n<|G.a g 0 la.length C k 1 m<|G.storeA 1 PH.mt _ g la.length C k (.int .i64 n) kV A (by rw[B4,A1o,Nm c oV];exact m) rfl rfl ?_;intro m3 H;rw[Lw,A7o]at H;refine G.i k ?_;have V:=Aic (la:=la) (ys:=ys) c n oV;rw[E]at V;have a1:=L.getD (k+1);refine G.a g 0 la.length C (k+1) 1 K<|G.lM none g (0+(k+1)*1) (.int .i64 ((la.getD (k+1) 0:Nat):Int)) (H.el (elZ V))<|G.sub ((la.getD (k+1) 0:Nat):Int) 1 ((la.getD (k+1) 0:Nat)-1) kV rfl oV oV<|G.a g 0 la.length C (k+1) 1 K<|G.storeA 1 PH.mt _ g la.length C (k+1) (.int .i64 ((la.getD (k+1) 0:Nat)-1)) kV H (by rw[B4,A1o,Nm c oV];exact K) rfl rfl ?_;intro m4 T;have Q:=Ad0 (la:=la) (ys:=ys) c n oV;rw[E]at Q;rw[Lw,Q]at T;exact G.i k<|G.b (hJ (k+1,ys++[n],1) _ _ _ cV P ⟨oV,f,T⟩ dV)
   refine G.lF' d 0 F ?_;have f:=D.step L W (x:=la.getD k 0) (y:=t.getD k 0) rfl rfl;obtain⟨n,hn⟩:∃ n:Nat,n=(la.getD k 0+1000000000-t.getD k 0-c)%1000000000:=⟨_,rfl⟩;have I:1-(la.getD k 0+1000000000-t.getD k 0-c)/1000000000=0:=oV;rw[<-hn,I]at f;have Y:d=(n:Int):=oV;have Q:=Uu (la:=la) (ys:=ys) c n oV;rw[E]at Q;rw[Y,Q]at A;exact G.i k<|G.b (hJ (k+1,ys++[n],0) _ _ _ cV P ⟨oV,f,A⟩ dV)
  have hz:=Fr Z;refine G.lF k t.length ?_;obtain⟨d,hd⟩:∃ d:Int,d=(la.getD k 0:Nat)-(c:Int)-(t.getD k 0:Nat):=⟨_,rfl⟩;have A:Af PH.mt m' (.slice (some ⟨g,0,none⟩) la.length C) 3 1 (Dj ((Zl la ys c).set k d)):=by
   have e:(Zl la ys c).set k d=Zl la ys c:=by
    have:(la.getD k 0:Nat)-(c:Int)=d:=oV;rw[this]at X;refine A2f fun j=>?_;by_cases hj:k=j
    ·subst hj;rw[A12 (by rw[Nm c oV];exact m),X]
    rw[A37 hj]
   rw[e];exact R
  have U:((Zl la ys c).set k d)[k]?=some d:=by rw[A12 (by rw[Nm c oV];exact m)]
  refine G.a g 0 la.length C k 1 m<|G.lM none g (0+k*1) (.int .i64 d) (A.el (elZ U)) ?_;by_cases F:d<0
  ·refine G.lT' d 0 F ?_;have f:=D.step L W (x:=la.getD k 0) (y:=t.getD k 0) rfl rfl;obtain⟨n,hn⟩:∃ n:Nat,n=(la.getD k 0+1000000000-t.getD k 0-c)%1000000000:=⟨_,rfl⟩;have I:1-(la.getD k 0+1000000000-t.getD k 0-c)/1000000000=1:=oV;rw[<-hn,I]at f;have K:k+1<la.length:=by
    rcases Az8 (k+1) la.length with h|h
    ·exact h
    have:k+1=la.length:=oV;rw[this]at f;have:=f.last N O;omega
   refine G.a g 0 la.length C k 1 m<|G.lM none g (0+k*1) (.int .i64 d) (A.el (elZ U))<|G.p d 1000000000 n<|G.a g 0 la.length C k 1 m<|G.storeA 1 PH.mt _ g la.length C k (.int .i64 n) kV A (by rw[B4,A1o,Nm c oV];exact m) rfl rfl ?_;intro m3 H;rw[Lw,A7o]at H;refine G.i k ?_;have V:=Aic (la:=la) (ys:=ys) c n oV;rw[E]at V;have a1:=L.getD (k+1);refine G.a g 0 la.length C (k+1) 1 K<|G.lM none g (0+(k+1)*1) (.int .i64 ((la.getD (k+1) 0:Nat):Int)) (H.el (elZ V))<|G.sub ((la.getD (k+1) 0:Nat):Int) 1 ((la.getD (k+1) 0:Nat)-1) kV rfl oV oV<|G.a g 0 la.length C (k+1) 1 K<|G.storeA 1 PH.mt _ g la.length C (k+1) (.int .i64 ((la.getD (k+1) 0:Nat)-1)) kV H (by rw[B4,A1o,Nm c oV];exact K) rfl rfl ?_;intro m4 T;have Q:=Ad0 (la:=la) (ys:=ys) c n oV;rw[E]at Q;rw[Lw,Q]at T;exact G.i k<|G.b (hJ (k+1,ys++[n],1) _ _ _ cV P ⟨oV,f,T⟩ dV)
  refine G.lF' d 0 F ?_;have f:=D.step L W (x:=la.getD k 0) (y:=t.getD k 0) rfl rfl;obtain⟨n,hn⟩:∃ n:Nat,n=(la.getD k 0+1000000000-t.getD k 0-c)%1000000000:=⟨_,rfl⟩;have I:1-(la.getD k 0+1000000000-t.getD k 0-c)/1000000000=0:=oV;rw[<-hn,I]at f;have Y:d=(n:Int):=oV;have Q:=Uu (la:=la) (ys:=ys) c n oV;rw[E]at Q;rw[Y,Q]at A;exact G.i k<|G.b (hJ (k+1,ys++[n],0) _ _ _ cV P ⟨oV,f,A⟩ dV)
 obtain rfl:k=la.length:=oV;refine G.lF la.length la.length ?_;have a5:=D.last N O;rw[Aro c E,show Dj (Il ys)=Ai ys from Su ys]at R;refine G.give PH.mt (Ai ys) _ kV R (fun _=>.inl rfl) ?_;intro u1 l1 hL;exact G.r (.slice (some ⟨g,0,none⟩) la.length C) ⟨rfl,ys,hL,D.low,D.done N O,E⟩
end
section
variable {a:Option Addr}{c n:Nat}{l:List Nat}{u:PH}{x x':Value}{y z:Int}
def Dm (u:PH)(v:Value)(z:Int):Prop:=∃ a n c,v=.agg #[.bool (decide (z<0)),.slice a n c]/\Co u (.slice a n c) (Aa z.natAbs)
def Dm.mono {u u':PH}{v:Value}{z:Int}(h:Dm u v z)(hl:PH.le u u'):Dm u' v z:=by
 obtain⟨a,n,c,h1,h2⟩:=h;exact⟨a,n,c,h1,h2.mono hl⟩
def Dm.opn {v:Value}(h:Dm u v z):∃ b a n c,v=.agg #[.bool b,.slice a n c]/\b=decide (z<0)/\Co u (.slice a n c) (Aa z.natAbs):=by
 obtain⟨a,n,c,rfl,e⟩:=h;exact⟨_,a,n,c,rfl,rfl,e⟩
def Aqa (e:Low l):0<Bv l l.length↔0<val l:=by
 have:=Jz e;rw[<-Cz (n:=val l),this,Ay1];have:=Lx l l.length;omega
def Ae5 (b:Bool)(h:Co u (.slice a n c) l)(e:Low l):Dm u (.agg #[.bool (b&&decide (0<Bv l l.length)),.slice a (Bv l l.length) c]) (B6 b (val l)):=by
 refine⟨a,Bv l l.length,c,?_,?_⟩
 ·rw[Xr,decide_eq_decide.2 (Aqa e)]
 rw[Kc,Jz e];exact h.take _ (Lx _ _)
def D3 {b:Bool}(h:Co u (.slice a n c) l)(D:Low l)(E:l.length<=1000000000000000000) :
 Fn0 prog 128 [.agg #[.bool b,.slice a n c]] u fun v f=>Dm f v (B6 b (val l)):=by
 intro w j;refine Calls.mono (Apw (b:=b) h E w j) fun e w' C=>?_;obtain⟨v,f,F,m,t,g,A,rfl⟩:=C;exact⟨_,f,F,m,t,g,A,Ae5 b (h.mono (g.le j.pu)) D⟩
def Sd (h:Dm u x z)(g:nl z.natAbs<=1000000000000000000):Fn0 prog 130 [x] u fun v t=>Dm t v (-z):=by
 obtain⟨b,a,n,c,rfl,f,hi⟩:=h.opn;obtain⟨rfl,A⟩:=hi.len;have j:(Aa z.natAbs).length<=1000000000000000000:=g;refine Fn0.o func130 ?_;have hp:=Cz (n:=z.natAbs);have fin:∀ b':Bool,b'=decide (-z<0)->Dm u (.agg #[.bool b',.slice a (Aa z.natAbs).length c]) (-z):=fun b' e=>⟨a,(Aa z.natAbs).length,c,by rw[e],by rw[A1p];exact hi⟩;cases b
 ·have m:0<=z:=by simpa using f.symm
  by_cases h0:0<(Aa z.natAbs).length
  ·exact G.gT ((Aa z.natAbs).length:Int) 0<|G.r (.agg #[.bool true,.slice a (Aa z.natAbs).length c]) ⟨rfl,fin true (by have:=hp.1 h0;simp;omega)⟩
  exact G.gF ((Aa z.natAbs).length:Int) 0<|G.r (.agg #[.bool false,.slice a (Aa z.natAbs).length c]) ⟨rfl,fin false (by have:¬ 0<z.natAbs:=fun h=>h0 (hp.2 h);simp;omega)⟩
 have m:z<0:=by simpa using f.symm
 exact G.r (.agg #[.bool false,.slice a (Aa z.natAbs).length c]) ⟨rfl,fin false gV⟩
def Fb {m n:Nat}(h:n<=m):(Aa n).length<=(Aa m).length:=Cs h
def Ai6 (Y:Dm u x y)(R:Dm u x' z)(Z:nl y.natAbs<=1000000000000)(sz:nl z.natAbs<=1000000000000):Fn0 prog 66 [x,x'] u fun v u'=>Dm u' v (y+z):=by
 obtain⟨b,a,n,c,rfl,P,hi⟩:=Y.opn;obtain⟨b',a',n',c',rfl,t,g⟩:=R.opn;have N:(Aa y.natAbs).length<=1000000000000:=Z;have O:(Aa z.natAbs).length<=1000000000000:=sz;refine Fn0.o func66<|G.eqB b b' kV ?_;by_cases f:b=b'
 ·have m:=Ad5 (y:=y) (z:=z) (by rw[<-P,<-t,f]);rw[<-P]at m;rw[show (b==b')=true by rw[f];simp];refine G.c call131 (Apx hi g (An _) (An _) N O) ?_;rintro T u1 K ⟨l,j,F,H,W⟩;obtain⟨U,V,rfl,I⟩:=j.opn;refine G.c call128 (D3 (b:=b) j F oV) ?_;intro X Q l2 e;rw[H,Al,Al,m]at e;obtain⟨D,C,L,E,rfl,_,_⟩:=e.opn;exact G.r (.agg #[.bool D,.slice C L E]) ⟨rfl,e⟩
 rw[show (b==b')=false by simpa using f];have J:decide (y<0)≠decide (z<0):=by rw[<-P,<-t];exact f
 refine G.c call132 (Lc hi g oV oV) ?_;rintro T u1 K rfl;by_cases A:z.natAbs<=y.natAbs
 ·have m:=Z3 (y:=y) (z:=z) J A;rw[<-P]at m;refine G.hT' (sgn ((y.natAbs:Int)-z.natAbs)) 0 (by rcases A2s ((y.natAbs:Int)-z.natAbs) 0 with h|h|h<;>first|omega|(rw[h];decide)|(rw[C7 h];decide)) ?_
  refine G.c call133 (Lj (hi.mono K) (g.mono K) (An _) (An _) N (Fb A) (by rw[Al,Al];exact A)) ?_;rintro T Q l2 ⟨l,j,F,H,W⟩;obtain⟨U,V,rfl,I⟩:=j.opn;refine G.c call128 (D3 (b:=b) j F oV) ?_;intro X Q l2 e;rw[H,Al,Al,m]at e;obtain⟨D,C,L,E,rfl,_,_⟩:=e.opn;exact G.r (.agg #[.bool D,.slice C L E]) ⟨rfl,e⟩
 have m:=Yz (y:=y) (z:=z) J oV;rw[<-t]at m;refine G.hF' (sgn ((y.natAbs:Int)-z.natAbs)) 0 (by rw[Ej oV];decide)<|G.c call133 (Lj (g.mono K) (hi.mono K) (An _) (An _) O (Fb oV) (by rw[Al,Al];omega)) ?_;rintro T Q l2 ⟨l,j,F,H,W⟩;obtain⟨U,V,rfl,I⟩:=j.opn;refine G.c call128 (D3 (b:=b') j F oV) ?_;intro X Q l2 e;rw[H,Al,Al,m]at e;obtain⟨D,C,L,E,rfl,_,_⟩:=e.opn;exact G.r (.agg #[.bool D,.slice C L E]) ⟨rfl,e⟩
def Att (h:Dm u x y)(e:Dm u x' z)(F:nl y.natAbs<=1000000000000)(sz:nl z.natAbs<=1000000000000):Fn0 prog 65 [x,x'] u fun v H=>Dm H v (y-z):=by
 obtain⟨b,a,n,c,rfl,O,hi⟩:=h.opn;obtain⟨b',I,Q,L,rfl,A,C⟩:=e.opn;refine Fn0.o func65<|G.c call130 (Sd e oV) ?_;intro V T D g;obtain⟨K,J,R,N,rfl,_,_⟩:=g.opn;refine G.c call66 (Ai6 (h.mono D) g F (by rw[A1p];exact sz)) ?_;intro W U P f;rw[<-A4q]at f;obtain⟨m,j,E,t,rfl,_,_⟩:=f.opn;exact G.r (.agg #[.bool m,.slice j E t]) ⟨rfl,f⟩
end
section
variable {j:Nat}{l:List Nat}
def Le (l:List Nat)(j n:Nat):(Ai l).set j (.int .i64 n)=Ai (l.set j n):=by simp[Ai,A1d]
def Zt (h:j<l.length):(Ai l)[j]?=some (.int .i64 (l.getD j 0:Nat)):=by simp[Ai,h]
def Tv (n:Nat):List.replicate n (Value.int .i64 0)=Ai (List.replicate n 0):=by simp[Ai]
def Acp (h:j<l.length)(r:List Nat):(l++r).getD j 0=l.getD j 0:=by
 rw[Ays,Ays,Azi h]
def Aip (h:j<l.length)(r:List Nat)(d:Nat):(l++r).set j d=l.set j d++r:=A6t _ _ h
def Aqi (h:j<l.length)(h0:l.getD j 0=0):l.set j 0=l:=by
 refine A2f fun i=>?_;by_cases hi:j=i
 ·subst hi;rw[A12 h,Ayr h];rw[Ays,Ayr h]at h0;simpa using h0.symm
 rw[A37 hi]
def Axl (la lb:List Nat)(i k:Nat)(o:List Nat)(c:Nat):Prop:=(k<=lb.length/\Gk la lb i k o c)\/(k=lb.length+1/\c=0/\Gk la lb (i+1) 0 o 0)
def Ke {u:PH}{x x':Value}{y z:Int}(hx:Dm u x y)(a4:Dm u x' z)(sy:nl y.natAbs<=1000000000000)(sz:nl z.natAbs<=1000000000000):Fn0 prog 64 [x,x'] u fun v u'=>Dm u' v (y*z):=by
 obtain⟨b,a,n,c,rfl,hb,hi⟩:=hx.opn;obtain⟨b',a',n',Z,rfl,a0,U⟩:=a4.opn;obtain⟨rfl,_⟩:=hi.len;obtain⟨rfl,_⟩:=U.len;have V:=An y.natAbs;have N:=An z.natAbs;have ab:(Aa y.natAbs).length<=1000000000000:=sy;have ac:(Aa z.natAbs).length<=1000000000000:=sz;have L:∀ l:List Nat,Low l->val l=y.natAbs*z.natAbs->B6 (!(b==b')) (val l)=y*z:=by
  intro l _ hv;rw[hv,hb,a0];exact Ada y z
 have a2:=Al y.natAbs;have a3:=Al z.natAbs;rw[<-a2,<-a3]at L;generalize Aa y.natAbs=la at *
 generalize Aa z.natAbs=lb at *
 refine Fn0.o func64<|G.p la.length lb.length (la.length+lb.length:Nat)<|G.p (la.length+lb.length:Nat) 1 (la.length+lb.length+1:Nat)<|G.make 3 1 8 (.int .i64 0) (la.length+lb.length+1) kV rfl rfl oV oV oV ?_;intro vo m1 A _;rw[Tv]at A;obtain⟨F,K,rfl⟩:=A.ptr (by intro e;have:=congrArg List.length e;rw[Ak,A1a,A1t]at this;omega);rw[Ak,A1a]at A⊢;rw[show List.replicate (la.length+lb.length+1) 0=List.replicate (la.length+lb.length) 0++[0] from A6u ..]at A;refine G.l (ι:=Nat×List Nat) (fun i=>[(2,.p 0 0),(3,.p 1 0),(4,.p 2 0),(5,sV (some ⟨F,0,none⟩) (la.length+lb.length+1) K),(6,iV i.1)])
  (fun _=>[(0,⟨50,[bV b,sV a la.length c]⟩),(1,⟨50,[bV b',sV a' lb.length Z]⟩),(2,⟨50,[bV false,sV none 0 0]⟩)])
  (fun i _ T=>i.1<=la.length/\Gk la lb i.1 0 i.2 0/\Af PH.mt T (.slice (some ⟨F,0,none⟩) (la.length+lb.length+1) K) 3 1 (Ai (i.2++[0]))) (fun i=>la.length-i.1) (0,List.replicate (la.length+lb.length) 0)
  ⟨mV,Gk.start _ _,A⟩ ?_
 clear A m1;rintro J ⟨i,o⟩ hJ u' T R ⟨hk,f,A⟩;simp only at hk f A hJ;by_cases I:i<la.length
 ·refine G.lT i la.length ?_;obtain⟨Y,oa,rfl,ea⟩:=(hi.mono R).at (j:=i) I;have a6:=V.getD i;refine G.l (ι:=Nat×List Nat×Nat) (fun q=>[(2,.p 0 0),(3,.p 1 0),(4,.p 2 0),(5,sV (some ⟨F,0,none⟩) (la.length+lb.length+1) K),(6,iV i),(7,iV q.2.2),(8,iV q.1)])
   (fun _=>[(0,⟨50,[bV b,sV (some ⟨Y,oa,none⟩) la.length c]⟩),(1,⟨50,[bV b',sV a' lb.length Z]⟩),(2,⟨50,[bV false,sV none 0 0]⟩)])
   (fun q _ T=>Axl la lb i q.1 q.2.1 q.2.2/\Af PH.mt T (.slice (some ⟨F,0,none⟩) (la.length+lb.length+1) K) 3 1 (Ai (q.2.1++[0]))) (fun q=>lb.length+1-q.1) (0,o,0)
   ⟨.inl ⟨mV,f⟩,A⟩ ?_
  clear A f T;rintro J2 ⟨k,o,m⟩ P u2 T D ⟨E,A⟩;simp only at E A P;have a1:o.length=la.length+lb.length:=by rcases E with ⟨_,h⟩|⟨_,_,h⟩<;>exact h.len
  have a9:m<1000000000:=by rcases E with ⟨_,h⟩|⟨_,h,_⟩;exact h.carry;omega
  have aa:=(show Low o by rcases E with ⟨_,h⟩|⟨_,_,h⟩<;>exact h.low).getD (i+k)
  by_cases Q:k<lb.length
  ·have f:Gk la lb i k o m:=by rcases E with ⟨_,h⟩|⟨h,_⟩;exact h;omega
   obtain⟨bb,ob,rfl,eb⟩:=(U.mono (R.trans D)).at (j:=k) Q;have a7:=N.getD k;have C:i+k<(o++[0]).length:=gV;refine G.lT k lb.length<|G.p i k (i+k:Nat)<|G.a F 0 (la.length+lb.length+1) K (i+k) 1 oV<|G.lM none F (0+(i+k)*1) (.int .i64 ((o++[0]).getD (i+k) 0:Nat)) (A.el (Zt C)) ?_;rw[Acp oV];refine G.p m (o.getD (i+k) 0:Nat) ((m+o.getD (i+k) 0:Nat):Int)<|G.lT k lb.length<|G.a Y oa la.length c i 1 I<|G.lU none Y (oa+i*1) (.int .i64 (la.getD i 0:Nat)) (ea.mono D)<|G.a bb ob lb.length Z k 1 Q<|G.lU none bb (ob+k*1) (.int .i64 (lb.getD k 0:Nat)) eb ?_;have hp:la.getD i 0*lb.getD k 0<=999999999*999999999:=A1u oV oV;refine G.mul (la.getD i 0:Nat) (lb.getD k 0:Nat) ((la.getD i 0*lb.getD k 0:Nat):Int) kV (A27 _ _).symm oV oV ?_;obtain⟨t,ht⟩:∃ t,t=o.getD (i+k) 0+la.getD i 0*lb.getD k 0+m:=⟨_,rfl⟩;refine G.p ((m+o.getD (i+k) 0:Nat):Int) ((la.getD i 0*lb.getD k 0:Nat):Int) (t:Int)<|G.p i k (i+k:Nat)<|G.rem (t:Int) 1000000000 ((t%1000000000:Nat):Int) kV oV oV oV oV<|G.a F 0 (la.length+lb.length+1) K (i+k) 1 oV<|G.storeA 1 PH.mt _ F (la.length+lb.length+1) K (i+k) (.int .i64 (t%1000000000:Nat)) kV A (by rw[Ak];exact C) rfl rfl ?_;intro m2 H;rw[Le,Aip oV]at H;exact G.quo (t:Int) 1000000000 ((t/1000000000:Nat):Int) kV oV oV oV oV<|G.i k<|G.b (P (k+1,o.set (i+k) (t%1000000000),t/1000000000) _ _ _ cV D ⟨.inl ⟨oV,f.step V N Q I rfl rfl rfl ht⟩,H⟩ dV)
  refine G.lF k lb.length ?_;by_cases a8:0<m
  ·have f:Gk la lb i lb.length o m/\k=lb.length:=by
    rcases E with ⟨h1,h⟩|⟨_,h,_⟩
    ·obtain rfl:k=lb.length:=oV;exact⟨h,rfl⟩
    omega
   obtain⟨f,rfl⟩:=f;obtain⟨X,g⟩:=f.next I;have C:i+lb.length<(o++[0]).length:=gV;refine G.gT m 0<|G.p i lb.length (i+lb.length:Nat)<|G.a F 0 (la.length+lb.length+1) K (i+lb.length) 1 oV<|G.lM none F (0+(i+lb.length)*1) (.int .i64 ((o++[0]).getD (i+lb.length) 0:Nat)) (A.el (Zt C)) ?_;rw[Acp oV];refine G.p m (o.getD (i+lb.length) 0:Nat) (m:Int)<|G.lF lb.length lb.length<|G.p i lb.length (i+lb.length:Nat)<|G.rem (m:Int) 1000000000 (m:Int) kV oV oV oV oV<|G.a F 0 (la.length+lb.length+1) K (i+lb.length) 1 oV<|G.storeA 1 PH.mt _ F (la.length+lb.length+1) K (i+lb.length) (.int .i64 m) kV A (by rw[Ak];exact C) rfl rfl ?_;intro m2 H;rw[Le,Aip oV]at H;exact G.quo (m:Int) 1000000000 0 kV oV oV oV oV<|G.p lb.length 1 (lb.length+1:Nat)<|G.b (P (lb.length+1,o.set (i+lb.length) m,0) _ _ _ cV D ⟨.inr ⟨rfl,rfl,g⟩,H⟩ dV)
  refine G.gF m 0 ?_;have f:Gk la lb (i+1) 0 o 0:=by
   rcases E with ⟨h1,h⟩|⟨_,_,h⟩
   ·obtain rfl:k=lb.length:=oV;obtain rfl:m=0:=oV;obtain⟨X,g⟩:=h.next I;rw[Aqi oV X]at g;exact g
   exact h
  exact G.i i<|G.b (hJ (i+1,o) _ _ _ cV (R.trans D) ⟨oV,f,A⟩ dV)
 obtain rfl:i=la.length:=oV;refine G.lF la.length la.length<|G.give PH.mt (Ai (o++[0])) _ kV A (fun _=>.inl rfl) ?_;intro u1 l1 hL;have O:Low (o++[0]):=f.low.append (Low.cons oV Low.nil);have W:val (o++[0])=val la*val lb:=by rw[Jk,A1y,A1r];exact f.done
 have a1:=f.len;refine G.neB b b' kV<|G.c call128 (D3 (b:=!(b==b')) hL O gV) ?_;intro v2 u2 l2 h5;rw[L _ O W]at h5;obtain⟨b5,a5,n5,c5,rfl,_,_⟩:=h5.opn;exact G.r (.agg #[.bool b5,.slice a5 n5 c5]) ⟨rfl,h5⟩
end
section
variable {R Y c k n:Nat}{a ys:List Nat}
structure Ix (a:List Nat)(n k:Nat)(ys:List Nat)(c:Nat):Prop where
 len:ys.length=k
 low:Low ys
 carry:c<1000000000
 sum:val ys+1000000000^k*c=val (a.take k)*n
def Ix.start (a:List Nat)(n:Nat):Ix a n 0 [] 0:=⟨rfl,Low.nil,oV,by simp[val]⟩
def Ix.step {n k c t:Nat}(h:Ix a n k ys c)(e:Low a)(m:n<1000000000)(f:t=c+a.getD k 0*n):Ix a n (k+1) (ys++[t%1000000000]) (t/1000000000):=by
 have g:=e.getD k;have j:=h.carry;have hp:a.getD k 0*n<=999999999*999999999:=A1u oV oV;refine⟨by simp[h.len],h.low.append (Low.cons oV Low.nil),oV,?_⟩;rw[Jk,A9,h.len,A0d,A1l,Hz,Azt];have:=h.sum;rw[f,A0g,<-A1l,this,Az4]
def Ix.over (h:Ix a n k ys c)(f:¬ k<a.length)(e:c=0):val ys=val a*n:=by
 have:=h.sum;rw[Ay6 oV,e]at this;simpa using this
structure Tk (lx:List Nat)(Y k:Nat)(qs:List Nat)(R:Nat):Prop where
 len:qs.length=lx.length
 low:Low qs
 quo:val (qs.drop k)=val (lx.drop k)/Y
 rest:R=val (lx.drop k)%Y
def Tk.start (e:List Nat)(Y:Nat):Tk e Y e.length (List.replicate e.length 0) 0:=by
 refine⟨mV,Low.zeros _,?_,?_⟩
 ·rw[Az1 mV,Az1 oV];simp[val]
 rw[Az1 oV];simp[val]
def Y9 {R Y x:Nat}(e:R<Y)(f:x<1000000000):(x+1000000000*R)/Y<1000000000:=by
 rw[A05 oV];have:1000000000*(R+1)<=1000000000*Y:=A0n _ e;omega
def Tk.step {e f:List Nat}(h:Tk e Y (k+1) f R)(E:Low e)(C:k<e.length)(j:0<Y) :
 Tk e Y k (f.set k ((e.getD k 0+1000000000*R)/Y)) ((e.getD k 0+1000000000*R)%Y):=by
 have A:R<Y:=by rw[h.rest];exact A0z _ j
 have D:=h.len;have m:(f.set k ((e.getD k 0+1000000000*R)/Y)).drop k=(e.getD k 0+1000000000*R)/Y::f.drop (k+1):=by
  rw[Cj _ k gV,A5e oV]
  congr 1
  rw[Ays,A12 oV];rfl
 have t:=Cj e k C;have g:val (e.drop k)=e.getD k 0+1000000000*R+Y*(1000000000*(val (e.drop (k+1))/Y)):=by
  rw[t];simp only[val];have:=A1j (val (e.drop (k+1))) Y;rw[<-h.rest]at this;have u:1000000000*val (e.drop (k+1))=1000000000*(Y*(val (e.drop (k+1))/Y))+1000000000*R:=by rw[<-A0g,this]
  rw[u,Nat.mul_left_comm Y 1000000000];omega
 refine⟨by simpa using D,h.low.set _ (Y9 A (E.getD k)),?_,?_⟩
 ·rw[m,g,Nat.add_mul_div_left _ _ j];simp only[val];rw[h.quo]
 rw[g,Nat.add_mul_mod_self_left]
def Arb {Y R y1 p t e m:Nat}(E:Y=y1*p+t)(C:t<p)(f:0<y1)(D:R=e*p+m)(A:m<p):e/(y1+1)<=R/Y/\R/Y<=e/y1:=by
 have hp:0<p:=oV;have g:0<Y:=by have:=A24 f hp;omega
 constructor
 ·rw[A2x g];have h:Y<=(y1+1)*p:=by rw[Azt];omega
  have j:e/(y1+1)*(y1+1)<=e:=A5g _ _
  calc e/(y1+1)*Y<=e/(y1+1)*((y1+1)*p):=A0n _ h
   _=e/(y1+1)*(y1+1)*p:=by rw[Az4]
   _<=e*p:=Az7 _ j
   _<=R:=oV
 rw[A2x f];have h:R/Y*Y<=R:=A5g _ _;have j:R/Y*(y1*p)<=R/Y*Y:=A0n _ oV;have u:R/Y*y1*p<(e+1)*p:=by rw[Az4,Azt];omega
 exact Nat.le_of_lt_succ (A5a u)
def Av8 (R n:Nat)(u:0<n)(t:(Aa R).length<=n+1)(m:n<=(Aa R).length) :
 ∃ j,R=((Aa R).getD (n-1) 0+(Aa R).getD n 0*1000000000)*1000000000^(n-1)+j/\j<1000000000^(n-1):=by
 refine⟨val ((Aa R).take (n-1)),?_,?_⟩
 ·have h:=Gi (Aa R) (n-1) oV;rw[Al]at h;have g:=Cj (Aa R) (n-1) oV;rw[show n-1+1=n by omega]at g;rcases Az8 n (Aa R).length with f|f
  ·have e:=Cj (Aa R) n f;rw[Az1 (show (Aa R).length<=n+1 by omega)]at e;rw[g,e]at h;simp only[val,A1y,A1r]at h;rw[Az5 _ (1000000000^(n-1)),Az5 ((Aa R).getD n 0)];omega
  rw[Az1 f]at g;rw[g]at h;simp only[val]at h;have h0:(Aa R).getD n 0=0:=by rw[Ays,Azo f];rfl
  rw[h0,Az5 _ (1000000000^(n-1))];simp only[A22,A1y,A1r]at h⊢;omega
 have:=K5 ((An R).take (n-1));rwa[Ay1,A2b oV]at this
end
section
variable {n:Nat}{u:PH}
def Dm.lim {b:Bool}{a:Option Addr}{n c k:Nat}(h:Dm u (.agg #[.bool b,.slice a n c]) (B6 false k)):Co u (.slice a n c) (Aa k):=by
 obtain⟨_,_,_,e,f⟩:=h;simp only[Value.agg.injEq,A19,A0f,Value.bool.injEq,Value.slice.injEq,and_true]at e;obtain⟨_,rfl,rfl,rfl⟩:=e;rw[Kc]at f;exact f
def Jb {X:Value}{la:List Nat}(R:Co u X la)(F:Low la)(sa:la.length<=1000000000000)(hn:n<1000000000) :
 Fn0 prog 194 [X,.int .i64 n] u fun v V=>Co V v (Aa (val la*n)):=by
 obtain⟨a,Q,rfl,a3⟩:=R.opn;refine Fn0.o func194<|G.l (ι:=Nat×List Nat×Nat×Value) (fun i=>[(0,sV a la.length Q),(1,iV n),(5,.v i.2.2.2),(6,iV i.2.2.1),(7,iV i.1)]) (fun _=>[])
  (fun i _ T=>(i.1<=la.length+1/\(la.length+1<=i.1->i.2.2.1=0))/\Af PH.mt T i.2.2.2 3 1 (Ai i.2.1)/\Ix la n i.1 i.2.1 i.2.2.1) (fun i=>la.length+2-i.1) (0,[],0,.slice none 0 0)
  ⟨⟨mV,fun _=>rfl⟩,Af.nil _ _ _,Ix.start _ _⟩ ?_
 rintro J ⟨k,ys,c,D⟩ N V T A ⟨hk,C,e⟩;simp only at hk C e N;have a2:=e.carry;have a0:=F.getD k;have hp:la.getD k 0*n<=999999999*999999999:=A1u oV oV;obtain⟨Z,co,rfl⟩:=C.shape;obtain⟨D,E⟩:∃ D,D=Value.slice Z (Ai ys).length co:=⟨_,rfl⟩;rw[<-E]at C⊢;obtain⟨t,O⟩:∃ t,t=c+la.getD k 0*n:=⟨_,rfl⟩;have h:=e.step F hn O;by_cases m:k<la.length
 ·refine G.lT k la.length<|G.lT k la.length ?_;obtain⟨P,U,rfl,ea⟩:=(R.mono A).at (j:=k) m;refine G.a P U la.length Q k 1 m<|G.lU none P (U+k*1) (.int .i64 (la.getD k 0:Nat)) ea<|G.mul (la.getD k 0:Nat) (n:Int) ((la.getD k 0*n:Nat):Int) kV (A27 _ _).symm oV oV<|G.p c (la.getD k 0*n:Nat) t<|G.rem (t:Int) 1000000000 ((t%1000000000:Nat):Int) kV oV oV oV oV<|G.B 3 1 8 (.int .i64 0) [.int .i64 (t%1000000000:Nat)] (A8 [t%1000000000]) ?_;intro g W H K;refine G.append 3 1 8 (.int .i64 0) PH.mt (Ai ys) [.int .i64 (t%1000000000:Nat)] D g 0 1 1 kV rfl rfl oV C K (A8 [t%1000000000]) rfl oV (by rw[Ak,e.len];omega) (by rw[Ak,e.len];omega) ?_;intro I m2 f;rw[C2]at f;exact G.quo (t:Int) 1000000000 ((t/1000000000:Nat):Int) kV oV oV oV oV<|G.i k<|G.b (N (k+1,ys++[t%1000000000],t/1000000000,I) _ _ _ cV (A.trans H) ⟨⟨oV,dV⟩,f,h⟩ dV)
 have hz:=Fr m;rw[hz,A22,A1r]at O;subst O;refine G.lF k la.length ?_;by_cases a1:0<t
 ·refine G.gT t 0<|G.lF k la.length<|G.rem (t:Int) 1000000000 ((t%1000000000:Nat):Int) kV oV oV oV oV<|G.B 3 1 8 (.int .i64 0) [.int .i64 (t%1000000000:Nat)] (A8 [t%1000000000]) ?_;intro g W H K;refine G.append 3 1 8 (.int .i64 0) PH.mt (Ai ys) [.int .i64 (t%1000000000:Nat)] D g 0 1 1 kV rfl rfl oV C K (A8 [t%1000000000]) rfl oV (by rw[Ak,e.len];omega) (by rw[Ak,e.len];omega) ?_;intro I m2 f;rw[C2]at f;exact G.quo (t:Int) 1000000000 ((t/1000000000:Nat):Int) kV oV oV oV oV<|G.i k<|G.b (N (k+1,ys++[t%1000000000],t/1000000000,I) _ _ _ cV (A.trans H) ⟨⟨oV,dV⟩,f,h⟩ dV)
 refine G.gF t 0<|G.give PH.mt (Ai ys) D kV C (fun _=>.inl rfl) ?_;intro W H hL;have a4:=e.len;subst E;refine G.c call128 (D3 (b:=false) hL e.low oV) ?_;intro I u2 l2 L;rw[e.over m oV]at L;obtain⟨b5,Y,n5,c5,rfl,_,_⟩:=L.opn;exact G.r (.slice Y n5 c5) ⟨rfl,L.lim⟩
end
section
variable {R Y hi lo mid:Nat}{z:Int}
def K9 (m n:Nat):((m:Int)).tdiv n=((m/n:Nat):Int):=rfl
def N9 (m n:Nat):((m:Int)).tmod n=((m%n:Nat):Int):=rfl
def Ala (y z:Int):B6 (!(decide (y<0)==decide (z<0))) (y.natAbs/z.natAbs)=y.tdiv z:=by
 unfold B6;rcases A3z y 0 with e|e<;>rcases A3z z 0 with f|f
 ·rw[decide_eq_true e,decide_eq_true f];obtain⟨m,rfl⟩:∃ m:Nat,y = -(m:Int):=⟨y.natAbs,oV⟩;obtain⟨n,rfl⟩:∃ n:Nat,z = -(n:Int):=⟨z.natAbs,oV⟩;rw[A5o,Int.tdiv_neg,A9i,K9,A1p,A1p];rfl
 ·rw[decide_eq_true e,decide_eq_false (show ¬ z<0 by omega)];obtain⟨m,rfl⟩:∃ m:Nat,y = -(m:Int):=⟨y.natAbs,oV⟩;obtain⟨n,rfl⟩:∃ n:Nat,z=(n:Int):=⟨z.natAbs,oV⟩;rw[A5o,K9,A1p];rfl
 ·rw[decide_eq_false (show ¬ y<0 by omega),decide_eq_true f];obtain⟨m,rfl⟩:∃ m:Nat,y=(m:Int):=⟨y.natAbs,oV⟩;obtain⟨n,rfl⟩:∃ n:Nat,z = -(n:Int):=⟨z.natAbs,oV⟩;rw[Int.tdiv_neg,K9,A1p];rfl
 rw[decide_eq_false (show ¬ y<0 by omega),decide_eq_false (show ¬ z<0 by omega)];obtain⟨m,rfl⟩:∃ m:Nat,y=(m:Int):=⟨y.natAbs,oV⟩;obtain⟨n,rfl⟩:∃ n:Nat,z=(n:Int):=⟨z.natAbs,oV⟩;rw[K9];rfl
def Akr (y z:Int):B6 (decide (y<0)) (y.natAbs%z.natAbs)=y.tmod z:=by
 unfold B6;have e:∀ m:Nat,((m:Int)).tmod z=((m%z.natAbs:Nat):Int):=by
  intro m;rcases A3z z 0 with g|g
  ·obtain⟨n,rfl⟩:∃ n:Nat,z = -(n:Int):=⟨z.natAbs,oV⟩;rw[Int.tmod_neg,N9,A1p];rfl
  obtain⟨n,rfl⟩:∃ n:Nat,z=(n:Int):=⟨z.natAbs,oV⟩;rw[N9];rfl
 rcases A3z y 0 with f|f
 ·rw[decide_eq_true f];obtain⟨m,rfl⟩:∃ m:Nat,y = -(m:Int):=⟨y.natAbs,oV⟩;rw[Int.neg_tmod,e,A1p];rfl
 rw[decide_eq_false (show ¬ y<0 by omega)];obtain⟨m,rfl⟩:∃ m:Nat,y=(m:Int):=⟨y.natAbs,oV⟩;rw[e];rfl
def Au1 {n:Nat}(h:n≠0):0<(Aa n).getD ((Aa n).length-1) 0:=by
 have e:=Jz (An n);rw[Al]at e;have f:=congrArg List.length e;rw[Ay1]at f;have hp:0<(Aa n).length:=Cz.2 oV;have j:=Lx (Aa n) (Aa n).length;have g:=Ty (Aa n) (Aa n).length oV;rw[show Bv (Aa n) (Aa n).length=(Aa n).length by omega]at g;omega
def Afu (h:z<=0):sgn z<=0:=by
 rcases A2s z 0 with e|e|e
 ·rw[Ej e];decide
 ·rw[e];decide
 omega
def Avd (h:0<=z):0<=sgn z:=by
 rcases A2s z 0 with e|e|e
 ·omega
 ·rw[e];decide
 rw[C7 e];decide
def Aso (g:Nat)(u:PH)(x:Nat)(e:Fz u g 0 1 [.int .i64 x]):Ac u (.slice (some ⟨g,0,none⟩) 1 1) 1 (Ai [x]):=⟨_,1,rfl,by simp[Ai],fun j v f=>⟨g,0,rfl,e j v f⟩⟩
def Ahn (x:Nat)(l:List Nat):Ai [x]++Ai l=Ai (x::l):=rfl
structure U7 (Y R lo hi:Nat):Prop where
 a:lo<=R/Y
 b:R/Y<=hi
 c:hi<=999999999
def U7.up (h:U7 Y R lo hi)(e:0<Y)(f:Y*mid<=R):U7 Y R mid hi:=⟨by rw[A2x e,Az5];exact f,h.b,h.c⟩
def U7.down (h:U7 Y R lo hi)(e:0<Y)(g:¬ Y*mid<=R)(h0:0<mid)(f:mid<=hi):U7 Y R lo (mid-1):=by
 have:R/Y<mid:=by rw[A05 e,Az5];omega
 exact⟨h.a,oV,by have:=h.c;omega⟩
def Abi {u:PH}{x x':Value}{y z:Int}(hx:Dm u x y)(bb:Dm u x' z)(sy:nl y.natAbs<=100000000000)(sz:nl z.natAbs<=100000000000)(bu:z≠0) :
 Fn0 prog 129 [x,x'] u fun v u'=>∃ a b,v=.tuple #[a,b]/\Dm u' a (y.tdiv z)/\Dm u' b (y.tmod z):=by
 obtain⟨b,a,n,c,rfl,hb,hi⟩:=hx.opn;obtain⟨b',a',n',c',rfl,ao,az⟩:=bb.opn;obtain⟨rfl,_⟩:=hi.len;obtain⟨rfl,_⟩:=az.len;have b1:=An y.natAbs;have bw:(Aa y.natAbs).length<=100000000000:=sy;have bx:(Aa z.natAbs).length<=100000000000:=sz;have P:0<z.natAbs:=oV;have bg:0<(Aa z.natAbs).length:=Cz.2 P;have af:B6 (!(b==b')) (y.natAbs/z.natAbs)=y.tdiv z:=by rw[hb,ao];exact Ala y z
 have ag:B6 b (y.natAbs%z.natAbs)=y.tmod z:=by rw[hb];exact Akr y z
 have bj:=Al y.natAbs;rw[<-bj]at af ag;generalize Aa y.natAbs=lx at *
 have hY:=Al z.natAbs;have a0:=An z.natAbs;have ab:=Au1 (n:=z.natAbs) oV;generalize z.natAbs=Y at *
 clear hb ao hx bb sy sz;refine Fn0.o func129<|G.make 3 1 8 (.int .i64 0) lx.length kV rfl rfl oV oV oV ?_;rintro vq m1 E ⟨aq,rfl⟩;rw[Tv]at E;refine G.sub (lx.length:Int) 1 ((lx.length:Int)-1) kV rfl oV oV<|G.l (ι:=Int×Nat×List Nat×Value) (fun i=>[(2,.p 0 0),(3,.p 1 0),(4,.p 2 0),(5,.p 3 0),(6,.v i.2.2.2),(7,sV (some aq) lx.length lx.length),(8,iV i.1)])
  (fun _=>[(0,⟨50,[bV b,sV a lx.length c]⟩),(1,⟨50,[bV b',sV a' (Aa Y).length c']⟩),(2,⟨50,[bV false,sV none 0 0]⟩),(3,⟨50,[bV false,sV none 0 0]⟩)])
  (fun i u' m'=>(-1<=i.1/\i.1<lx.length)/\Tk lx Y (i.1+1).toNat i.2.2.1 i.2.1/\Co u' i.2.2.2 (Aa i.2.1)/\Af PH.mt m' (.slice (some aq) lx.length lx.length) 3 1 (Ai i.2.2.1)) (fun i=>(i.1+1).toNat) ((lx.length:Int)-1,0,List.replicate lx.length 0,.slice none 0 0)
  ⟨⟨gV,gV⟩,by rw[show (((lx.length:Int)-1)+1).toNat=lx.length by omega];exact Tk.start _ _,by rw[Bd];exact Ac.nil _ _ _ _,E⟩ ?_
 clear E m1;rintro J ⟨zi,R,qs,vr⟩ hJ u' m' ak ⟨bl,D,hR,E⟩;simp only at bl D hR E hJ;obtain⟨ar,cr,rfl,bt⟩:=hR.opn;by_cases b6:0<=zi
 ·obtain⟨k,rfl⟩:=A4h b6;rw[show ((k:Int)+1).toNat=k+1 by omega]at D;have hk:k<lx.length:=oV;have an:R<Y:=by rw[D.rest];exact A0z _ P
  have bd:=b1.getD k;have t:=D.step b1 hk P;have au:=Y9 an bd;obtain⟨I,bo,e⟩:=E.ptr (by intro e;have:=congrArg List.length e;rw[Ak,D.len,A1t]at this;omega);simp only[Value.slice.injEq,Ayz]at e;obtain⟨rfl,_,_⟩:=e;obtain⟨ba,oa,rfl,ea⟩:=(hi.mono ak).at (j:=k) hk;refine G.hT k 0<|G.a ba oa lx.length c k 1 hk<|G.lU none ba (oa+k*1) (.int .i64 (lx.getD k 0:Nat)) ea<|G.B 3 1 8 (.int .i64 0) [.int .i64 (lx.getD k 0:Nat)] (A8 [lx.getD k 0]) ?_;intro g u1 l1 e1;have aj:(Aa R).length<=(Aa Y).length:=Fb oV;refine G.appendV 3 1 8 (.int .i64 0) (Ai [lx.getD k 0]) (Ai (Aa R)) (some ⟨g,0,none⟩) 1 ar (Aa R).length cr kV oV (Aso g u1 _ e1) (A8 _) (hR.mono l1) (A8 _) (by rw[Ak,Ak];simp;omega) (by rw[Ak,Ak];simp;omega) ?_;intro v2 u2 l2 h2;rw[Ahn]at h2;obtain⟨a2,c2,rfl,bp⟩:=Co.opn h2;refine G.c call128 (D3 (b:=false) (l:=lx.getD k 0::Aa R) h2 (Low.cons bd (An R)) gV) ?_;intro v3 u3 l3 h3;rw[show val (lx.getD k 0::Aa R)=lx.getD k 0+1000000000*R by simp only[val];rw[Al]]at h3;generalize lx.getD k 0+1000000000*R=f at *
  obtain⟨b3,a3,n3,c3,rfl,_,_⟩:=h3.opn;have ai:=h3.lim;obtain⟨rfl,bq⟩:=ai.len;have ad:(Aa f).length<=(Aa Y).length+1:=by
   have h5:=au;rw[A05 P]at h5;refine Bc ?_;have K:=Cy Y;rw[A0d];have h7:1000000000*Y<1000000000*1000000000^nl Y:=Nat.mul_lt_mul_of_pos_left K oV;have h8:(1000000000:Nat)^(Aa Y).length=1000000000^nl Y:=rfl;rw[h8,Az5 (1000000000^nl Y)];omega
  have b0:=az.mono (((ak.trans l1).trans l2).trans l3);refine G.c call132 (Lc ai b0 (by show (Aa f).length<=_;omega) (by show (Aa Y).length<=_;omega)) ?_;rintro v4 u4 l4 rfl;have O:=ai.mono l4;have Q:=b0.mono l4;have V:PH.le u u4:=(((ak.trans l1).trans l2).trans l3).trans l4;by_cases bf:Y<=f
  ·refine G.hT' (sgn ((f:Int)-Y)) 0 (Avd oV) ?_;have al:(Aa Y).length<=(Aa f).length:=Fb bf;obtain⟨rl,bh,bi⟩:=Av8 f (Aa Y).length bg ad al;obtain⟨br,a1,rfl,er⟩:=O.at (j:=(Aa Y).length-1) oV;have bm:=(An f).getD ((Aa Y).length-1);have bn:=(An f).getD (Aa Y).length;have ah:=a0.getD ((Aa Y).length-1);obtain⟨T,oy,rfl,ey⟩:=Q.at (j:=(Aa Y).length-1) oV;have a4:Y=(Aa Y).getD ((Aa Y).length-1) 0*1000000000^((Aa Y).length-1)+val ((Aa Y).take ((Aa Y).length-1)):=by
    have h5:=Gi (Aa Y) ((Aa Y).length-1) oV;rw[hY,Cj _ _ (show (Aa Y).length-1<(Aa Y).length by omega),Az1 oV]at h5;simp only[val,A1y,A1r]at h5;rw[Az5];omega
   have bk:val ((Aa Y).take ((Aa Y).length-1))<1000000000^((Aa Y).length-1):=by
    have:=K5 (a0.take ((Aa Y).length-1));rwa[Ay1,A2b oV]at this
   have av:=Arb a4 bk ab bh bi;refine G.s ((Aa Y).length:Int) 1 (((Aa Y).length-1:Nat):Int)<|G.a br a1 (Aa f).length c3 ((Aa Y).length-1) 1 oV<|G.lU none br (a1+((Aa Y).length-1)*1) (.int .i64 ((Aa f).getD ((Aa Y).length-1) 0:Nat)) er ?_;obtain⟨A,am⟩:∃ A,A=(Aa f).getD ((Aa Y).length-1) 0+(Aa f).getD (Aa Y).length 0*1000000000:=⟨_,rfl⟩;rw[<-am]at av;have b5:∀ k:Nat,((min (999999999:Int) (k:Int)))=((min 999999999 k:Nat):Int):=fun k=>oV;obtain⟨h1,X⟩:∃ h1,h1=min 999999999 (A/(Aa Y).getD ((Aa Y).length-1) 0):=⟨_,rfl⟩;obtain⟨l0,Z⟩:∃ l0,l0=min h1 (A/((Aa Y).getD ((Aa Y).length-1) 0+1)):=⟨_,rfl⟩;have C:U7 Y f l0 h1:=⟨oV,oV,oV⟩;by_cases a9:(Aa Y).length<(Aa f).length
   ·refine G.gT ((Aa f).length:Int) ((Aa Y).length:Int) ?_;obtain⟨_,_,e9,be⟩:=O.at (j:=(Aa Y).length) a9;simp only[Ayz,Addr.mk.injEq,and_true]at e9;obtain⟨rfl,rfl⟩:=e9;refine G.a br a1 (Aa f).length c3 (Aa Y).length 1 a9<|G.lU none br (a1+(Aa Y).length*1) (.int .i64 ((Aa f).getD (Aa Y).length 0:Nat)) be<|G.mul ((Aa f).getD (Aa Y).length 0:Nat) 1000000000 (((Aa f).getD (Aa Y).length 0*1000000000:Nat):Int) kV oV oV oV<|G.p ((Aa f).getD ((Aa Y).length-1) 0:Nat) (((Aa f).getD (Aa Y).length 0*1000000000:Nat):Int) (A:Int) ?_;obtain⟨y1,ac⟩:∃ y1,y1=(Aa Y).getD ((Aa Y).length-1) 0:=⟨_,rfl⟩;rw[<-ac]at ey X Z ab ah;refine G.s ((Aa Y).length:Int) 1 (((Aa Y).length-1:Nat):Int)<|G.a T oy (Aa Y).length c' ((Aa Y).length-1) 1 oV<|G.lU none T (oy+((Aa Y).length-1)*1) (.int .i64 (y1:Nat)) ey<|G.quo (A:Int) (y1:Int) ((A/y1:Nat):Int) kV oV oV oV (A23 _ _).symm<|G.minI [3,3] 999999999 ((A/y1:Nat):Int) (h1:Int) kV (by rw[b5,X])<|G.s ((Aa Y).length:Int) 1 (((Aa Y).length-1:Nat):Int)<|G.a T oy (Aa Y).length c' ((Aa Y).length-1) 1 oV<|G.lU none T (oy+((Aa Y).length-1)*1) (.int .i64 (y1:Nat)) ey<|G.i y1<|G.quo (A:Int) ((y1+1:Nat):Int) ((A/(y1+1):Nat):Int) kV oV oV oV (A23 _ _).symm<|G.minI [3,3] (h1:Int) ((A/(y1+1):Nat):Int) (l0:Int) kV (by rw[Z];omega)<|G.l (ι:=Nat×Nat) (fun i=>[(2,.p 0 0),(3,.p 1 0),(4,.p 2 0),(5,.p 3 0),(6,sV (some ⟨br,a1,none⟩) (Aa f).length c3),(7,sV (some ⟨I,0,none⟩) lx.length lx.length),(8,iV k),(9,iV i.1),(10,iV i.2)])
     (fun _=>[(0,⟨50,[bV b,sV (some ⟨ba,oa,none⟩) lx.length c]⟩),(1,⟨50,[bV b',sV (some ⟨T,oy,none⟩) (Aa Y).length c']⟩),(2,⟨50,[bV false,sV none 0 0]⟩),(3,⟨50,[bV false,sV none 0 0]⟩)])
     (fun i _ m'=>U7 Y f i.1 i.2/\Af PH.mt m' (.slice (some ⟨I,0,none⟩) lx.length lx.length) 3 1 (Ai qs)) (fun i=>i.2-i.1) (l0,h1) ⟨C,E⟩ ?_
    clear C E Z X;rintro J2 ⟨lo,m⟩ N u5 m' h ⟨U,E⟩;simp only at U E N;have aw:=U.a;have ax:=U.b;have ay:=U.c;by_cases b4:lo<m
    ·refine G.lT lo m<|G.p lo m (lo+m:Nat)<|G.p (lo+m:Nat) 1 (lo+m+1:Nat) ?_;obtain⟨mid,ae⟩:∃ mid,mid=(lo+m+1)/2:=⟨_,rfl⟩;refine G.quo ((lo+m+1:Nat):Int) 2 (mid:Int) kV oV oV oV oV<|G.c call194 (Jb (n:=mid) (Q.mono h) a0 oV oV) ?_;intro v6 u6 W K;rw[hY]at K;obtain⟨a6,c6,rfl,a5⟩:=K.opn;have b9:(Aa (Y*mid)).length<=200000000002:=by
      have h5:=In Y mid;have h7:nl mid<=1:=Bc oV;have h8:nl Y=(Aa Y).length:=rfl;have h9:nl (Y*mid)=(Aa (Y*mid)).length:=rfl;omega
     refine G.c call132 (Lc K ((O.mono h).mono W) (by show (Aa (Y*mid)).length<=_;omega) (by show (Aa f).length<=_;omega)) ?_;rintro v7 u7 l7 rfl;by_cases F:Y*mid<=f
     ·exact G.kT' (sgn (((Y*mid:Nat):Int)-f)) 0 (Afu oV)<|G.b (N (mid,m) _ _ _ cV ((h.trans W).trans l7) ⟨U.up P F,E⟩ dV)
     exact G.kF' (sgn (((Y*mid:Nat):Int)-f)) 0 (by rw[C7 oV];decide)<|G.s mid 1 (mid-1:Nat)<|G.b (N (lo,mid-1) _ _ _ cV ((h.trans W).trans l7) ⟨U.down P F oV oV,E⟩ dV)
    obtain rfl:lo=f / Y:=oV;refine G.lF (f / Y:Nat) m<|G.a I 0 lx.length lx.length k 1 hk<|G.storeA 1 PH.mt _ I lx.length lx.length k (.int .i64 (f / Y:Nat)) kV E (by rw[Ak,D.len];exact hk) rfl rfl ?_;intro m2 L;rw[Le]at L;by_cases b7:0<f / Y
    ·refine G.gT (f / Y:Nat) 0<|G.c call194 (Jb (n:=f / Y) (Q.mono h) a0 oV oV) ?_;intro v6 u6 W K;rw[hY]at K;have H:Y*(f / Y)<=f:=A8a f Y;obtain⟨a6,c6,rfl,a5⟩:=K.opn;refine G.c call133 (Lj ((O.mono h).mono W) K (An _) (An _) oV (Fb H) (by rw[Al,Al];exact H)) ?_;rintro v7 u7 l7 ⟨l,g1,g2,g3,g4⟩;obtain⟨a7,c7,rfl,ap⟩:=g1.opn;refine G.c call128 (D3 (b:=false) g1 g2 oV) ?_;intro v8 u8 l8 h8;rw[g3,Al,Al,show f - Y*(f / Y)=f % Y by have:=A1j f Y;omega]at h8;obtain⟨b8,a8,n8,c8,rfl,_,_⟩:=h8.opn;refine G.sub (k:Int) 1 ((k:Int)-1) kV rfl oV oV<|G.b (hJ ((k:Int)-1,f % Y,qs.set k (f / Y),.slice a8 n8 c8) _ _ _ cV ((((V.trans h).trans W).trans l7).trans l8) ⟨⟨dV,dV⟩,?_,h8.lim,L⟩ dV);rw[show (((k:Int)-1)+1).toNat=k by omega];exact t
    refine G.gF (f / Y:Nat) 0<|G.sub (k:Int) 1 ((k:Int)-1) kV rfl oV oV ?_;have aa:f % Y=f:=by have:=A1j f Y;rw[show f / Y=0 by omega,A1y]at this;omega
    rw[aa]at t;refine G.b (hJ ((k:Int)-1,f,qs.set k (f / Y),.slice (some ⟨br,a1,none⟩) (Aa f).length c3) _ _ _ cV (V.trans h) ⟨⟨dV,dV⟩,?_,O.mono h,L⟩ dV);rw[show (((k:Int)-1)+1).toNat=k by omega];exact t
   refine G.gF ((Aa f).length:Int) ((Aa Y).length:Int) ?_;have h0:=Fr (l:=Aa f) (k:=(Aa Y).length) oV;rw[h0,A22,A1r]at am;rw[<-am];obtain⟨y1,ac⟩:∃ y1,y1=(Aa Y).getD ((Aa Y).length-1) 0:=⟨_,rfl⟩;rw[<-ac]at ey X Z ab ah;refine G.s ((Aa Y).length:Int) 1 (((Aa Y).length-1:Nat):Int)<|G.a T oy (Aa Y).length c' ((Aa Y).length-1) 1 oV<|G.lU none T (oy+((Aa Y).length-1)*1) (.int .i64 (y1:Nat)) ey<|G.quo (A:Int) (y1:Int) ((A/y1:Nat):Int) kV oV oV oV (A23 _ _).symm<|G.minI [3,3] 999999999 ((A/y1:Nat):Int) (h1:Int) kV (by rw[b5,X])<|G.s ((Aa Y).length:Int) 1 (((Aa Y).length-1:Nat):Int)<|G.a T oy (Aa Y).length c' ((Aa Y).length-1) 1 oV<|G.lU none T (oy+((Aa Y).length-1)*1) (.int .i64 (y1:Nat)) ey<|G.i y1<|G.quo (A:Int) ((y1+1:Nat):Int) ((A/(y1+1):Nat):Int) kV oV oV oV (A23 _ _).symm<|G.minI [3,3] (h1:Int) ((A/(y1+1):Nat):Int) (l0:Int) kV (by rw[Z];omega)<|G.l (ι:=Nat×Nat) (fun i=>[(2,.p 0 0),(3,.p 1 0),(4,.p 2 0),(5,.p 3 0),(6,sV (some ⟨br,a1,none⟩) (Aa f).length c3),(7,sV (some ⟨I,0,none⟩) lx.length lx.length),(8,iV k),(9,iV i.1),(10,iV i.2)])
    (fun _=>[(0,⟨50,[bV b,sV (some ⟨ba,oa,none⟩) lx.length c]⟩),(1,⟨50,[bV b',sV (some ⟨T,oy,none⟩) (Aa Y).length c']⟩),(2,⟨50,[bV false,sV none 0 0]⟩),(3,⟨50,[bV false,sV none 0 0]⟩)])
    (fun i _ m'=>U7 Y f i.1 i.2/\Af PH.mt m' (.slice (some ⟨I,0,none⟩) lx.length lx.length) 3 1 (Ai qs)) (fun i=>i.2-i.1) (l0,h1) ⟨C,E⟩ ?_
   clear C E Z X;rintro J2 ⟨lo,m⟩ N u5 m' h ⟨U,E⟩;simp only at U E N;have aw:=U.a;have ax:=U.b;have ay:=U.c;by_cases b4:lo<m
   ·refine G.lT lo m<|G.p lo m (lo+m:Nat)<|G.p (lo+m:Nat) 1 (lo+m+1:Nat) ?_;obtain⟨mid,ae⟩:∃ mid,mid=(lo+m+1)/2:=⟨_,rfl⟩;refine G.quo ((lo+m+1:Nat):Int) 2 (mid:Int) kV oV oV oV oV<|G.c call194 (Jb (n:=mid) (Q.mono h) a0 oV oV) ?_;intro v6 u6 W K;rw[hY]at K;obtain⟨a6,c6,rfl,a5⟩:=K.opn;have b9:(Aa (Y*mid)).length<=200000000002:=by
     have h5:=In Y mid;have h7:nl mid<=1:=Bc oV;have h8:nl Y=(Aa Y).length:=rfl;have h9:nl (Y*mid)=(Aa (Y*mid)).length:=rfl;omega
    refine G.c call132 (Lc K ((O.mono h).mono W) (by show (Aa (Y*mid)).length<=_;omega) (by show (Aa f).length<=_;omega)) ?_;rintro v7 u7 l7 rfl;by_cases F:Y*mid<=f
    ·exact G.kT' (sgn (((Y*mid:Nat):Int)-f)) 0 (Afu oV)<|G.b (N (mid,m) _ _ _ cV ((h.trans W).trans l7) ⟨U.up P F,E⟩ dV)
    exact G.kF' (sgn (((Y*mid:Nat):Int)-f)) 0 (by rw[C7 oV];decide)<|G.s mid 1 (mid-1:Nat)<|G.b (N (lo,mid-1) _ _ _ cV ((h.trans W).trans l7) ⟨U.down P F oV oV,E⟩ dV)
   obtain rfl:lo=f / Y:=oV;refine G.lF (f / Y:Nat) m<|G.a I 0 lx.length lx.length k 1 hk<|G.storeA 1 PH.mt _ I lx.length lx.length k (.int .i64 (f / Y:Nat)) kV E (by rw[Ak,D.len];exact hk) rfl rfl ?_;intro m2 L;rw[Le]at L;by_cases b7:0<f / Y
   ·refine G.gT (f / Y:Nat) 0<|G.c call194 (Jb (n:=f / Y) (Q.mono h) a0 oV oV) ?_;intro v6 u6 W K;rw[hY]at K;have H:Y*(f / Y)<=f:=A8a f Y;obtain⟨a6,c6,rfl,a5⟩:=K.opn;refine G.c call133 (Lj ((O.mono h).mono W) K (An _) (An _) oV (Fb H) (by rw[Al,Al];exact H)) ?_;rintro v7 u7 l7 ⟨l,g1,g2,g3,g4⟩;obtain⟨a7,c7,rfl,ap⟩:=g1.opn;refine G.c call128 (D3 (b:=false) g1 g2 oV) ?_;intro v8 u8 l8 h8;rw[g3,Al,Al,show f - Y*(f / Y)=f % Y by have:=A1j f Y;omega]at h8;obtain⟨b8,a8,n8,c8,rfl,_,_⟩:=h8.opn;refine G.sub (k:Int) 1 ((k:Int)-1) kV rfl oV oV<|G.b (hJ ((k:Int)-1,f % Y,qs.set k (f / Y),.slice a8 n8 c8) _ _ _ cV ((((V.trans h).trans W).trans l7).trans l8) ⟨⟨dV,dV⟩,?_,h8.lim,L⟩ dV);rw[show (((k:Int)-1)+1).toNat=k by omega];exact t
   refine G.gF (f / Y:Nat) 0<|G.sub (k:Int) 1 ((k:Int)-1) kV rfl oV oV ?_;have aa:f % Y=f:=by have:=A1j f Y;rw[show f / Y=0 by omega,A1y]at this;omega
   rw[aa]at t;refine G.b (hJ ((k:Int)-1,f,qs.set k (f / Y),.slice (some ⟨br,a1,none⟩) (Aa f).length c3) _ _ _ cV (V.trans h) ⟨⟨dV,dV⟩,?_,O.mono h,L⟩ dV);rw[show (((k:Int)-1)+1).toNat=k by omega];exact t
  refine G.hF' (sgn ((f:Int)-Y)) 0 (by rw[Ej oV];decide) ?_;obtain⟨l0,Z⟩:∃ l0:Nat,l0=0:=⟨_,rfl⟩;obtain⟨h1,X⟩:∃ h1:Nat,h1=0:=⟨_,rfl⟩;have C:U7 Y f 0 0:=by
   have:f / Y=0:=A2l oV;exact⟨oV,oV,oV⟩
  refine G.l (ι:=Nat×Nat) (fun i=>[(2,.p 0 0),(3,.p 1 0),(4,.p 2 0),(5,.p 3 0),(6,sV a3 (Aa f).length c3),(7,sV (some ⟨I,0,none⟩) lx.length lx.length),(8,iV k),(9,iV i.1),(10,iV i.2)])
   (fun _=>[(0,⟨50,[bV b,sV (some ⟨ba,oa,none⟩) lx.length c]⟩),(1,⟨50,[bV b',sV a' (Aa Y).length c']⟩),(2,⟨50,[bV false,sV none 0 0]⟩),(3,⟨50,[bV false,sV none 0 0]⟩)])
   (fun i _ m'=>U7 Y f i.1 i.2/\Af PH.mt m' (.slice (some ⟨I,0,none⟩) lx.length lx.length) 3 1 (Ai qs)) (fun i=>i.2-i.1) (0,0) ⟨C,E⟩ ?_
  clear C E Z X;rintro J2 ⟨lo,m⟩ N u5 m' h ⟨U,E⟩;simp only at U E N;have aw:=U.a;have ax:=U.b;have ay:=U.c;by_cases b4:lo<m
  ·refine G.lT lo m<|G.p lo m (lo+m:Nat)<|G.p (lo+m:Nat) 1 (lo+m+1:Nat) ?_;obtain⟨mid,ae⟩:∃ mid,mid=(lo+m+1)/2:=⟨_,rfl⟩;refine G.quo ((lo+m+1:Nat):Int) 2 (mid:Int) kV oV oV oV oV<|G.c call194 (Jb (n:=mid) (Q.mono h) a0 oV oV) ?_;intro v6 u6 W K;rw[hY]at K;obtain⟨a6,c6,rfl,a5⟩:=K.opn;have b9:(Aa (Y*mid)).length<=200000000002:=by
    have h5:=In Y mid;have h7:nl mid<=1:=Bc oV;have h8:nl Y=(Aa Y).length:=rfl;have h9:nl (Y*mid)=(Aa (Y*mid)).length:=rfl;omega
   refine G.c call132 (Lc K ((O.mono h).mono W) (by show (Aa (Y*mid)).length<=_;omega) (by show (Aa f).length<=_;omega)) ?_;rintro v7 u7 l7 rfl;by_cases F:Y*mid<=f
   ·exact G.kT' (sgn (((Y*mid:Nat):Int)-f)) 0 (Afu oV)<|G.b (N (mid,m) _ _ _ cV ((h.trans W).trans l7) ⟨U.up P F,E⟩ dV)
   exact G.kF' (sgn (((Y*mid:Nat):Int)-f)) 0 (by rw[C7 oV];decide)<|G.s mid 1 (mid-1:Nat)<|G.b (N (lo,mid-1) _ _ _ cV ((h.trans W).trans l7) ⟨U.down P F oV oV,E⟩ dV)
  obtain rfl:lo=f / Y:=oV;refine G.lF (f / Y:Nat) m<|G.a I 0 lx.length lx.length k 1 hk<|G.storeA 1 PH.mt _ I lx.length lx.length k (.int .i64 (f / Y:Nat)) kV E (by rw[Ak,D.len];exact hk) rfl rfl ?_;intro m2 L;rw[Le]at L;by_cases b7:0<f / Y
  ·refine G.gT (f / Y:Nat) 0<|G.c call194 (Jb (n:=f / Y) (Q.mono h) a0 oV oV) ?_;intro v6 u6 W K;rw[hY]at K;have H:Y*(f / Y)<=f:=A8a f Y;obtain⟨a6,c6,rfl,a5⟩:=K.opn;refine G.c call133 (Lj ((O.mono h).mono W) K (An _) (An _) oV (Fb H) (by rw[Al,Al];exact H)) ?_;rintro v7 u7 l7 ⟨l,g1,g2,g3,g4⟩;obtain⟨a7,c7,rfl,ap⟩:=g1.opn;refine G.c call128 (D3 (b:=false) g1 g2 oV) ?_;intro v8 u8 l8 h8;rw[g3,Al,Al,show f - Y*(f / Y)=f % Y by have:=A1j f Y;omega]at h8;obtain⟨b8,a8,n8,c8,rfl,_,_⟩:=h8.opn;refine G.sub (k:Int) 1 ((k:Int)-1) kV rfl oV oV<|G.b (hJ ((k:Int)-1,f % Y,qs.set k (f / Y),.slice a8 n8 c8) _ _ _ cV ((((V.trans h).trans W).trans l7).trans l8) ⟨⟨dV,dV⟩,?_,h8.lim,L⟩ dV);rw[show (((k:Int)-1)+1).toNat=k by omega];exact t
  refine G.gF (f / Y:Nat) 0<|G.sub (k:Int) 1 ((k:Int)-1) kV rfl oV oV ?_;have aa:f % Y=f:=by have:=A1j f Y;rw[show f / Y=0 by omega,A1y]at this;omega
  rw[aa]at t;refine G.b (hJ ((k:Int)-1,f,qs.set k (f / Y),.slice a3 (Aa f).length c3) _ _ _ cV (V.trans h) ⟨⟨dV,dV⟩,?_,O.mono h,L⟩ dV);rw[show (((k:Int)-1)+1).toNat=k by omega];exact t
 obtain rfl:zi = -1:=oV;refine G.hF (-1) 0<|G.give PH.mt (Ai qs) _ kV E (fun _=>.inl rfl) ?_;intro u1 l1 hL;have D:Tk lx Y 0 qs R:=D;have hq:=D.quo;have hr:=D.rest;rw[A25,A25]at hq;rw[A25]at hr;have an:R<Y:=by rw[hr];exact A0z _ P
 have aj:(Aa R).length<=(Aa Y).length:=Fb oV;refine G.neB b b' kV<|G.c call128 (D3 (b:=!(b==b')) hL D.low (by rw[D.len];omega)) ?_;intro v2 u2 l2 h2;rw[hq,af]at h2;obtain⟨b2,a2,n2,c2,rfl,_,_⟩:=h2.opn;refine G.c call128 (D3 (b:=b) (hR.mono (l1.trans l2)) (An R) oV) ?_;intro v3 u3 l3 h3;rw[Al,hr,ag]at h3;obtain⟨b3,a3,n3,c3,rfl,_,_⟩:=h3.opn;exact G.r (.tuple #[.agg #[.bool b2,.slice a2 n2 c2],.agg #[.bool b3,.slice a3 n3 c3]]) ⟨rfl,_,_,rfl,h2.mono l3,h3⟩
end
section
variable {k n:Nat}{y z:Int}{ys:List Nat}
section rules
variable {P:Program} [A5 P] {fn:Func} {Post:By} {st:List KI×S} {u m:PH}
def Atu {x y z:Int}(t:-9223372036854775807<=x)(g:x<=9223372036854775807)(A:0<y)(j:x.tdiv y=z):-9223372036854775808<=z/\z<=9223372036854775807:=by
 rw[<-j];rcases A3z x 0 with h|h
 ·obtain⟨k,rfl⟩:∃ k:Int,x = -k:=⟨-x,oV⟩;rw[A5o,A2a oV];have e:=A6s (a:=k) (b:=y) oV oV;have f:=A7q (a:=k) y oV;omega
 rw[A2a h];have e:=A6s (a:=x) (b:=y) h oV;have f:=A7q (a:=x) y h;omega
def G.quoT (x y z:Int)(h:Aj P (adv P st)=.bin .quo (.int .i64 x) (.int .i64 y))(A:-9223372036854775807<=x)(e:x<=9223372036854775807)(C:0<y)(g:x.tdiv y=z)
 (k:G P fn Post (nx (adv P st) (.int .i64 z)) u m):G P fn Post st u m:=by
 refine G.bin _ h Cp (fun t w=>?_) k;have f:=Atu A e C g;have j:¬ y=0:=oV
 simp[binOp,Op.intDiv,j,g,E9 f.1 f.2]
def G.remT (x y z:Int)(h:Aj P (adv P st)=.bin .rem (.int .i64 x) (.int .i64 y))(A:0<y)(j:x.tmod y=z)(e:-9223372036854775808<=z)(f:z<=9223372036854775807)
 (k:G P fn Post (nx (adv P st) (.int .i64 z)) u m):G P fn Post st u m:=by
 refine G.bin _ h Cp (fun t w=>?_) k;have g:¬ y=0:=oV
 simp[binOp,Op.intDiv,g,j,E9 e f]
end rules
def Dm.nonneg {u:PH}{v:Value}(h:Dm u v (k:Int)):∃ a n c,v=.agg #[.bool false,.slice a n c]/\Co u (.slice a n c) (Aa k):=by
 obtain⟨a,n,c,e,f⟩:=h;rw[decide_eq_false oV]at e;exact⟨a,n,c,e,f⟩
def Akg {u:PH}{x O:Value}(I:Dm u x y)(g:Dm u O z)(sy:nl y.natAbs<=100000000000)(sz:nl z.natAbs<=100000000000) :
 Fn0 prog 126 [x,O] u fun v f=>Dm f v (Nat.gcd y.natAbs z.natAbs:Nat):=by
 obtain⟨b,a,n,c,rfl,hb,hi⟩:=I.opn;obtain⟨b',j,N,t,rfl,X,e⟩:=g.opn;refine Fn0.o func126<|G.l (ι:=(Nat×Nat)×(Option Addr×Nat×Nat)×(Option Addr×Nat×Nat)) (fun _=>[(2,.p 0 0),(3,.p 1 0),(4,.p 2 0)])
  (fun i=>[(0,⟨50,[bV false,sV i.2.1.1 i.2.1.2.1 i.2.1.2.2]⟩),(1,⟨50,[bV false,sV i.2.2.1 i.2.2.2.1 i.2.2.2.2]⟩),(2,⟨50,[bV false,sV none 0 0]⟩)])
  (fun i f L=>(Nat.gcd i.1.1 i.1.2=Nat.gcd y.natAbs z.natAbs/\nl i.1.1<=100000000000/\nl i.1.2<=100000000000)/\Co f (.slice i.2.1.1 i.2.1.2.1 i.2.1.2.2) (Aa i.1.1)/\Co f (.slice i.2.2.1 i.2.2.2.1 i.2.2.2.2) (Aa i.1.2)/\L=PH.mt) (fun i=>i.1.2)
  ((y.natAbs,z.natAbs),(a,n,c),(j,N,t)) ⟨⟨rfl,sy,sz⟩,hi,e,rfl⟩ ?_
 clear hi e I g;rintro J ⟨⟨p,q⟩,⟨a,n,c⟩,⟨j,N,t⟩⟩ H f L D ⟨⟨A,E,sq⟩,hi,e,rfl⟩;simp only at A E sq hi e H;obtain⟨rfl,_⟩:=hi.len;obtain⟨rfl,_⟩:=e.len;have Z:(Aa p).length<=100000000000:=E;have a0:(Aa q).length<=100000000000:=sq;by_cases h0:0<(Aa q).length
 ·have C:=Cz.1 h0;refine G.gT ((Aa q).length:Int) 0 ?_;have V:Dm f (.agg #[.bool false,.slice a (Aa p).length c]) (p:Int):=⟨_,_,_,by rw[decide_eq_false oV],hi⟩;have W:Dm f (.agg #[.bool false,.slice j (Aa q).length t]) (q:Int):=⟨_,_,_,by rw[decide_eq_false oV],e⟩;refine G.c call129 (Abi V W E sq oV) ?_;rintro v1 u1 K ⟨va,vb,rfl,T,F⟩;rw[N9]at F;obtain⟨b1,a1,n1,c1,rfl,_,_⟩:=T.opn;obtain⟨Q,Y,R,rfl,U⟩:=F.nonneg;exact G.b (H ((q,p%q),(j,(Aa q).length,t),(Q,Y,R)) _ _ _ cV (D.trans K) ⟨⟨by dsimp only;rw[A7p q,<-Nat.gcd_rec,A7p];exact A,sq,Ayv (Cs (A5l (A0z _ C))) sq⟩,e.mono K,U,rfl⟩ (A0z _ C))
 have C:q=0:=by
  rcases Azx q with h|h
  ·exact h
  exact absurd (Cz.2 h) h0
 subst C;refine G.gF ((Aa 0).length:Int) 0 ?_;rw[A7a]at A;exact G.r (.agg #[.bool false,.slice a (Aa p).length c]) ⟨rfl,by rw[<-A];exact⟨_,_,_,by rw[decide_eq_false oV],hi⟩⟩
structure Abt (n k:Nat)(ys:List Nat):Prop where
 low:Low ys
 sum:n=val ys+1000000000^ys.length*k
 top:ys≠[]->k=0->0<ys.getD (ys.length-1) 0
def Abt.start (n:Nat):Abt n n []:=⟨Low.nil,by simp[val],fun h=>absurd rfl h⟩
def Abt.step (h:Abt n k ys)(e:k≠0):Abt n (k/1000000000) (ys++[k%1000000000]):=by
 refine⟨h.low.append (Low.cons oV Low.nil),?_,fun _ h0=>?_⟩
 ·have:=h.sum;rw[Jk,Ay3,A0u,A0d,A1l,Hz];exact this
 rw[Ay3,A0u,A3y,Ays,Azy (Ay2 _)];simp;omega
def Aqg {l:List Nat}(h:l = []\/0<l.getD (l.length-1) 0):Bv l l.length=l.length:=by
 rcases h with rfl|h
 ·rfl
 cases hl:l.length with
 |zero=>rfl
 |succ n=>rw[hl]at h;simp only[A3y]at h;simp only[Bv];rw[if_neg oV]
def Abt.done (h:Abt n 0 ys):ys=Aa n:=by
 have f:=h.sum;rw[A1y,A1r]at f;rw[f,Jz h.low,Aqg,Azj];by_cases e:ys = []
 ·exact .inl e
 exact .inr (h.top e rfl)
def Zm (b:Bool)(k:Nat):(B6 b k).tmod 1000000000=B6 b (k%1000000000):=by
 unfold B6;cases b
 ·exact N9 k 1000000000
 show (-(k:Int)).tmod 1000000000 = -((k%1000000000:Nat):Int);rw[Int.neg_tmod];exact congrArg _ (N9 k 1000000000)
def Z5 (b:Bool)(k:Nat):(B6 b k).tdiv 1000000000=B6 b (k/1000000000):=by
 unfold B6;cases b
 ·exact K9 k 1000000000
 show (-(k:Int)).tdiv 1000000000 = -((k/1000000000:Nat):Int);rw[A5o];exact congrArg _ (K9 k 1000000000)
def Va {u:PH}{n:Int}(h1:-9223372036854775807<=n)(h2:n<=9223372036854775807) :
 Fn0 prog 57 [.int .i64 n] u fun v F=>Dm F v n:=by
 refine Fn0.o func57 ?_;have key:∀ b:Bool,b=decide (n<0)->G prog Tryz.f57 ⟨fun v F I=>I=PH.mt/\Dm F v n,PH.mt⟩ (nx (adv prog (st0 Tryz.f57 [.int .i64 n])) (.bool b)) u PH.mt:=by
  intro b X;have Z:=Si n;rw[<-X]at Z;refine G.loop (ι:=Nat×List Nat×(Option Addr×Nat×Nat)) (fun i=>[(2,.p 0 0),(3,.p 1003 0),(0,iV (B6 b i.1))])
   (fun i=>[(0,⟨50,[bV false,sV none 0 0]⟩),(1003,⟨50,[bV b,sV i.2.2.1 i.2.2.2.1 i.2.2.2.2]⟩)])
   (fun i F I=>(i.1<=9223372036854775807/\(i.1≠0->i.2.1.length<=3)/\i.2.1.length<=4/\i.1*1000000000^i.2.1.length<=9223372036854775807)/\Abt n.natAbs i.1 i.2.1/\Af PH.mt I (.slice i.2.2.1 i.2.2.2.1 i.2.2.2.2) 3 1 (Ai i.2.1)) (fun i=>i.1) (n.natAbs,[],(none,0,0)) kV (fun _=>kV) ⟨kV,by rw[Z];kernel_rfl,kV⟩ ⟨⟨dV,mV,mV,gV⟩,Abt.start _,Af.nil _ _ _⟩ ?_
  rintro J ⟨k,ys,⟨a,K,c⟩⟩ Q F I E ⟨⟨hk,C,U,D⟩,t,A⟩;simp only at hk C U D t A Q;have V:=A.len;rw[Ak]at V;have a1:-9223372036854775807<=B6 b k/\B6 b k<=9223372036854775807:=by unfold B6;split<;>omega
  by_cases h0:k=0
  ·subst h0;refine G.nF' (B6 b 0) 0 (by unfold B6;split<;>simp) ?_
   refine G.give PH.mt (Ai ys) _ kV A (fun _=>.inl rfl) ?_;intro u1 H hL;refine G.r (.agg #[.bool b,.slice a K c]) ⟨rfl,a,K,c,by rw[X],?_⟩;rw[<-t.done];exact hL
  have Y:=C h0;refine G.nT' (B6 b k) 0 (by unfold B6;split<;>omega) ?_
  have j:(k/1000000000<=9223372036854775807/\(k/1000000000≠0->(ys++[k%1000000000]).length<=3)/\(ys++[k%1000000000]).length<=4/\k/1000000000*1000000000^(ys++[k%1000000000]).length<=9223372036854775807):=by
   have W:k/1000000000*1000000000^(ys.length+1)<=9223372036854775807:=by
    rw[A0d,Az5 (1000000000^ys.length),<-Az4];exact Ayv (Az7 _ (A5g _ _)) D
   refine⟨oV,fun a0=>?_,gV,by simpa using W⟩;rcases Az8 ys.length 3 with h|h
   ·simp;omega
   exfalso;have:ys.length=3:=oV;rw[this]at W;have h1:1*1000000000^(3+1)<=k/1000000000*1000000000^(3+1):=Az7 _ oV;have h2:(9223372036854775807:Nat)<1*1000000000^(3+1):=fV;omega
  by_cases R:b=true/\k%1000000000≠0
  ·obtain⟨T,hm⟩:=R;refine G.remT (B6 b k) 1000000000 (-((k%1000000000:Nat):Int)) kV oV (by rw[Zm,T];rfl) oV oV<|G.lT (-((k%1000000000:Nat):Int)) 0<|G.neg (-((k%1000000000:Nat):Int)) ((k%1000000000:Nat):Int) kV oV oV oV<|G.B 3 1 8 (.int .i64 0) [.int .i64 (k%1000000000:Nat)] (A8 [k%1000000000]) ?_;intro g u1 H O;refine G.append 3 1 8 (.int .i64 0) PH.mt (Ai ys) [.int .i64 (k%1000000000:Nat)] (.slice a K c) g 0 1 1 kV rfl rfl oV A O (A8 [k%1000000000]) rfl oV (by rw[Ak];omega) (by rw[Ak];omega) ?_;intro v2 m2 e;rw[C2]at e;obtain⟨L,N,rfl⟩:=e.shape;exact G.quoT (B6 b k) 1000000000 (B6 b (k/1000000000)) kV oV oV oV (Z5 b k)<|G.b (Q (k/1000000000,ys++[k%1000000000],(L,(Ai (ys++[k%1000000000])).length,N)) _ _ _ cV (E.trans H) ⟨j,t.step h0,e⟩ dV)
  refine G.remT (B6 b k) 1000000000 ((k%1000000000:Nat):Int) kV oV (by rw[Zm];unfold B6;split<;>simp_all) oV oV ?_
  refine G.lF (k%1000000000:Nat) 0<|G.B 3 1 8 (.int .i64 0) [.int .i64 (k%1000000000:Nat)] (A8 [k%1000000000]) ?_;intro g u1 H O;refine G.append 3 1 8 (.int .i64 0) PH.mt (Ai ys) [.int .i64 (k%1000000000:Nat)] (.slice a K c) g 0 1 1 kV rfl rfl oV A O (A8 [k%1000000000]) rfl oV (by rw[Ak];omega) (by rw[Ak];omega) ?_;intro v2 m2 e;rw[C2]at e;obtain⟨L,N,rfl⟩:=e.shape;exact G.quoT (B6 b k) 1000000000 (B6 b (k/1000000000)) kV oV oV oV (Z5 b k)<|G.b (Q (k/1000000000,ys++[k%1000000000],(L,(Ai (ys++[k%1000000000])).length,N)) _ _ _ cV (E.trans H) ⟨j,t.step h0,e⟩ dV)
 by_cases f:n<0
 ·exact G.lssT n 0 kV f (key true (by simpa using f))
 exact G.lssF n 0 kV f (key false (by simpa using f))
end
end Go.Proofs.YtijchbjkdllolaaGreatDoor
