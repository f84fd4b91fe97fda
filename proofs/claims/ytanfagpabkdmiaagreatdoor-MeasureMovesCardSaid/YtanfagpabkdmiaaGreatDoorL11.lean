/- Parts of one proof, joined by a program. -/
import Derived.Test.YtanfagpabkdmiaaGreatDoorL10
set_option linter.unusedVariables false
set_option linter.unusedSimpArgs false
set_option linter.unusedSectionVars false
set_option maxHeartbeats 16000000
namespace Go.Proofs.YtanfagpabkdmiaaGreatDoor
open Go.Proofs.Tryz
section
variable {F:List Ao}{R:List Bk}{T:List (List UInt8×Nat)}{lab:Int}{u:PH}
theorem Aom {ss:List (List UInt8)}(ok:Bn u T R F lab)(ht:Cr T ss)(h1:-1≤lab)(h2:∀ l:Nat,lab=(l:Int)→l < ss.length)(hc:T4 F lab ss=true)(p:Par):Dn 1 108 ((cfT F lab ss).s p):=by
 by_cases h:(cfT F lab ss).s p=0
 ·rw [h]; exact Dn.zero _ _
 ·obtain ⟨_,a,q,ha,_⟩:=Acc h;rw [Ajr ok.feat ht h1 h2 hc ha];exact Dn.smr (show SmR q∧PV p from Kt ok ht _ (List.mem_of_getElem? ha)).1
theorem An6 {x:Par→Rat}(h:∀ p,Dn 1 108 (x p)):∀ e,Dn 1 108 (Afw x e)
 | none=>Dn.smr (show SmR 1 from ⟨by decide +kernel,by decide +kernel⟩)
 | some p=>h p
structure G5 (N:Nat)(C:CF):Prop where
 c:∀ e f,Dn 2 N (As C e f)
 r:∀ e,Dn 2 N (Ay C e)
 l:Dn 2 N (C.t (Ap Aq Aq))
theorem Ae2 (ok:Bn u T R F lab)(h1:-1≤lab)(h2:∀ l:Nat,lab=(l:Int)→l < T.length):∀ {L:List E7},(∀ y∈L,Cr T y.1∧y.2.1≤7)→G5 (L.length*81648) (C8 F lab L):=by
 intro L;induction L using Iv with
 | h0=>exact fun _=>⟨fun e f=>by rw [show C8 F lab []=CF.num 0 from rfl,Ans.cell]; exact Dn.zero _ _,fun e=>by cases e <;> exact Dn.zero _ _,Dn.zero _ _⟩
 | h1 L y ih =>
  intro h;have i1:=ih fun z hz=>h z (List.mem_append_left _ hz);obtain ⟨hy,hw⟩:=h y (by simp);have hlen:=hy.len;have hl:∀ l:Nat,lab=(l:Int)→l < y.1.length:=fun l e=>by have:=h2 l e; omega
  have one:G5 11664 (cfT F lab y.1):=by
   rcases L9 ok.feat hy h1 hl with ⟨hc,o⟩ | ⟨_,o⟩
   ·have hd:=Aom ok hy h1 hl hc;have he:=An6 hd;exact ⟨fun e f=>by rw [o.cell]; exact (he e).mul (he f),fun e=>by rw [o.right]; exact (hd Aq).mul (he e),by rw [o.t]; exact (hd Aq).mul (hd Aq)⟩
   ·have hn:cfT F lab y.1=cfT F lab y.1:=rfl;refine ⟨fun e f=>by rw [o.cell]; exact Dn.zero _ _,fun e=>?_,?_⟩
    ·cases e
     ·show Dn 2 11664 ((cfT F lab y.1).s Aq); rw [o.s]; exact Dn.zero _ _
     ·show Dn 2 11664 ((cfT F lab y.1).t _); rw [o.t]; exact Dn.zero _ _
    ·rw [o.t]; exact Dn.zero _ _
  have add:∀ {q r:Rat},Dn 2 (L.length*81648) q→Dn 2 11664 r→Dn 2 ((L++[y]).length*81648) (q+r*(y.2.1:Rat)):=fun hq hr=>by
   refine (hq.add (hr.mul (Akk hw))).mono ?_;rw [List.length_append,Nat.add_mul]; simp
  rw [F5];exact ⟨fun e f=>by rw [Vv]; exact add (i1.c e f) (one.c e f),fun e=>by rw [T2]; exact add (i1.r e) (one.r e),add i1.l one.l⟩
theorem Aoh (hF:Dk T F lab)(h1:-1≤lab)(h2:∀ l:Nat,lab=(l:Int)→l < T.length)(z:Option Par→Rat)(P:List Par):∀ {L:List E7},(∀ y∈L,Cr T y.1)→0≤sqC z P (C8 F lab L):=by
 intro L;induction L using Iv with
 | h0=>exact fun _=>by show 0≤sqC z P (CF.num 0); rw [Ans.sq z P]; exact Rat.le_refl
 | h1 L y ih =>
  intro h;have i1:=ih fun z hz=>h z (List.mem_append_left _ hz);have hy:=h y (by simp);have hlen:=hy.len;rw [F5,Alu];rcases L9 hF hy h1 (fun l hl=>by have:=h2 l hl; omega) with ⟨_,o⟩ | ⟨_,o⟩
  ·rw [o.sq];generalize (cfT F lab y.1).s Aq - Ua z P (cfT F lab y.1).s=v;have hw:(0:Rat)≤(y.2.1:Rat):=by
    have:((0:Nat):Rat)≤(y.2.1:Rat):=Rat.natCast_le_natCast.2 (Nat.zero_le _);exact this
   have hv:0≤v*v:=by
    rcases Rat.le_total (a:=0) (b:=v) with h | h
    ·exact Rat.mul_nonneg h h
    ·have:=Rat.mul_nonneg (a:=-v) (b:=-v) (by grind) (by grind);grind
   have:=Rat.mul_nonneg hv hw;grind
  ·rw [o.sq]; grind
end
section
variable {α:Type}
theorem Acq (l:List α)(d:α):l=(List.range l.length).map fun j=>l.getD j d:=by
 refine List.ext_getElem (by simp) fun j h1 h2=>?_;simp [List.getD_eq_getElem?_getD,List.getElem?_eq_getElem h1]
theorem R3 (f:α→Rat)(l:List α)(d:α):Au f l=Dm l.length fun j=>f (l.getD j d):=by
 unfold Dm; rw [← On (f:=f) (fun j=>l.getD j d),← Acq]
theorem Y4 (n:Nat)(f g:Nat→Rat):Dm n (fun i=>f i+g i)=Dm n f+Dm n g:=D1 _
theorem Aac {n i:Nat}(t:Rat)(y:Nat→Rat):Dm n (fun j=>(if i=j∧0 < i then t else 0)*y j)=if i < n∧0 < i then t*y i else 0:=by
 induction n with
 | zero=>rw [Pb,if_neg (by omega)]
 | succ n ih =>
  rw [F0,ih];by_cases h0:0 < i
  ·by_cases h1:i < n
   ·rw [if_pos ⟨h1,h0⟩,if_neg (by omega),if_pos ⟨by omega,h0⟩]; grind
   ·by_cases h2:i=n
    ·rw [if_neg (by omega),if_pos ⟨h2,h0⟩,if_pos ⟨by omega,h0⟩,h2]; grind
    ·rw [if_neg (by omega),if_neg (by omega),if_neg (by omega)]; grind
  ·rw [if_neg (by omega),if_neg (by omega),if_neg (by omega)]; grind
section
variable {P:List Par} {C:CF} {b:Option Par→Rat} {k:Rat} {N:Nat}
theorem Ady (hc:G5 N C)(hN:N≤489888)(hP:P.length≤11)(hk:∃ p:Int,k*30=p∧p.natAbs≤90)(hk0:0 < k)(hcp:0 < C.c)(hpsd:∀ z,0≤Bm z P C)(h:Fv P C k b) :
  ∃ D:Nat,0 < D∧D < 10 ^ 103∧∀ e∈Ak P,∃ z:Int,b e*(D:Rat)=z:=by
 obtain ⟨p,hp,hp90⟩:=hk;have hlen:=Bo P;obtain ⟨E,hE⟩:∃ E,E=Ak P:=⟨_,rfl⟩;rw [← hE] at hlen;have hem:∀ i,i < P.length+1→E.getD i none∈Ak P:=fun i hi=>by
  rw [← hE,List.getD_eq_getElem?_getD,List.getElem?_eq_getElem (by omega)]; exact List.getElem_mem _
 have hpos:∀ i,i < P.length+1→0 < i→∃ q,E.getD i none=some q:=fun i hi h0=>by
  obtain ⟨j,rfl⟩:∃ j,i=j+1:=⟨i - 1,by omega⟩;rw [hE]; unfold Ak;rw [List.getD_cons_succ,List.getD_eq_getElem?_getD,List.getElem?_map,List.getElem?_eq_getElem (by omega)];exact ⟨_,rfl⟩
 have h0:E.getD 0 none=none:=by rw [hE]; rfl
 have hsum:∀ (f:Option Par→Rat),Au f (Ak P)=Dm (P.length+1) fun j=>f (E.getD j none):=fun f=>by rw [R3 f _ none,← hE,hlen]
 have hcz:∀ e f,∃ z:Int,As C e f*144=z∧z.natAbs≤N:=fun e f=>by
  obtain ⟨z,h1,h2⟩:=hc.c e f; exact ⟨z,by rw [← h1]; congr 1,h2⟩
 have hrz:∀ e,∃ z:Int,Ay C e*144=z:=fun e=>by
  obtain ⟨z,h1,h2⟩:=hc.r e; exact ⟨z,by rw [← h1]; congr 1⟩
 generalize hZ:(fun e f=>(hcz e f).choose)=Z;have hZ:∀ e f,As C e f*144=Z e f∧(Z e f).natAbs≤N:=fun e f=>by rw [← hZ]; exact (hcz e f).choose_spec
 have hA:∀ i j,((Z (E.getD i none) (E.getD j none)*30+(if i=j∧0 < i then p*144 else 0):Int):Rat)=4320*As C (E.getD i none) (E.getD j none)+(if i=j∧0 < i then 4320*k else 0):=fun i j=>by
  have h1:=(hZ (E.getD i none) (E.getD j none)).1;rw [Rat.intCast_add,Rat.intCast_mul,← h1];split
  ·rw [Rat.intCast_mul,← hp]; simp; grind
  ·simp; grind
 have hrow:∀ (y:Option Par→Rat) i,i < P.length+1→Dm (P.length+1) (fun j=>((Z (E.getD i none) (E.getD j none)*30+(if i=j∧0 < i then p*144 else 0):Int):Rat)*y (E.getD j none))=4320*(Au (fun f=>As C (E.getD i none) f*y f) (Ak P)+Kp k y (E.getD i none)):=fun y i hi=>by
  rw [Er (g:=fun j=>4320*(As C (E.getD i none) (E.getD j none)*y (E.getD j none))+(if i=j∧0 < i then 4320*k else 0)*y (E.getD j none)) fun j _=>by rw [hA]; grind,Y4,Nr,Aac (4320*k) fun j=>y (E.getD j none),← hsum fun f=>As C (E.getD i none) f*y f];by_cases h0i:0 < i
  ·obtain ⟨q,hq⟩:=hpos i hi h0i;rw [if_pos ⟨hi,h0i⟩,hq]; unfold Kp; grind
  ·rw [if_neg (by omega),show i=0 by omega,h0]; unfold Kp; grind
 obtain ⟨D,hD0,hD,hDz⟩:=Akr (n:=P.length+1) (M:=14709600) (A:=fun i j=>Z (E.getD i none) (E.getD j none)*30+(if i=j∧0 < i then p*144 else 0)) (x:=fun j=>b (E.getD j none))
  (fun i j _ _=>by
   have:=(hZ (E.getD i none) (E.getD j none)).2;split <;> omega)
  (fun i hi=>by
   obtain ⟨z,hz⟩:=hrz (E.getD i none);exact ⟨z*30,by rw [hrow b i hi,h _ (hem i hi),Rat.intCast_mul,← hz]; simp; grind⟩)
  (fun g hg j hj=>Aji (z:=fun e=>g (b e)) hk0 hcp hpsd (fun e he=>by
   obtain ⟨i,hi,rfl⟩:=List.getElem_of_mem he;have hi':i < P.length+1:=by rw [← hlen,hE]; exact hi
   have h1:=hg i hi';rw [hrow (fun e=>g (b e)) i hi'] at h1;have e1:E.getD i none=(Ak P)[i]:=by rw [hE,List.getD_eq_getElem?_getD,List.getElem?_eq_getElem hi]; rfl
   rw [e1] at h1;rcases Rat.mul_eq_zero.1 h1 with h2 | h2
   ·exact absurd h2 (by decide +kernel)
   ·exact h2) _ (hem j hj))
 refine ⟨D,hD0,Nat.lt_of_le_of_lt hD ?_,fun e he=>?_⟩
 ·have h1:2*((P.length+1)*14709600)+1≤353030401:=by omega
  refine Nat.lt_of_le_of_lt (Nat.le_trans (Nat.pow_le_pow_left h1 _) (Nat.pow_le_pow_right (n:=353030401) (by omega) (show P.length+1≤12 by omega))) (by decide +kernel)
 ·obtain ⟨i,hi,rfl⟩:=List.getElem_of_mem he;have hi':i < P.length+1:=by rw [← hlen,hE]; exact hi
  have e1:E.getD i none=(Ak P)[i]:=by rw [hE,List.getD_eq_getElem?_getD,List.getElem?_eq_getElem hi]; rfl
  have:=hDz i hi';rwa [e1] at this
theorem Ank {x:Rat}{m:Rat}(h0:0≤m)(h:x*x≤m*m):-m≤x∧x≤m:=by
 constructor
 ·refine Rat.not_lt.1 fun hl=>?_;have:=Rat.mul_pos (a:=-x - m) (b:=-x+m) (by grind) (by grind);grind
 ·refine Rat.not_lt.1 fun hl=>?_;have:=Rat.mul_pos (a:=x - m) (b:=x+m) (by grind) (by grind);grind
theorem Xu {q:Rat}(h:Dn 2 N q)(hN:N≤489888):-3402≤q∧q≤3402:=by
 obtain ⟨z,h1,h2⟩:=h;have e:((12 ^ 2:Nat):Rat)=144:=by decide +kernel
 rw [e] at h1;have a1:((z:Int):Rat)≤((489888:Int):Rat):=Rat.intCast_le_intCast.2 (by omega);have a2:(((-489888:Int)):Rat)≤(z:Rat):=Rat.intCast_le_intCast.2 (by omega);rw [show ((489888:Int):Rat)=489888 by decide +kernel] at a1;rw [show ((-489888:Int):Rat) = -489888 by decide +kernel] at a2;constructor <;> grind
theorem Aek:∀ {P:List Par} {p:Par},p∈P→b (some p)*b (some p)≤G9 P b
 | q::P,p,hp=>by
  have nn:∀ r:Par,0≤b (some r)*b (some r):=fun r=>by
   rcases Rat.le_total (a:=0) (b:=b (some r)) with h | h
   ·exact Rat.mul_nonneg h h
   ·have:=Rat.mul_nonneg (a:=-b (some r)) (b:=-b (some r)) (by grind) (by grind);grind
  have e:G9 (q::P) b=b (some q)*b (some q)+G9 P b:=rfl;have h1:=Rn P b;have h2:=nn q;rw [e];rcases List.mem_cons.1 hp with rfl | hp
  ·grind
  ·have:=Aek hp; grind
theorem Zp {α:Type}{f:α→Rat}{m:Rat}:∀ {l:List α},(∀ a∈l,-m≤f a∧f a≤m)→-((l.length:Rat)*m)≤Au f l∧Au f l≤(l.length:Rat)*m
 | [],_=>by show -(((0:Nat):Rat)*m)≤0∧0≤((0:Nat):Rat)*m; rw [show ((0:Nat):Rat)=0 from rfl]; constructor <;> grind
 | a::l,h=>by
  have h1:=h a (List.mem_cons_self ..);have h2:=Zp fun x hx=>h x (List.mem_cons_of_mem _ hx);have e:Au f (a::l)=f a+Au f l:=rfl;rw [e,List.length_cons,Rat.natCast_add,show ((1:Nat):Rat)=1 from rfl];constructor <;> grind
theorem Ali (hc:G5 N C)(hN:N≤489888)(hP:P.length≤11)(hk:∃ p:Int,k*30=p∧p.natAbs≤90)(hk0:0 < k)(hcp:1≤C.c)(hpsd:∀ z,0≤Bm z P C)(hsq:0≤sqC b P C)(h:Fv P C k b) :
  ∀ e∈Ak P,-20000000≤b e∧b e≤20000000:=by
 obtain ⟨p,hp,hp90⟩:=hk;have hl:=h.least (Rat.le_of_lt hk0) hpsd fun _=>0;have e0:sqC (fun _=>0) P C=C.t (Ap Aq Aq):=by
  unfold sqC;rw [Aau P C fun _=>rfl,Bv fun e _=>Rat.zero_mul _]; grind
 have e1:G9 P (fun _=>0)=0:=Bv fun p _=>Rat.mul_zero _;rw [e0,e1] at hl;have hll:=(Xu hc.l hN).2;have hk1:1≤k*30:=by
  rw [hp];have h1:((0:Int):Rat) < (p:Rat):=by rw [← hp]; show 0 < k*30; exact Rat.mul_pos hk0 (by decide +kernel)
  have h2:(0:Int) < p:=Rat.intCast_lt_intCast.1 h1;exact (Rat.intCast_le_intCast (a:=1) (b:=p)).2 (by omega)
 have hs0:=Rn P b;have hs:G9 P b≤102060:=by
  have:=Rat.mul_nonneg (a:=k*30 - 1) (b:=G9 P b) (by grind) hs0;grind
 have hbp:∀ q∈P,-320≤b (some q)∧b (some q)≤320:=fun q hq=>by
  have h1:=Aek (b:=b) hq;have e:(320:Rat)*320=102400:=by decide +kernel
  exact Ank (by decide +kernel) (by grind)
 have hn:b none*C.c=C.s Aq - Au (fun q=>C.s q*b (some q)) P:=by
  have h1:=h none (by unfold Ak; simp);rw [Gf] at h1;have c1:As C none none=C.c:=rfl;have c2:Ay C none=C.s Aq:=rfl;have c3:Au (fun q=>As C none (some q)*b (some q)) P=Au (fun q=>C.s q*b (some q)) P:=rfl;rw [c1,c2,c3] at h1;unfold Kp at h1;grind
 have hsum:=Zp (f:=fun q=>C.s q*b (some q)) (m:=1088640) (l:=P) fun q hq=>by
  have h1:=Xu (hc.c none (some q)) hN;have c1:As C none (some q)=C.s q:=rfl;rw [c1] at h1;have h2:=hbp q hq;generalize C.s q=s at h1;generalize b (some q)=t at h2;have a1:=Rat.mul_nonneg (a:=3402 - s) (b:=320+t) (by grind) (by grind);have a2:=Rat.mul_nonneg (a:=3402+s) (b:=320 - t) (by grind) (by grind);have a3:=Rat.mul_nonneg (a:=3402 - s) (b:=320 - t) (by grind) (by grind);have a4:=Rat.mul_nonneg (a:=3402+s) (b:=320+t) (by grind) (by grind);constructor <;> grind
 have hlen:((P.length:Nat):Rat)≤11:=(Rat.natCast_le_natCast (a:=P.length) (b:=11)).2 hP;have hlab:=Xu (hc.r none) hN;have c2:Ay C none=C.s Aq:=rfl;rw [c2] at hlab;have hnn:-20000000≤b none∧b none≤20000000:=by
  generalize Au (fun q=>C.s q*b (some q)) P=S at hn hsum;generalize ((P.length:Nat):Rat)=L at hlen hsum;have hcc:-20000000≤b none*C.c∧b none*C.c≤20000000:=by rw [hn]; constructor <;> grind
  generalize b none=x at hcc;generalize C.c=c at hcc hcp;constructor
  ·refine Rat.not_lt.1 fun hl=>?_;have:=Rat.mul_nonneg (a:=-x) (b:=c - 1) (by grind) (by grind);grind
  ·refine Rat.not_lt.1 fun hl=>?_;have:=Rat.mul_nonneg (a:=x) (b:=c - 1) (by grind) (by grind);grind
 intro e he;unfold Ak at he;rcases List.mem_cons.1 he with rfl | he
 ·exact hnn
 ·obtain ⟨q,hq,rfl⟩:=List.mem_map.1 he;have:=hbp q hq;constructor <;> grind
end
end
section
variable {q r:Rat}
def IsZ (q:Rat):Prop:=∃ z:Int,q=z
theorem IsZ.add :IsZ q→IsZ r→IsZ (q+r):=fun ⟨a,e⟩ ⟨b,f⟩=>⟨a+b,by rw [e,f,Rat.intCast_add]⟩
theorem IsZ.sub :IsZ q→IsZ r→IsZ (q - r):=fun ⟨a,e⟩ ⟨b,f⟩=>⟨a - b,by rw [e,f,Rat.intCast_sub]⟩
theorem IsZ.mul :IsZ q→IsZ r→IsZ (q*r):=fun ⟨a,e⟩ ⟨b,f⟩=>⟨a*b,by rw [e,f,Rat.intCast_mul]⟩
theorem IsZ.nat (n:Nat):IsZ (n:Rat):=⟨n,(Rat.intCast_natCast n).symm⟩
theorem IsZ.sum {α:Type}{f:α→Rat}:∀ {l:List α},(∀ a∈l,IsZ (f a))→IsZ (Au f l)
 | [],_=>⟨0,rfl⟩
 | a::l,h=>(h a (List.mem_cons_self ..)).add (IsZ.sum fun x hx=>h x (List.mem_cons_of_mem _ hx))
theorem G5.z {N:Nat}{q:Rat}(h:Dn 2 N q):IsZ (q*144):=by
 obtain ⟨z,h1,_⟩:=h; exact ⟨z,by rw [← h1]; congr 1⟩
theorem Amy {D m a b:Nat}(h0:0 < D)(hD:D < 10 ^ b)(hz:IsZ (q*(D:Rat)))(hm:-(m:Rat)≤q∧q≤m)(ha:m*10 ^ b < 10 ^ a):De a b q:=by
 obtain ⟨z,e⟩:=hz;refine ⟨z,D,e,h0,?_,hD⟩;have hd:(0:Rat)≤(D:Rat):=(Rat.natCast_le_natCast (a:=0) (b:=D)).2 (Nat.zero_le _);have h1:(z:Rat)≤(((m*D:Nat):Int):Rat):=by
  rw [Rat.intCast_natCast,Rat.natCast_mul,← e];have:=Rat.mul_nonneg (a:=(m:Rat) - q) (b:=(D:Rat)) (by grind) hd;grind
 have h2:((-((m*D:Nat):Int):Int):Rat)≤(z:Rat):=by
  rw [Rat.intCast_neg,Rat.intCast_natCast,Rat.natCast_mul,← e];have:=Rat.mul_nonneg (a:=q+(m:Rat)) (b:=(D:Rat)) (by grind) hd;grind
 have h1:=Rat.intCast_le_intCast.1 h1;have h2:=Rat.intCast_le_intCast.1 h2;have h3:m*D≤m*10 ^ b:=Nat.mul_le_mul_left _ (Nat.le_of_lt hD);omega
section
variable {P:List Par} {C:CF} {b:Option Par→Rat} {k:Rat} {N D:Nat}
theorem Ao6 (hD0:0 < D)(hD:D < 10 ^ 103)(hz:∀ e∈Ak P,∃ z:Int,b e*(D:Rat)=z)(hm:∀ e∈Ak P,-20000000≤b e∧b e≤20000000):∀ e∈Ak P,De 111 103 (b e):=fun e he =>
 Amy (m:=20000000) hD0 hD (hz e he) (hm e he) (by decide +kernel)
theorem Ap4 (hc:G5 N C)(hz:∀ e∈Ak P,∃ z:Int,b e*(D:Rat)=z):IsZ (sqC b P C*((D*D*144:Nat):Rat)):=by
 have e1:((D*D*144:Nat):Rat)=(D:Rat)*(D:Rat)*144:=by rw [Rat.natCast_mul,Rat.natCast_mul]; rfl
 have hn:IsZ (Bm b P C*((D:Rat)*(D:Rat)*144)):=by
  unfold Bm;rw [← Ej];refine IsZ.sum fun e he=>?_;rw [← Ej];refine IsZ.sum fun f hf=>?_;rw [show b e*As C e f*b f*((D:Rat)*(D:Rat)*144)=(b e*(D:Rat))*(As C e f*144)*(b f*(D:Rat)) by grind];exact (IsZ.mul (hz e he) (G5.z (hc.c e f))).mul (hz f hf)
 have hr:IsZ (Au (fun e=>b e*Ay C e) (Ak P)*((D:Rat)*(D:Rat)*144)):=by
  rw [← Ej];refine IsZ.sum fun e he=>?_;rw [show b e*Ay C e*((D:Rat)*(D:Rat)*144)=(b e*(D:Rat))*(Ay C e*144)*(D:Rat) by grind];exact (IsZ.mul (hz e he) (G5.z (hc.r e))).mul (IsZ.nat D)
 have ht:IsZ (C.t (Ap Aq Aq)*((D:Rat)*(D:Rat)*144)):=by
  rw [show C.t (Ap Aq Aq)*((D:Rat)*(D:Rat)*144)=(C.t (Ap Aq Aq)*144)*((D:Rat)*(D:Rat)) by grind];exact (G5.z hc.l).mul ((IsZ.nat D).mul (IsZ.nat D))
 rw [e1];unfold sqC;rw [show (Bm b P C+C.t (Ap Aq Aq) - 2*Au (fun e=>b e*Ay C e) (Ak P))*((D:Rat)*(D:Rat)*144)=Bm b P C*((D:Rat)*(D:Rat)*144)+C.t (Ap Aq Aq)*((D:Rat)*(D:Rat)*144) - (Au (fun e=>b e*Ay C e) (Ak P)*((D:Rat)*(D:Rat)*144)+Au (fun e=>b e*Ay C e) (Ak P)*((D:Rat)*(D:Rat)*144)) by grind];exact (hn.add ht).sub (hr.add hr)
theorem Ail (x:Rat):sqC (cfE x []) P C=x*x*C.c+C.t (Ap Aq Aq) - 2*(x*C.s Aq):=by
 have hn:Bm (cfE x []) P C=x*x*C.c:=by
  rw [I5]; unfold Mz;rw [Gf,Gf,Bv (l:=P) (f:=fun p=>cfE x [] (some p)*Au (fun f=>As C (some p) f*cfE x [] f) (Ak P)) fun p _=>by show (0:Rat)*_=0; grind,Bv (l:=P) (f:=fun p=>As C none (some p)*cfE x [] (some p)) fun p _=>by show _*(0:Rat)=0; grind];show x*(C.c*x+0)+0=_; grind
 have hr:Au (fun e=>cfE x [] e*Ay C e) (Ak P)=x*C.s Aq:=by
  rw [Gf,Bv fun p _=>by show (0:Rat)*_=0; grind];show x*C.s Aq+0=_; grind
 unfold sqC;rw [hn,hr]
theorem Va (x:Rat):G9 P (cfE x [])=0:=Bv fun p _=>by show (0:Rat)*0=0; decide +kernel
theorem Fv.var (h:Fv P C k b)(hk:0≤k)(hc:0 < C.c)(hp:∀ z,0≤Bm z P C):sqC b P C / C.c≤Hv C Aq Aq∧sqC (cfE (C.s Aq / C.c) []) P C / C.c=Hv C Aq Aq:=by
 have h1:=h.least hk hp (cfE (C.s Aq / C.c) []);have h2:=Rat.mul_nonneg hk (Rn P b);rw [Va] at h1;have hne:C.c≠0:=fun e=>by rw [e] at hc; exact absurd hc (by decide +kernel)
 have h3:sqC (cfE (C.s Aq / C.c) []) P C / C.c=Hv C Aq Aq:=by
  rw [Ail]; unfold Hv; grind
 refine ⟨?_,h3⟩;rw [← h3];have hi:0≤1 / C.c:=Rat.le_of_lt (by rw [Rat.div_def,Rat.one_mul]; exact Rat.inv_pos.2 hc);have:=Rat.mul_nonneg (a:=sqC (cfE (C.s Aq / C.c) []) P C - sqC b P C) (b:=1 / C.c) (by grind) hi;grind
end
end
section
open Go.RowKit Go.MapKept
variable {k:Nat}{s:Src}{ts:List Int}{u:PH}{v:Value}
theorem Ajg {L:List (List UInt8)}(h:H0 u s ts)(hk:k≤s.n)(hL:Ab u v 1 (L.map nmV))(hn0:0 < L.length)(hn2:L.length≤1000000) :
  Ai prog 50 [s.ptr,v] u (s.M k) fun v _ m'=>∃ t∈L,∃ k':Nat,v=.string (mkS t)∧k'≤s.n∧m'=s.M k':=by
 obtain ⟨a,c,rfl⟩:=hL.opn;rw [List.length_map] at hL ⊢;refine Ai.o func50 ?_;refine G.A call73 (Ia h hk hn0 hn2) ?_;rintro v1 u1 m1 l1 ⟨r,k',rfl,hr,hk',rfl⟩ _;rw [C2];obtain ⟨b,off,rfl,e⟩:=Ab.at' (hL.mono l1) (j:=r) (e:=.string (mkS L[r])) (by simp [nmV,List.getElem?_eq_getElem hr]);refine G.a b off L.length c r 1 hr ?_;refine G.lU none b (off+r*1) (.string (mkS L[r])) e ?_;exact G.r _ ⟨L[r],List.getElem_mem hr,k',rfl,hk',rfl⟩
structure Kl (q:Rat):Prop where
 pos:0 < q
 thirty:∃ p:Int,q*30=p∧p.natAbs≤90
 tx:Tx q
theorem Ak0:∀ t∈[[49],[49,47,50],[51],[49,47,49,48],[55,47,51]],∃ q:Rat,t=Af q∧Kl q:=by
 intro t ht;simp only [List.mem_cons,List.not_mem_nil,or_false] at ht;rcases ht with rfl | rfl | rfl | rfl | rfl
 ·exact ⟨1,by decide +kernel,by decide +kernel,⟨30,by decide +kernel,by decide⟩,by decide +kernel,by decide +kernel⟩
 ·exact ⟨1 / 2,by decide +kernel,by decide +kernel,⟨15,by decide +kernel,by decide⟩,by decide +kernel,by decide +kernel⟩
 ·exact ⟨3,by decide +kernel,by decide +kernel,⟨90,by decide +kernel,by decide⟩,by decide +kernel,by decide +kernel⟩
 ·exact ⟨1 / 10,by decide +kernel,by decide +kernel,⟨3,by decide +kernel,by decide⟩,by decide +kernel,by decide +kernel⟩
 ·exact ⟨7 / 3,by decide +kernel,by decide +kernel,⟨70,by decide +kernel,by decide⟩,by decide +kernel,by decide +kernel⟩
theorem Y7 (h:H0 u s ts)(hk:k≤s.n) :
  Ai prog 12 [s.ptr] u (s.M k) fun v _ m'=>∃ (q:Rat) (k':Nat),v=.string (mkS (Af q))∧Kl q∧k'≤s.n∧m'=s.M k':=by
 refine Ai.o func12 ?_;refine G.B 9 1 16 (.string (mkS [])) ([[49],[49,47,50],[51],[49,47,49,48],[55,47,51]].map nmV) (G4 _) ?_;intro g u1 l1 e1;refine G.A call50 (Ajg (L:=[[49],[49,47,50],[51],[49,47,49,48],[55,47,51]]) (h.mono l1) hk e1.listP (by simp) (by simp)) ?_;rintro v2 u2 m2 l2 ⟨t,ht,k',rfl,hk',rfl⟩ _;rw [C2];obtain ⟨q,rfl,hq⟩:=Ak0 t ht;exact G.r (.string (mkS (Af q))) ⟨q,k',rfl,hq,hk',rfl⟩
theorem Zf {v cv:Value}{T:List (List UInt8×Nat)}{R:List Bk}{F:List Ao}{lab:Int}{C:CF}{K k:Nat}{P:List Par}{q:Rat}(h:F8 u v cv T R F lab C K k P)(hq:Kl q) :
  Fn0 prog 106 [cv,.string (mkS (Af q))] u fun r _=>r=.int .i64 (if k=0 then 12 else 0):=by
 have hS:=h.mom;obtain ⟨a1,n1,c1,a2,n2,c2,rfl⟩:=id h.cof.opn;refine Fn0.o func106 ?_;refine G.c call30 (Cp hq.tx) ?_;rintro v1 u1 l1 rfl;refine G.c call42 (Aaq hq.tx) ?_;rintro v2 u2 l2 rfl;refine G.kF' (sgn q.num) 0 (by rw [Xn,Xs hq.pos]; omega) ?_;refine G.c call42 (Aaq hS.tx) ?_;rintro v3 u3 l3 rfl;by_cases h0:k=0
 ·have hc0:C.c=0:=by rw [hS.c,h0]; rfl
  refine G.kT' (sgn C.c.num) 0 (by rw [hc0]; decide) ?_;exact G.r (.int .i64 12) ⟨rfl,by rw [if_pos h0]⟩
 ·refine G.kF' (sgn C.c.num) 0 (by rw [Xn,Xs (hS.cpos h0)]; omega) ?_;exact G.r (.int .i64 0) ⟨rfl,by rw [if_neg h0]⟩
end
section
variable {X:List (List Rat)}{c i n p r w:Nat}
def Ee (X:List (List Rat))(c:Nat):Nat→Nat→Nat
 | 0,p=>p
 | f+1,p=>if gR (gM X p) c=0 then Ee X c f (p+1) else p
def H1 (X:List (List Rat))(p r:Nat):List (List Rat):=(X.set p (gM X r)).set r (gM X p)
def H9 (f:Rat)(row:List Rat):List Rat:=row.map (· / f)
def Mu (g:Rat)(R row:List Rat):List Rat:=(List.range row.length).map fun k=>gR row k - g*gR R k
def Hw (r c:Nat):Nat→Nat→List (List Rat)→List (List Rat)
 | 0,_,X=>X
 | f+1,i,X=>Hw r c f (i+1) (if i=r∨gR (gM X i) c=0 then X else X.set i (Mu (gR (gM X i) c) (gM X r) (gM X i)))
def Si (X:List (List Rat))(r c:Nat):List (List Rat):=X.set r (H9 (gR (gM X r) c) (gM X r))
def Li (X:List (List Rat))(r c p:Nat):List (List Rat):=Hw r c X.length 0 (Si (if p=r then X else H1 X p r) r c)
def By:Nat→Nat→List Nat→List (List Rat)→Rat→List Nat×List (List Rat)×Rat
 | 0,_,P,X,d=>(P,X,d)
 | f+1,c,P,X,d =>
  if P.length < X.length then
   if Ee X c (X.length - P.length) P.length=X.length then By f (c+1) P X d
   else By f (c+1) (P++[c]) (Li X P.length c (Ee X c (X.length - P.length) P.length)) ((if Ee X c (X.length - P.length) P.length=P.length then d else 0 - d)*gR (gM X (Ee X c (X.length - P.length) P.length)) c)
  else (P,X,d)
def Rec (n w:Nat)(X:List (List Rat)):Prop:=X.length=n∧∀ i,i < n→(gM X i).length=w
def en (X:List (List Rat))(i j:Nat):Rat:=gR (gM X i) j
theorem S0 (X:List (List Rat))(c:Nat):∀ f p,p≤Ee X c f p∧Ee X c f p≤p+f
 | 0,p=>by simp [Ee]
 | f+1,p=>by
  unfold Ee;split
  ·have:=S0 X c f (p+1); omega
  ·omega
theorem X6 (X:List (List Rat))(c:Nat):∀ f p,Ee X c f p < p+f→en X (Ee X c f p) c≠0
 | 0,p,h=>by simp [Ee] at h
 | f+1,p,h=>by
  unfold Ee at h ⊢;split at h
  ·rename_i h0;rw [if_pos h0];exact X6 X c f (p+1) (by omega)
  ·rename_i h0;rw [if_neg h0];exact h0
theorem Ib {r:List Rat}(h:Rec n w X)(hi:i < n)(hr:r.length=w):Rec n w (X.set i r):=by
 refine ⟨by simp [h.1],fun j hj=>?_⟩;rw [Ka (by rw [h.1]; exact hi)];split
 ·exact hr
 ·exact h.2 j hj
theorem Lr (h:Rec n w X)(hp:p < n)(hr:r < n):Rec n w (H1 X p r) :=
 Ib (Ib h hp (h.2 r hr)) hr (h.2 p hp)
theorem Q6 (h:Rec n w X)(hp:p < n)(hr:r < n)(i j:Nat):en (H1 X p r) i j=if i=r then en X p j else if i=p then en X r j else en X i j:=by
 unfold en H1;rw [Ka (by simp [h.1]; exact hr),Ka (by rw [h.1]; exact hp)];by_cases e:r=i
 ·rw [if_pos e,if_pos e.symm]
 ·rw [if_neg e,if_neg (show ¬ i=r by omega)];by_cases e':p=i
  ·rw [if_pos e',if_pos e'.symm]
  ·rw [if_neg e',if_neg (show ¬ i=p by omega)]
theorem Ac2 (f:Rat)(row:List Rat)(j:Nat):gR (H9 f row) j=gR row j / f:=by
 unfold gR H9;rw [List.getD_eq_getElem?_getD,List.getD_eq_getElem?_getD,List.getElem?_map];cases row[j]? <;> simp <;> grind
theorem Acv (g:Rat)(R row:List Rat){j:Nat}(hj:j < row.length):gR (Mu g R row) j=gR row j - g*gR R j:=by
 unfold Mu; exact Anj _ hj
theorem Rf (h:Rec n w X)(hr:r < n):Rec n w (Si X r c) :=
 Ib h hr (by simp [H9,h.2 r hr])
theorem Lu (h:Rec n w X)(hr:r < n)(i j:Nat):en (Si X r c) i j=if i=r then en X i j*(1 / en X r c) else en X i j:=by
 unfold en Si;rw [Ka (by rw [h.1]; exact hr)];by_cases e:r=i
 ·subst e;rw [if_pos rfl,if_pos rfl,Ac2];grind
 ·rw [if_neg e,if_neg (fun e'=>e e'.symm)]
theorem Aef {n w r c:Nat}(hr:r < n):∀ f i X,i+f≤n→Rec n w X→Rec n w (Hw r c f i X)
 | 0,i,X,_,h=>h
 | f+1,i,X,hf,h=>by
  unfold Hw;refine Aef hr f (i+1) _ (by omega) ?_;split
  ·exact h
  ·exact Ib h (by omega) (by simp [Mu,h.2 i (by omega)])
theorem Xb (h:Rec n w X)(hi:i < n)(k j:Nat)(hj:j < w):en (if i=r∨gR (gM X i) c=0 then X else X.set i (Mu (gR (gM X i) c) (gM X r) (gM X i))) k j=if k=i∧i≠r then en X i j - en X i c*en X r j else en X k j:=by
 by_cases e:i=r
 ·rw [if_pos (.inl e),if_neg (by omega)]
 by_cases e0:gR (gM X i) c=0
 ·rw [if_pos (.inr e0)];split
  ·rename_i hk;rw [hk.1]; unfold en; rw [e0]; grind
  ·rfl
 ·rw [if_neg (by simp [e,e0])];unfold en;rw [Ka (by rw [h.1]; exact hi)];by_cases ek:i=k
  ·subst ek;rw [if_pos rfl,if_pos ⟨rfl,e⟩,Acv _ _ _ (by rw [h.2 i hi]; exact hj)]
  ·rw [if_neg ek,if_neg (by omega)]
theorem Abe {n w r c:Nat}(hr:r < n)(hc:c < w):∀ f i X,i+f≤n→Rec n w X→∀ k j,j < w→en (Hw r c f i X) k j=if i≤k∧k < i+f∧k≠r then en X k j - en X k c*en X r j else en X k j
 | 0,i,X,_,h,k,j,hj=>by rw [if_neg (by omega)]; rfl
 | f+1,i,X,hf,h,k,j,hj=>by
  unfold Hw;have hX:Rec n w (if i=r∨gR (gM X i) c=0 then X else X.set i (Mu (gR (gM X i) c) (gM X r) (gM X i))):=by
   split
   ·exact h
   ·exact Ib h (by omega) (by simp [Mu,h.2 i (by omega)])
  rw [Abe hr hc f (i+1) _ (by omega) hX k j hj,Xb h (by omega) k j hj,Xb h (by omega) k c hc,Xb h (by omega) r j hj];rw [if_neg (show ¬ (r=i∧i≠r) by omega)];by_cases e1:k=i
  ·subst e1;rw [if_neg (by omega)];by_cases e2:k=r
   ·rw [if_neg (by omega),if_neg (by omega)]
   ·rw [if_pos ⟨rfl,e2⟩,if_pos ⟨by omega,by omega,e2⟩]
  ·rw [if_neg (show ¬ (k=i∧i≠r) by omega),if_neg (show ¬ (k=i∧i≠r) by omega)];by_cases e2:i+1≤k∧k < i+1+f∧k≠r
   ·rw [if_pos e2,if_pos ⟨by omega,by omega,e2.2.2⟩]
   ·rw [if_neg e2,if_neg (by omega)]
theorem Yh (h:Rec n w X)(hr:r < n)(hp:p < n):Rec n w (Li X r c p):=by
 unfold Li;rw [h.1];refine Aef hr n 0 _ (by omega) (Rf ?_ hr);split
 ·exact h
 ·exact Lr h hp hr
theorem Sg:∀ f c P X d,(By f c P X d).1.length≤P.length+f
 | 0,c,P,X,d=>by simp [By]
 | f+1,c,P,X,d=>by
  unfold By;split
  ·split
   ·have:=Sg f (c+1) P X d; omega
   ·have:=Sg f (c+1) (P++[c]) (Li X P.length c (Ee X c (X.length - P.length) P.length)) ((if Ee X c (X.length - P.length) P.length=P.length then d else 0 - d)*gR (gM X (Ee X c (X.length - P.length) P.length)) c);rw [List.length_append] at this;simp at this ⊢;omega
  ·simp
end
section
open Go.RowKit
theorem Ae8 {u:PH}{v:Value}{A:List (List Rat)}(h:N7 u v (Jx A))(hs:Sq A):Fn0 prog 107 [v] u fun v' _=>v'=.tuple #[.int .i64 (A.length:Int),.int .i64 (A.length:Int),.int .i64 0]:=by
 obtain ⟨a,c,rfl⟩:=h.opn;rw [If] at h ⊢;have hle:=hs.le;refine Fn0.o func107 ?_;by_cases h0:0 < A.length
 ·refine G.gT (A.length:Int) 0 ?_;obtain ⟨b1,o1,a1,c1,rfl,e1,e2⟩:=h.row (Gj (List.getElem?_eq_getElem h0));rw [List.length_map,hs.len h0] at e1 e2;refine G.a b1 o1 A.length c 0 1 h0 ?_;refine G.lU none b1 (o1+0*1) _ e1 ?_;clear e1 e2;obtain ⟨a,ha⟩:∃ a:Option Addr,a=some ⟨b1,o1,none⟩:=⟨_,rfl⟩;rw [← ha] at h ⊢;clear ha;refine G.gF (A.length:Int) 12 ?_;refine G.l (ι:=Nat) (fun i=>[(0,.v (.slice a A.length c)),(5,.v (.int .i64 (A.length:Int))),(21,.v (.int .i64 (A.length:Int))),(22,.v (.int .i64 (i:Int)))]) (fun _=>[])
   (fun i u' m'=>i≤A.length∧m'=PH.mt) (fun i=>A.length - i) 0 ⟨by omega,rfl⟩ ?_
  rintro J1 i hJ1 u1 m1 l1 ⟨hi,rfl⟩;by_cases hlt:i < A.length
  ·refine G.lT (i:Int) (A.length:Int) ?_;obtain ⟨b1,o1,a1,c1,rfl,e1,e2⟩:=(h.mono l1).row (Gj (List.getElem?_eq_getElem hlt));rw [List.length_map,hs.len hlt] at e1 e2;refine G.a b1 o1 A.length c i 1 hlt ?_;refine G.lU none b1 (o1+i*1) _ e1 ?_;refine G.gF (A.length:Int) 12 ?_;refine G.i i ?_;exact G.b (hJ1 (i+1) _ _ _ cv l1 ⟨by omega,rfl⟩ (by omega))
  obtain rfl:i=A.length:=by omega
  clear hlt;refine G.lF (A.length:Int) (A.length:Int) ?_;clear hJ1;refine G.l (ι:=Nat) (fun i=>[(0,.v (.slice a A.length c)),(5,.v (.int .i64 (A.length:Int))),(33,.v (.int .i64 (A.length:Int))),(34,.v (.int .i64 (i:Int)))]) (fun _=>[])
   (fun i u' m'=>i≤A.length∧m'=PH.mt) (fun i=>A.length - i) 0 ⟨by omega,rfl⟩ ?_
  rintro J2 i hJ2 u2 m2 l2 ⟨hi,rfl⟩;by_cases hlt:i < A.length
  ·refine G.lT (i:Int) (A.length:Int) ?_;obtain ⟨b1,o1,a1,c1,rfl,e1,e2⟩:=(h.mono (l1.trans l2)).row (Gj (List.getElem?_eq_getElem hlt));rw [List.length_map,hs.len hlt] at e1 e2;refine G.a b1 o1 A.length c i 1 hlt ?_;refine G.lU none b1 (o1+i*1) _ e1 ?_;refine G.nF (A.length:Int) (A.length:Int) ?_;refine G.i i ?_;exact G.b (hJ2 (i+1) _ _ _ cv l2 ⟨by omega,rfl⟩ (by omega))
  obtain rfl:i=A.length:=by omega
  clear hlt;refine G.lF (A.length:Int) (A.length:Int) ?_;clear hJ2;refine G.l (ι:=Nat) (fun i=>[(0,.v (.slice a A.length c)),(5,.v (.int .i64 (A.length:Int))),(46,.v (.int .i64 (A.length:Int))),(47,.v (.int .i64 (i:Int)))]) (fun _=>[])
   (fun i u' m'=>i≤A.length∧m'=PH.mt) (fun i=>A.length - i) 0 ⟨by omega,rfl⟩ ?_
  rintro J3 i hJ3 u3 m3 l3 ⟨hi,rfl⟩;by_cases hlt:i < A.length
  ·refine G.lT (i:Int) (A.length:Int) ?_;obtain ⟨b1,o1,a1,c1,rfl,e1,e2⟩:=(h.mono ((l1.trans l2).trans l3)).row (Gj (List.getElem?_eq_getElem hlt));rw [List.length_map,hs.len hlt] at e1 e2;refine G.a b1 o1 A.length c i 1 hlt ?_;refine G.lU none b1 (o1+i*1) _ e1 ?_;refine G.l (ι:=Nat) (fun k=>[(0,.v (.slice (some ⟨b1,o1,none⟩) A.length c)),(5,.v (.int .i64 (A.length:Int))),(46,.v (.int .i64 (A.length:Int))),(47,.v (.int .i64 (i:Int))),(8,.v (.int .i64 (i:Int))),(54,.v (.int .i64 (A.length:Int))),(55,.v (.int .i64 (k:Int)))]) (fun _=>[])
    (fun k u' m'=>k≤A.length∧m'=PH.mt) (fun k=>A.length - k) 0 ⟨by omega,rfl⟩ ?_
   rintro J4 k hJ4 u4 m4 l4 ⟨hk,rfl⟩;by_cases hlk:k < A.length
   ·refine G.lT (k:Int) (A.length:Int) ?_;have hki:k < A[i].length:=by rw [hs.len hlt]; exact hlk
    obtain ⟨b2,o2,rfl,e3⟩:=Ab.at' (Ab.mono e2 l4) (j:=k) (e:=.string (mkS (Af A[i][k]))) (by simp [Cs,List.getElem?_eq_getElem hki]);refine G.a b1 o1 A.length c i 1 hlt ?_;refine G.lU none b1 (o1+i*1) _ (e1.mono l4) ?_;refine G.a b2 o2 A.length c1 k 1 hlk ?_;refine G.lU none b2 (o2+k*1) _ e3 ?_;refine G.c call30 (Cp (hs.tx' hlt hki)) ?_;rintro v5 u5 l5 rfl;refine G.i k ?_;exact G.b (hJ4 (k+1) _ _ _ cv (l4.trans l5) ⟨by omega,rfl⟩ (by omega))
   ·refine G.lF (k:Int) (A.length:Int) ?_;refine G.i i ?_;exact G.b (hJ3 (i+1) _ _ _ cv (l3.trans l4) ⟨by omega,rfl⟩ (by omega))
  ·refine G.lF (i:Int) (A.length:Int) ?_;exact G.r (.tuple #[.int .i64 (A.length:Int),.int .i64 (A.length:Int),.int .i64 0]) ⟨rfl,rfl⟩
 ·refine G.gF (A.length:Int) 0 ?_;have hz:(A.length:Int)=0:=by omega
  refine G.gF (A.length:Int) 12 ?_;refine G.l (ι:=Nat) (fun i=>[(0,.v (.slice a A.length c)),(5,.v (.int .i64 0)),(21,.v (.int .i64 (A.length:Int))),(22,.v (.int .i64 (i:Int)))]) (fun _=>[])
   (fun i u' m'=>i≤A.length∧m'=PH.mt) (fun i=>A.length - i) 0 ⟨by omega,rfl⟩ ?_
  rintro J1 i hJ1 u1 m1 l1 ⟨hi,rfl⟩;by_cases hlt:i < A.length
  ·refine G.lT (i:Int) (A.length:Int) ?_;obtain ⟨b1,o1,a1,c1,rfl,e1,e2⟩:=(h.mono l1).row (Gj (List.getElem?_eq_getElem hlt));rw [List.length_map,hs.len hlt] at e1 e2;refine G.a b1 o1 A.length c i 1 hlt ?_;refine G.lU none b1 (o1+i*1) _ e1 ?_;refine G.gF (A.length:Int) 12 ?_;refine G.i i ?_;exact G.b (hJ1 (i+1) _ _ _ cv l1 ⟨by omega,rfl⟩ (by omega))
  obtain rfl:i=A.length:=by omega
  clear hlt;refine G.lF (A.length:Int) (A.length:Int) ?_;clear hJ1;refine G.l (ι:=Nat) (fun i=>[(0,.v (.slice a A.length c)),(5,.v (.int .i64 0)),(33,.v (.int .i64 (A.length:Int))),(34,.v (.int .i64 (i:Int)))]) (fun _=>[])
   (fun i u' m'=>i≤A.length∧m'=PH.mt) (fun i=>A.length - i) 0 ⟨by omega,rfl⟩ ?_
  rintro J2 i hJ2 u2 m2 l2 ⟨hi,rfl⟩;by_cases hlt:i < A.length
  ·refine G.lT (i:Int) (A.length:Int) ?_;obtain ⟨b1,o1,a1,c1,rfl,e1,e2⟩:=(h.mono (l1.trans l2)).row (Gj (List.getElem?_eq_getElem hlt));rw [List.length_map,hs.len hlt] at e1 e2;refine G.a b1 o1 A.length c i 1 hlt ?_;refine G.lU none b1 (o1+i*1) _ e1 ?_;refine G.nF (A.length:Int) 0 ?_;refine G.i i ?_;exact G.b (hJ2 (i+1) _ _ _ cv l2 ⟨by omega,rfl⟩ (by omega))
  obtain rfl:i=A.length:=by omega
  clear hlt;refine G.lF (A.length:Int) (A.length:Int) ?_;clear hJ2;refine G.l (ι:=Nat) (fun i=>[(0,.v (.slice a A.length c)),(5,.v (.int .i64 0)),(46,.v (.int .i64 (A.length:Int))),(47,.v (.int .i64 (i:Int)))]) (fun _=>[])
   (fun i u' m'=>i≤A.length∧m'=PH.mt) (fun i=>A.length - i) 0 ⟨by omega,rfl⟩ ?_
  rintro J3 i hJ3 u3 m3 l3 ⟨hi,rfl⟩;by_cases hlt:i < A.length
  ·refine G.lT (i:Int) (A.length:Int) ?_;obtain ⟨b1,o1,a1,c1,rfl,e1,e2⟩:=(h.mono ((l1.trans l2).trans l3)).row (Gj (List.getElem?_eq_getElem hlt));rw [List.length_map,hs.len hlt] at e1 e2;refine G.a b1 o1 A.length c i 1 hlt ?_;refine G.lU none b1 (o1+i*1) _ e1 ?_;refine G.l (ι:=Nat) (fun k=>[(0,.v (.slice (some ⟨b1,o1,none⟩) A.length c)),(5,.v (.int .i64 0)),(46,.v (.int .i64 (A.length:Int))),(47,.v (.int .i64 (i:Int))),(8,.v (.int .i64 (i:Int))),(54,.v (.int .i64 (A.length:Int))),(55,.v (.int .i64 (k:Int)))]) (fun _=>[])
    (fun k u' m'=>k≤A.length∧m'=PH.mt) (fun k=>A.length - k) 0 ⟨by omega,rfl⟩ ?_
   rintro J4 k hJ4 u4 m4 l4 ⟨hk,rfl⟩;by_cases hlk:k < A.length
   ·refine G.lT (k:Int) (A.length:Int) ?_;have hki:k < A[i].length:=by rw [hs.len hlt]; exact hlk
    obtain ⟨b2,o2,rfl,e3⟩:=Ab.at' (Ab.mono e2 l4) (j:=k) (e:=.string (mkS (Af A[i][k]))) (by simp [Cs,List.getElem?_eq_getElem hki]);refine G.a b1 o1 A.length c i 1 hlt ?_;refine G.lU none b1 (o1+i*1) _ (e1.mono l4) ?_;refine G.a b2 o2 A.length c1 k 1 hlk ?_;refine G.lU none b2 (o2+k*1) _ e3 ?_;refine G.c call30 (Cp (hs.tx' hlt hki)) ?_;rintro v5 u5 l5 rfl;refine G.i k ?_;exact G.b (hJ4 (k+1) _ _ _ cv (l4.trans l5) ⟨by omega,rfl⟩ (by omega))
   ·refine G.lF (k:Int) (A.length:Int) ?_;refine G.i i ?_;exact G.b (hJ3 (i+1) _ _ _ cv (l3.trans l4) ⟨by omega,rfl⟩ (by omega))
  ·refine G.lF (i:Int) (A.length:Int) ?_;exact G.r (.tuple #[.int .i64 (A.length:Int),.int .i64 0,.int .i64 0]) ⟨rfl,by rw [hz]⟩
end
section
open Go.RowKit
variable {n:Nat}
structure B3 where
 b:Bool
 a:Option Addr
 n:Nat
 c:Nat
def bv (f:B3):Value:=.agg #[.bool f.b,.slice f.a f.n f.c]
def bc (f:B3):List SV:=[.v (.bool f.b),.v (.slice f.a f.n f.c)]
theorem Cn.opB {u:PH}{v:Value}{z:Int}(h:Cn u v z):∃ f,v=bv f:=by
 obtain ⟨b,a,n,c,rfl,_⟩:=h.opn;exact ⟨⟨b,a,n,c⟩,rfl⟩
theorem nl1 (h:n < 1000000000):nl n≤1:=A4 (by simpa using h)
theorem nlN (h:n < 1000000000):nl ((n:Int)).natAbs≤1:=by rw [Int.natAbs_natCast]; exact nl1 h
end
section
open Go.RowKit
structure Q4 where
 b:Bool
 a:Option Addr
 n:Nat
 c:Nat
 a':Option Addr
 n':Nat
 c':Nat
def qv (f:Q4):Value:=.agg #[.bool f.b,.slice f.a f.n f.c,.bool false,.slice f.a' f.n' f.c']
def qc (f:Q4):List SV:=[.v (.bool f.b),.v (.slice f.a f.n f.c),.v (.bool false),.v (.slice f.a' f.n' f.c')]
theorem QP.opQ {u:PH}{v:Value}{q:Rat}(h:QP u v q):∃ f,v=qv f:=by
 obtain ⟨b,a,n,c,a',n',c',rfl,_⟩:=h.opn;exact ⟨⟨b,a,n,c,a',n',c'⟩,rfl⟩
end
section
open Go.RowKit
variable {M:List (List Rat)}{m m0 u:PH}{q:List Rat}{r:Value×List Value}{rows:List (Value×List Value)}{v:Value}
def zQ:Value:=.agg #[.bool false,.slice none 0 0,.bool false,.slice none 0 0]
theorem Vn (f:Q4):A3 4 [qv f]:=by
 intro x hx;simp at hx; subst hx;exact ⟨rfl,fun y hy=>by simp [qv,Value.cells] at hy; rcases hy with rfl | rfl | rfl | rfl <;> rfl⟩
def Dz (r:Value×List Value):Arr:=⟨r.1,68,4,r.2⟩
def oQ (v:Value)(rows:List (Value×List Value)):Arr:=⟨v,182,1,rows.map (·.1)⟩
theorem Lv :(Dz r).At m0 m=Ae m0 m r.1 68 4 r.2:=rfl
theorem Aiz :(oQ v rows).At m0 m=Ae m0 m v 182 1 (rows.map (·.1)):=rfl
def QAt (u:PH)(rows:List (Value×List Value))(M:List (List Rat)):Prop:=rows.length=M.length∧∀ (i:Nat) (r:Value×List Value),rows[i]?=some r→AtP QP u r.2 (gM M i)
theorem QAt.mono {u u':PH}{rows:List (Value×List Value)}{M:List (List Rat)}(h:QAt u rows M)(hl:PH.le u u'):QAt u' rows M:=⟨h.1,fun i r hr=>(h.2 i r hr).mono (fun _ _ k=>k.mono hl)⟩
theorem QAt.set {i:Nat}(h:QAt u rows M)(hi:i < rows.length)(hr:AtP QP u r.2 q):QAt u (rows.set i r) (M.set i q):=by
 refine ⟨by simp [h.1],fun j r' hj=>?_⟩;rw [Ka (by rw [← h.1]; exact hi)];rw [List.getElem?_set] at hj;by_cases e:i=j
 ·subst e;rw [if_pos rfl,if_pos hi] at hj;simp only [Option.some.injEq] at hj;rw [if_pos rfl,← hj]; exact hr
 ·rw [if_neg e] at hj ⊢;exact h.2 j r' hj
theorem QAt.snoc (h:QAt u rows M)(hr:AtP QP u r.2 q):QAt u (rows++[r]) (M++[q]):=by
 refine ⟨by simp [h.1],fun i r' hi=>?_⟩;rw [Ak7];by_cases e:i < rows.length
 ·rw [List.getElem?_append_left e] at hi;rw [if_pos (by rw [← h.1]; exact e)]; exact h.2 i r' hi
 ·rw [List.getElem?_append_right (by omega)] at hi;have hz:i - rows.length=0:=by
   rcases Nat.eq_zero_or_pos (i - rows.length) with h0 | h0
   ·exact h0
   ·rw [List.getElem?_eq_none (by simp; omega)] at hi; cases hi
  rw [hz] at hi;simp at hi; subst hi;rw [if_neg (by rw [← h.1]; exact e),if_pos (by rw [← h.1]; omega)]; exact hr
theorem Mx {α:Type}{l:List α}{k:Nat}(h:k < l.length):l.take (k+1)=l.take k++[l[k]]:=by
 rw [List.take_add_one,List.getElem?_eq_getElem h]; rfl
theorem Afs {A:List (List Rat)}(h:N7 u v (Jx A))(hs:Sq A) :
  Ai prog 110 [v] u PH.mt fun v' u' m'=>∃ a c rows,v'=.slice a A.length c∧QAt u' rows A∧Bag m' (oQ (.slice a A.length c) rows::rows.map Dz):=by
 obtain ⟨a0,c0,rfl⟩:=h.opn;rw [If] at h ⊢;have hle:=hs.le;refine Ai.o func110 ?_;refine G.l (ι:=Nat×(Option Addr×Nat)×List (Value×List Value)) (fun i=>[(0,.v (.slice a0 A.length c0)),(3,.v (.slice i.2.1.1 i.1 i.2.1.2)),(9,.v (.int .i64 (A.length:Int))),(10,.v (.int .i64 (i.1:Int)))]) (fun _=>[])
  (fun i u' m'=>i.1≤A.length∧QAt u' i.2.2 (A.take i.1)∧Bag m' (oQ (.slice i.2.1.1 i.1 i.2.1.2) i.2.2::i.2.2.map Dz))
  (fun i=>A.length - i.1) (0,(none,0),[]) ⟨Nat.zero_le _,⟨rfl,fun j r hj=>by simp at hj⟩,PH.mt,Ae.nil _ _ _,trivial⟩ ?_
 rintro J ⟨i,⟨a,c⟩,rows⟩ hJ u1 m1 l1 ⟨hi,hS,hbag⟩;simp only at hi hS hbag hJ;have hrl:rows.length=i:=by rw [hS.1,List.length_take]; omega
 by_cases hlt:i < A.length
 ·refine G.lT (i:Int) (A.length:Int) ?_;obtain ⟨b1,o1,a1,c1,rfl,e1,e2⟩:=(h.mono l1).row (Gj (List.getElem?_eq_getElem hlt));have hil:=hs.len hlt;rw [List.length_map,hil] at e1 e2;refine G.a b1 o1 A.length c0 i 1 hlt ?_;refine G.lU none b1 (o1+i*1) _ e1 ?_;refine G.l (ι:=Nat×(Option Addr×Nat)×List Value) (fun j=>[(0,.v (.slice (some ⟨b1,o1,none⟩) A.length c0)),(3,.v (.slice a i c)),(9,.v (.int .i64 (A.length:Int))),(10,.v (.int .i64 (i:Int))),(5,.v (.slice j.2.1.1 j.1 j.2.1.2)),(16,.v (.slice a1 A.length c1)),(17,.v (.int .i64 (A.length:Int))),(18,.v (.int .i64 (j.1:Int)))]) (fun _=>[])
   (fun j u' m'=>j.1≤A.length∧AtP QP u' j.2.2 (A[i].take j.1)∧Bag m' (Dz (.slice j.2.1.1 j.1 j.2.1.2,j.2.2)::oQ (.slice a i c) rows::rows.map Dz))
   (fun j=>A.length - j.1) (0,(none,0),[]) ⟨Nat.zero_le _,AtP.nil,m1,Ae.nil _ _ _,hbag⟩ ?_
  rintro J2 ⟨j,⟨aj,cj⟩,es⟩ hJ2 u2 m2 l2 ⟨hj,hAt,hbagj⟩;simp only at hj hAt hbagj hJ2;have hel:es.length=j:=by rw [hAt.1,List.length_take]; omega
  by_cases hltj:j < A.length
  ·refine G.lT (j:Int) (A.length:Int) ?_;have hji:j < A[i].length:=by rw [hil]; exact hltj
   obtain ⟨b2,o2,rfl,e3⟩:=Ab.at' (Ab.mono e2 l2) (j:=j) (e:=.string (mkS (Af A[i][j]))) (by simp [Cs,List.getElem?_eq_getElem hji]);refine G.a b2 o2 A.length c1 j 1 hltj ?_;refine G.lU none b2 (o2+j*1) _ e3 ?_;refine G.c call31 (Eh (hs.tx' hlt hji)) ?_;intro v4 u4 l4 k4;obtain ⟨f4,rfl⟩:=k4.opQ;refine G.B 68 4 64 zQ [qv f4] (Vn f4) ?_;intro g5 u5 l5 e5;obtain ⟨mm,hx0,hbr⟩:=hbagj;rw [Lv] at hx0;refine G.append 68 4 64 zQ mm es [qv f4] (.slice aj j cj) g5 0 1 1 (by kernel_rfl) rfl rfl (by omega) hx0 e5 (Vn f4) rfl (by omega) (by omega) (by omega) ?_;intro v6 m6 hx6;obtain ⟨a6,c6,rfl⟩:=hx6.shape;have el:(es++[qv f4]).length=j+1:=by simp [hel]
   rw [el] at hx6 ⊢;refine G.i j ?_;refine G.b (hJ2 (j+1,(a6,c6),es++[qv f4]) _ _ _ cv ((l2.trans l4).trans l5) ⟨by dsimp only; omega,?_,mm,hx6,hbr⟩ (by dsimp only; omega));dsimp only;rw [Mx hji];exact (hAt.mono (fun _ _ k=>k.mono (l4.trans l5))).snoc (k4.mono l5)
  ·obtain rfl:j=A.length:=by omega
   refine G.lF (A.length:Int) (A.length:Int) ?_;have hA:A[i].take A.length=A[i]:=by rw [← hil]; exact List.take_length
   rw [hA] at hAt;refine G.B 182 1 24 (.slice none 0 0) [.slice aj A.length cj] (Gt _ _ _) ?_;intro g5 u5 l5 e5;obtain ⟨m0,hx0,hput⟩:=hbagj.focus 1 rfl;rw [Aiz] at hx0;refine G.k 182 1 24 (.slice none 0 0) m0 (rows.map (·.1)) [.slice aj A.length cj] (.slice a i c) g5 0 1 1 hx0 e5 (Gt _ _ _) ?_;intro v6 m6 hx6;have em:rows.map (·.1)++[Value.slice aj A.length cj]=(rows++[(Value.slice aj A.length cj,es)]).map (·.1):=by simp
   rw [em] at hx6;obtain ⟨a6,c6,rfl⟩:=hx6.shape;have el:((rows++[(Value.slice aj A.length cj,es)]).map (·.1)).length=i+1:=by simp [hrl]
   rw [el] at hx6 ⊢;have hbag3:=hput (oQ (.slice a6 (i+1) c6) (rows++[(Value.slice aj A.length cj,es)])) m6 hx6;have hbag4:=Bag.perm Y3 hbag3;refine G.i i ?_;refine G.b (hJ (i+1,(a6,c6),rows++[(Value.slice aj A.length cj,es)]) _ _ _ cv ((l1.trans l2).trans l5) ⟨by dsimp only; omega,?_,by simpa using hbag4⟩ (by dsimp only; omega));dsimp only;rw [Mx hlt];exact (hS.mono (l2.trans l5)).snoc (hAt.mono (fun _ _ k=>k.mono l5))
 ·obtain rfl:i=A.length:=by omega
  refine G.lF (A.length:Int) (A.length:Int) ?_;rw [List.take_length] at hS;exact G.r (.slice a A.length c) ⟨a,c,rows,rfl,hS,hbag⟩
end
section
open Go.RowKit
variable {R Y:List Rat}{X:List (List Rat)}{i k n s w:Nat}{r:Value×List Value}{rows:List (Value×List Value)}{v:Value}
def Xz (v:Value)(P:List Nat):Arr:=⟨v,3,1,Ag P⟩
theorem Aky {P:List Nat}{m0 m:PH}:(Xz v P).At m0 m=Ae m0 m v 3 1 (Ag P):=rfl
theorem Hx {s o:Arr}(h:rows[i]?=some r):(s::o::rows.map Dz)[i+2]?=some (Dz r):=by simp [h]
theorem Aal {s o:Arr}:(s::o::rows.map Dz).set (i+2) (Dz r)=s::o::(rows.set i r).map Dz:=by
 rw [List.set_cons_succ,List.set_cons_succ,List.map_set]
theorem Ai2 {x:Value}{es es':List Value}(h:rows[i]?=some (x,es)):oQ v (rows.set i (x,es'))=oQ v rows:=by
 unfold oQ; rw [Zc (r':=(x,es')) h rfl]
theorem Vj {u m:PH}{pa:Arr}{g n c w i:Nat}(hbag:Bag m (pa::oQ (.slice (some ⟨g,0,none⟩) n c) rows::rows.map Dz))(hQ:QAt u rows X)(hX:Rec n w X)(hi:i < n)(hw:0 < w) :
  ∃ gi ci ei,rows[i]?=some (.slice (some ⟨gi,0,none⟩) w ci,ei)∧ei.length=w∧AtP QP u ei (gM X i)∧ElP m g (0+i*1) (.slice (some ⟨gi,0,none⟩) w ci)∧∀ j,j < w→∃ f,ei[j]?=some (qv f)∧QP u (qv f) (gR (gM X i) j)∧ElP m gi (0+j*4) (qv f):=by
 have hrl:rows.length=n:=by rw [hQ.1,hX.1]
 have hri:rows[i]?=some rows[i]:=List.getElem?_eq_getElem (by omega);have hAt:=hQ.2 i _ hri;obtain ⟨⟨vi,ei⟩,he⟩:∃ x,rows[i]=x:=⟨_,rfl⟩;rw [he] at hri hAt;simp only at hAt;have hel:ei.length=w:=by rw [hAt.1,hX.2 i hi]
 obtain ⟨gi,ci,e⟩:=hbag.ptr (i+2) (Hx hri) (by intro e; simp only [Dz] at e; rw [e] at hel; simp at hel; omega);simp only [Dz] at e;rw [hel] at e;subst e;refine ⟨gi,ci,ei,hri,hel,hAt,hbag.el 1 (x:=oQ _ rows) rfl rfl (by show (rows.map (·.1))[i]?=_; rw [List.getElem?_map,hri]; rfl),fun j hj=>?_⟩;have hjl:j < (gM X i).length:=by rw [hX.2 i hi]; exact hj
 obtain ⟨e,e1,e2⟩:=hAt.at hjl;obtain ⟨f,rfl⟩:=e2.opQ;rw [← Mj hjl] at e2;exact ⟨f,e1,e2,hbag.el (i+2) (x:=Dz _) (Hx hri) rfl e1⟩
def es (s:Nat):Nat→Nat
 | 0=>s
 | k+1=>4*es s k+2
theorem Ajv (s : Nat) {k l : Nat} (h : k ≤ l) : es s k ≤ es s l := by
  induction l with
  | zero => have : k = 0 := by omega
            subst this; exact Nat.le_refl _
  | succ l ih =>
    rcases Nat.lt_or_ge k (l + 1) with h' | h'
    · have := ih (by omega)
      show es s k ≤ 4 * es s l + 2
      omega
    · have : k = l + 1 := by omega
      subst this; exact Nat.le_refl _
theorem Ano (h:1≤s)(k:Nat):1≤es s k:=Nat.le_trans h (Ajv s (Nat.zero_le k))
theorem SzM.at {n w s i j:Nat}(h:SzM X s)(hX:Rec n w X)(hi:i < n)(hj:j < w):Sz (gR (gM X i) j) s:=h i j (by rw [hX.1]; exact hi) (by rw [hX.2 i hi]; exact hj)
theorem Xt (hX:Rec n w X)(h:∀ i j,i < n→j < w→Sz (gR (gM X i) j) s):SzM X s:=fun i j hi hj=>by
 rw [hX.1] at hi;rw [hX.2 i hi] at hj;exact h i j hi hj
theorem Apu {q:Rat}:decide (q.num=0)=decide (q=0):=decide_eq_decide.2 Rat.num_eq_zero
def Pi (Y R:List Rat)(k:Nat):List Rat:=Y.take k++R.drop k
theorem Vw (Y R:List Rat):Pi Y R 0=R:=by simp [Pi]
theorem Zx (h:Y.length=k)(h2:R.length=k):Pi Y R k=Y:=by
 unfold Pi; rw [List.take_of_length_le (by omega),List.drop_of_length_le (by omega),List.append_nil]
theorem Yr (h:Y.length=R.length)(hk:k≤R.length):(Pi Y R k).length=R.length:=by simp [Pi]; omega
theorem Aas (h:Y.length=R.length)(hk:k < R.length):(Pi Y R k).set k (gR Y k)=Pi Y R (k+1):=by
 unfold Pi;rw [List.set_append_right _ _ (by simp; omega)];simp only [List.length_take];rw [show k - min k Y.length=0 by omega,List.drop_eq_getElem_cons hk,List.set_cons_zero,Mx (by omega),List.append_assoc,Mj (by omega)]; rfl
theorem Ad4 (h:Y.length=R.length)(hk:k < R.length):gR (Pi Y R k) k=gR R k:=by
 unfold Pi gR;rw [List.getD_eq_getElem?_getD,List.getElem?_append_right (by simp; omega),List.getD_eq_getElem?_getD];simp only [List.length_take];rw [show k - min k Y.length=0 by omega,List.getElem?_drop]; rfl
end
section
open Go.RowKit
structure ES where
 c:Nat
 P:List Nat
 pa:Option Addr
 pc:Nat
 rows:List (Value×List Value)
 X:List (List Rat)
 f:Q4
 d:Rat
structure E2 where
 rows:List (Value×List Value)
 X:List (List Rat)
 f:Q4
 d:Rat
theorem Acp {n w p r E:Nat}{X:List (List Rat)}(h:Rec n w X)(hp:p < n)(hr:r < n)(hs:SzM X E):Rec n w (if p=r then X else H1 X p r)∧SzM (if p=r then X else H1 X p r) E∧∀ j,gR (gM (if p=r then X else H1 X p r) r) j=gR (gM X p) j:=by
 by_cases e:p=r
 ·rw [if_pos e];exact ⟨h,hs,fun j=>by rw [e]⟩
 ·rw [if_neg e];refine ⟨Lr h hp hr,Xt (Lr h hp hr) (fun i j hi hj=>?_),fun j=>?_⟩
  ·show Sz (en (H1 X p r) i j) E;rw [Q6 h hp hr];split
   ·exact hs.at h hp hj
   ·split
    ·exact hs.at h hr hj
    ·exact hs.at h hi hj
  ·show en (H1 X p r) r j=_;rw [Q6 h hp hr,if_pos rfl]; rfl
theorem Ti {α:Type}{l:List α}{i:Nat}{x:α}(h:l[i]?=some x):l.set i x=l:=by
 obtain ⟨h1,h2⟩:=List.getElem?_eq_some_iff.1 h;rw [← h2]; exact List.set_getElem_self h1
theorem Aio (F:Rat)(R:List Rat):(H9 F R).length=R.length:=by simp [H9]
theorem Aiu (g:Rat)(R S:List Rat):(Mu g R S).length=S.length:=by simp [Mu]
theorem Ajp {u m:PH}{a:Option Addr}{co:Nat}{rows0:List (Value×List Value)}{X0:List (List Rat)}{n w cols s:Nat}(hX0:Rec n w X0)(hn:n≤100)(hw:w≤100)(hcw:cols≤w)(hsz0:SzM X0 s)(hs:1≤s)(hes:es s cols≤1000000000)
  (hQ0:QAt u rows0 X0) (hbag0:Bag m (oQ (.slice a n co) rows0::rows0.map Dz)) :
  Ai prog 111 [.slice a n co,.int .i64 (cols:Int)] u m fun v u' m'=>∃ pa pc f rows',v=.tuple #[.slice pa (By cols 0 [] X0 1).1.length pc,qv f]∧QP u' (qv f) (By cols 0 [] X0 1).2.2∧QAt u' rows' (By cols 0 [] X0 1).2.1 ∧
   Bag m' (Xz (.slice pa (By cols 0 [] X0 1).1.length pc) (By cols 0 [] X0 1).1::oQ (.slice a n co) rows'::rows'.map Dz):=by
 refine Ai.o func111 ?_;refine G.c call27 (Pq (z:=1) (by omega) (by omega)) ?_;intro v1 u1 l1 k1;rw [show ((1:Int):Rat)=1 from by decide] at k1;obtain ⟨f1,rfl⟩:=k1.opQ;refine G.l (ι:=ES) (fun i=>[(0,.v (.slice a n co)),(1,.v (.int .i64 (cols:Int))),(5,.p 1 0),(6,.v (.slice i.pa i.P.length i.pc)),(7,.p 2001 0),(8,.v (.int .i64 (i.c:Int)))]) (fun i=>[(1,⟨68,[.v (.bool false),.v (.slice none 0 0),.v (.bool false),.v (.slice none 0 0)]⟩),(2001,⟨68,qc i.f⟩)])
  (fun i u' m'=>i.c≤cols∧i.P.length≤i.c∧By (cols - i.c) i.c i.P i.X i.d=By cols 0 [] X0 1∧Rec n w i.X∧SzM i.X (es s i.c)∧Sz i.d (es s i.c)∧QP u' (qv i.f) i.d∧QAt u' i.rows i.X∧Bag m' (Xz (.slice i.pa i.P.length i.pc) i.P::oQ (.slice a n co) i.rows::i.rows.map Dz))
  (fun i=>cols - i.c) ⟨0,[],none,0,rows0,X0,f1,1⟩ ⟨Nat.zero_le _,Nat.le_refl _,rfl,hX0,hsz0,(Agl (z:=1) (by decide)).mono hs,k1,hQ0.mono l1,m,Ae.nil _ _ _,hbag0⟩ ?_
 rintro J ⟨c,P,pa,pc,rows,X,f,d⟩ hJ u2 m2 l2 ⟨hc,hPc,hgo,hX,hsz,hsd,hf,hQ,hbag⟩;simp only at hc hPc hgo hX hsz hsd hf hQ hbag hJ;clear hbag0 hQ0 hsz0 k1;have hfin:By (cols - c) c P X d=(P,X,d)→∃ pa' pc' f' rows',(Value.tuple #[.slice pa P.length pc,qv f])=.tuple #[.slice pa' (By cols 0 [] X0 1).1.length pc',qv f']∧QP u2 (qv f') (By cols 0 [] X0 1).2.2∧QAt u2 rows' (By cols 0 [] X0 1).2.1∧Bag m2 (Xz (.slice pa' (By cols 0 [] X0 1).1.length pc') (By cols 0 [] X0 1).1::oQ (.slice a n co) rows'::rows'.map Dz):=by
  intro e;rw [e] at hgo;rw [← hgo];exact ⟨pa,pc,f,rows,rfl,hf,hQ,hbag⟩
 by_cases hlt:cols≤c
 ·refine G.lF (c:Int) (cols:Int) ?_;exact G.r (.tuple #[.slice pa P.length pc,qv f]) (hfin (by rw [show cols - c=0 by omega]; rfl))
 have hlt:c < cols:=by omega
 refine G.lT (c:Int) (cols:Int) ?_;obtain ⟨K,hK⟩:∃ K,cols - c=K+1:=⟨cols - c - 1,by omega⟩;by_cases hP:n≤P.length
 ·refine G.lF (P.length:Int) (n:Int) ?_;exact G.r (.tuple #[.slice pa P.length pc,qv f]) (hfin (by rw [hK,By,if_neg (by rw [hX.1]; omega)]))
 clear hfin;have hP:P.length < n:=by omega
 refine G.lT (P.length:Int) (n:Int) ?_;have hw0:0 < w:=by omega
 have hrl:rows.length=n:=by rw [hQ.1,hX.1]
 obtain ⟨go,co',eo⟩:=hbag.ptr 1 rfl (by intro e; simp only [oQ,List.map_eq_nil_iff] at e; rw [e] at hrl; simp at hrl; omega);simp only [oQ,List.length_map,hrl,Value.slice.injEq,true_and] at eo;obtain ⟨rfl,rfl⟩:=eo;have hec:=Ano hs c;have hes1:4*es s c+2≤1000000000:=Nat.le_trans (Ajv s (show c+1≤cols by omega)) hes;obtain ⟨E,hE⟩:∃ E,E=es s c:=⟨_,rfl⟩;have hE1:es s (c+1)=4*E+2:=by rw [hE]; rfl
 rw [← hE] at hsz hsd hec hes1;refine G.l (ι:=Nat) (fun p=>[(0,.v (.slice (some ⟨go,0,none⟩) n co)),(1,.v (.int .i64 (cols:Int))),(5,.p 1 0),(6,.v (.slice pa P.length pc)),(7,.p 2001 0),(8,.v (.int .i64 (c:Int))),(9,.v (.int .i64 (P.length:Int))),(10,.v (.int .i64 (p:Int)))]) (fun _=>[(1,⟨68,[.v (.bool false),.v (.slice none 0 0),.v (.bool false),.v (.slice none 0 0)]⟩),(2001,⟨68,qc f⟩)])
  (fun p u' m'=>P.length≤p∧p≤n∧Ee X c (n - p) p=Ee X c (n - P.length) P.length∧m'=m2) (fun p=>n - p) P.length ⟨Nat.le_refl _,by omega,rfl,rfl⟩ ?_
 rintro J2 p hJ2 u3 m3 l3 ⟨hp1,hp2,hpv,rfl⟩;have hQ3:=hQ.mono l3;have hf3:=hf.mono l3;by_cases hpn:n≤p
 ·obtain rfl:p=n:=by omega
  refine G.lF (p:Int) (p:Int) ?_;refine G.eT' (p:Int) (p:Int) rfl ?_;refine G.i c ?_;refine G.b (hJ ⟨c+1,P,pa,pc,rows,X,f,d⟩ _ _ _ cv (l2.trans l3) ⟨by dsimp only; omega,by dsimp only; omega,?_,hX,hsz.mono (by dsimp only; omega),hsd.mono (by dsimp only; omega),hf3,hQ3,hbag⟩ (by dsimp only; omega));dsimp only;rw [← hgo,hK,By,if_pos (by rw [hX.1]; exact hP),hX.1,← hpv,if_pos (by rw [Nat.sub_self]; rfl),show cols - (c+1)=K by omega]
 have hpn:p < n:=by omega
 refine G.lT (p:Int) (n:Int) ?_;obtain ⟨K2,hK2⟩:∃ K2,n - p=K2+1:=⟨n - p - 1,by omega⟩;obtain ⟨gp,cp,ep,hrp,hpl,hAp,hop,hcp⟩:=Vj hbag hQ3 hX hpn hw0;obtain ⟨fp,hp5,hp6,hp7⟩:=hcp c (by omega);have hszp:=hsz.at hX hpn (show c < w by omega);refine G.a go 0 n co p 1 hpn ?_;refine G.lM none go (0+p*1) _ hop ?_;refine G.a gp 0 w cp c 4 (by omega) ?_;refine G.lM (some 4) gp (0+c*4) (qv fp) hp7 ?_;refine G.c call141 (Lm hp6 (Nat.le_trans hszp.1 (by omega))) ?_;rintro v4 u4 l4 rfl;rw [Apu];by_cases hz:gR (gM X p) c=0
 ·rw [decide_eq_true hz];refine G.i p ?_;refine G.b (hJ2 (p+1) _ _ _ cv (l3.trans l4) ⟨by omega,by omega,?_,rfl⟩ (by omega));rw [← hpv,hK2,Ee,if_pos hz,show n - (p+1)=K2 by omega]
 rw [decide_eq_false hz];rw [hK2,Ee,if_neg hz] at hpv;clear hJ2;refine G.eF (p:Int) (n:Int) ?_;refine G.join (ι:=E2) (.bool false) (fun i=>[(0,.v (.slice (some ⟨go,0,none⟩) n co)),(1,.v (.int .i64 (cols:Int))),(5,.p 1 0),(6,.v (.slice pa P.length pc)),(7,.p 2001 0),(8,.v (.int .i64 (c:Int))),(9,.v (.int .i64 (P.length:Int)))]) (fun i=>[(1,⟨68,[.v (.bool false),.v (.slice none 0 0),.v (.bool false),.v (.slice none 0 0)]⟩),(2001,⟨68,qc i.f⟩)])
  (fun i u' m'=>i.X=(if p=P.length then X else H1 X p P.length)∧i.d=(if p=P.length then d else 0 - d)∧QAt u' i.rows i.X∧QP u' (qv i.f) i.d∧Bag m' (Xz (.slice pa P.length pc) P::oQ (.slice (some ⟨go,0,none⟩) n co) i.rows::i.rows.map Dz)) (fun _=>by kernel_rfl) (by kernel_rfl) ?tail ?way
 case way =>
  intro hjoin;by_cases hpr:p=P.length
  ·refine G.nF (p:Int) (P.length:Int) ?_;exact hjoin ⟨rows,X,f,d⟩ _ _ _ (by kernel_rfl) cv (PH.le_refl _) ⟨by rw [if_pos hpr],by rw [if_pos hpr],hQ3.mono l4,hf3.mono l4,hbag⟩
  ·refine G.nT (p:Int) (P.length:Int) ?_;obtain ⟨gr,cr,er,hrr,hrl2,hAr,hor,hcr⟩:=Vj hbag hQ3 hX hP hw0;refine G.a go 0 n co P.length 1 hP ?_;refine G.lM none go (0+P.length*1) _ hor ?_;refine G.a go 0 n co p 1 hpn ?_;refine G.lM none go (0+p*1) _ hop ?_;obtain ⟨m0,hx0,hput⟩:=hbag.focus 1 rfl;rw [Aiz] at hx0;refine G.a go 0 n co p 1 hpn ?_;refine G.storeA 1 m0 _ go n co p (.slice (some ⟨gr,0,none⟩) w cr) (by kernel_rfl) hx0 (by simp; omega) rfl rfl ?_;intro m5 hx5;refine G.a go 0 n co P.length 1 hP ?_;refine G.storeA 1 m0 _ go n co P.length (.slice (some ⟨gp,0,none⟩) w cp) (by kernel_rfl) hx5 (by simp; omega) rfl rfl ?_;intro m6 hx6;have hrows:((rows.map (·.1)).set p (Value.slice (some ⟨gr,0,none⟩) w cr)).set P.length (Value.slice (some ⟨gp,0,none⟩) w cp)=((rows.set p (Value.slice (some ⟨gr,0,none⟩) w cr,er)).set P.length (Value.slice (some ⟨gp,0,none⟩) w cp,ep)).map (·.1):=by rw [List.map_set,List.map_set]
   rw [hrows] at hx6;have hb6:=hput (oQ (.slice (some ⟨go,0,none⟩) n co) ((rows.set p (Value.slice (some ⟨gr,0,none⟩) w cr,er)).set P.length (Value.slice (some ⟨gp,0,none⟩) w cp,ep))) m6 hx6;have hperm:((rows.set p (Value.slice (some ⟨gr,0,none⟩) w cr,er)).set P.length (Value.slice (some ⟨gp,0,none⟩) w cp,ep)).Perm rows:=by
    obtain ⟨q1,q2⟩:=List.getElem?_eq_some_iff.1 hrp;obtain ⟨q3,q4⟩:=List.getElem?_eq_some_iff.1 hrr;rw [← q2,← q4];exact List.set_set_perm q1 q3
   have hb7:=Bag.perm (List.Perm.cons _ (List.Perm.cons _ (hperm.symm.map Dz))) hb6;have hQ1:=(hQ3.set (i:=p) (r:=(Value.slice (some ⟨gr,0,none⟩) w cr,er)) (by omega) hAr).set (i:=P.length) (r:=(Value.slice (some ⟨gp,0,none⟩) w cp,ep)) (by simp; omega) hAp;refine G.c call27 (Pq (z:=0) (by omega) (by omega)) ?_;intro v8 u8 l8 k8;rw [show ((0:Int):Rat)=0 from by decide] at k8;obtain ⟨f8,rfl⟩:=k8.opQ;refine G.c call32 (Wu k8 (hf3.mono (l4.trans l8)) (Xv.mono (by omega)) (hsd.mono (by omega))) ?_;intro v9 u9 l9 k9;obtain ⟨f9,rfl⟩:=k9.opQ;exact hjoin ⟨(rows.set p (Value.slice (some ⟨gr,0,none⟩) w cr,er)).set P.length (Value.slice (some ⟨gp,0,none⟩) w cp,ep),H1 X p P.length,f9,0 - d⟩ _ _ _ (by kernel_rfl) cv (l8.trans l9) ⟨by rw [if_neg hpr],by rw [if_neg hpr],hQ1.mono (l4.trans (l8.trans l9)),k9,hb7⟩
 rintro ⟨rows1,X1,f1',d1⟩ u5 m5 l5 ⟨hX1e,hd1e,hQ1,hf1,hbag1⟩;simp only at hX1e hd1e hQ1 hf1 hbag1;obtain ⟨hX1,hsz1,hX1r⟩:=Acp hX hpn hP hsz;have hsd1:Sz (if p=P.length then d else 0 - d) (E+2):=by
  split
  ·exact hsd.mono (by omega)
  ·exact (Ie Xv hsd).mono (by omega)
 have hstep:By (cols - c) c P X d=By (cols - (c+1)) (c+1) (P++[c]) (Hw P.length c n 0 (Si X1 P.length c)) (d1*gR (gM X1 P.length) c):=by
  rw [hK,By,if_pos (by rw [hX.1]; exact hP),hX.1,← hpv,if_neg (by omega),show cols - (c+1)=K by omega,hX1e,hd1e,hX1r];unfold Li;rw [hX.1]
 rw [← hX1e] at hX1 hsz1 hX1r;rw [← hd1e] at hsd1;rw [hstep] at hgo;have hFne:gR (gM X1 P.length) c≠0:=by rw [hX1r]; exact hz
 clear hstep hX1e hd1e hX1r hbag hQ hQ3 hf3 hf hsz hsd hpv hrp hpl hAp hop hcp hp5 hp6 hp7 hszp hz hK2;have hr1:rows1.length=n:=by rw [hQ1.1,hX1.1]
 obtain ⟨gr,cr,er,hrr,hrl2,hAr,hor,hcr⟩:=Vj hbag1 hQ1 hX1 hP hw0;obtain ⟨fr,h5,h6,h7⟩:=hcr c (by omega);obtain ⟨R,hR⟩:∃ R,R=gM X1 P.length:=⟨_,rfl⟩;have hRl:R.length=w:=by rw [hR]; exact hX1.2 _ hP
 have hRz:∀ j,j < w→Sz (gR R j) E:=fun j hj=>by rw [hR]; exact hsz1.at hX1 hP hj
 rw [← hR] at h6 hAr hgo;obtain ⟨F,hF⟩:∃ F,F=gR R c:=⟨_,rfl⟩;have hFz:Sz F E:=by rw [hF]; exact hRz c (by omega)
 rw [← hF] at h6 hgo;rw [← hR,← hF] at hFne;refine G.a go 0 n co P.length 1 hP ?_;refine G.lM none go (0+P.length*1) _ hor ?_;refine G.a gr 0 w cr c 4 (by omega) ?_;refine G.lM (some 4) gr (0+c*4) (qv fr) h7 ?_;refine G.c call34 (Eo hf1 h6 (hsd1.mono (by omega)) (hFz.mono (by omega))) ?_;intro v6 u6 l6 k6;obtain ⟨f6,rfl⟩:=k6.opQ;refine G.a go 0 n co P.length 1 hP ?_;refine G.lM none go (0+P.length*1) _ hor ?_;refine G.a gr 0 w cr c 4 (by omega) ?_;refine G.lM (some 4) gr (0+c*4) (qv fr) h7 ?_;refine G.a go 0 n co P.length 1 hP ?_;refine G.lM none go (0+P.length*1) _ hor ?_;have hdl:=Aio F R;have hF0:F≠0:=hFne;refine G.l (ι:=Nat×List Value) (fun i=>[(0,.v (.slice (some ⟨go,0,none⟩) n co)),(1,.v (.int .i64 (cols:Int))),(5,.p 1 0),(6,.v (.slice pa P.length pc)),(7,.p 2001 0),(8,.v (.int .i64 (c:Int))),(9,.v (.int .i64 (P.length:Int))),(11,.p 15007 0),(92,.v (.int .i64 (w:Int))),(93,.v (.int .i64 (i.1:Int)))]) (fun i=>[(1,⟨68,[.v (.bool false),.v (.slice none 0 0),.v (.bool false),.v (.slice none 0 0)]⟩),(2001,⟨68,qc f6⟩),(15007,⟨68,qc fr⟩)])
  (fun i u' m'=>i.1≤w∧AtP QP u' i.2 (Pi (H9 F R) R i.1)∧Bag m' (Xz (.slice pa P.length pc) P::oQ (.slice (some ⟨go,0,none⟩) n co) rows1::(rows1.set P.length ((Value.slice (some ⟨gr,0,none⟩) w cr),i.2)).map Dz)) (fun i=>w - i.1) (0,er)
  ⟨Nat.zero_le _,by rw [Vw]; exact hAr.mono (fun _ _ k=>k.mono l6),by rw [Ti hrr]; exact hbag1⟩ ?_
 rintro J3 ⟨k,es1⟩ hJ3 u7 m7 l7 ⟨hk,hAt,hbk⟩;simp only at hk hAt hbk hJ3;have hml:=Yr (k:=k) (hdl.trans rfl) (by omega);have hel:es1.length=w:=by rw [hAt.1,hml,hRl]
 have hget:(rows1.set P.length ((Value.slice (some ⟨gr,0,none⟩) w cr),es1))[P.length]?=some ((Value.slice (some ⟨gr,0,none⟩) w cr),es1):=by rw [List.getElem?_set]; simp [hr1,hP]
 by_cases hkw:k < w
 ·refine G.lT (k:Int) (w:Int) ?_;obtain ⟨e,e1,e2⟩:=hAt.at (j:=k) (by omega);obtain ⟨fe,rfl⟩:=e2.opQ;rw [← Mj (by omega),Ad4 hdl (by omega)] at e2;have ho:ElP m7 go (0+P.length*1) (Value.slice (some ⟨gr,0,none⟩) w cr):=hbk.el 1 (x:=oQ (.slice (some ⟨go,0,none⟩) n co) rows1) rfl rfl (by show (rows1.map (·.1))[P.length]?=_; rw [List.getElem?_map,hrr]; rfl);have he:ElP m7 gr (0+k*4) (qv fe):=hbk.el (P.length+2) (x:=Dz ((Value.slice (some ⟨gr,0,none⟩) w cr),es1)) (Hx hget) rfl e1;refine G.a go 0 n co P.length 1 hP ?_;refine G.lM none go (0+P.length*1) _ ho ?_;refine G.a go 0 n co P.length 1 hP ?_;refine G.lM none go (0+P.length*1) _ ho ?_;refine G.a gr 0 w cr k 4 hkw ?_;refine G.lM (some 4) gr (0+k*4) (qv fe) he ?_;refine G.c call183 (Alb e2 (h6.mono (l6.trans l7)) ((hRz k hkw).mono (by omega)) (hFz.mono (by omega)) hF0) ?_;intro v8 u8 l8 k8;obtain ⟨f8,rfl⟩:=k8.opQ;obtain ⟨m0,hx0,hput⟩:=hbk.focus (P.length+2) (Hx hget);rw [Lv] at hx0;refine G.a gr 0 w cr k 4 hkw ?_;refine G.storeA 4 m0 es1 gr w cr k (qv f8) (by kernel_rfl) hx0 (by omega) rfl rfl ?_;intro m9 hx9;have hb9:=hput (Dz ((Value.slice (some ⟨gr,0,none⟩) w cr),es1.set k (qv f8))) m9 hx9;rw [Aal,List.set_set] at hb9;refine G.i k ?_;refine G.b (hJ3 (k+1,es1.set k (qv f8)) _ _ _ cv (l7.trans l8) ⟨by dsimp only; omega,?_,hb9⟩ (by dsimp only; omega));dsimp only;rw [← Aas hdl (by omega),Ac2];exact (hAt.mono (fun _ _ k=>k.mono l8)).set k k8
 obtain rfl:k=w:=by omega
 refine G.lF (k:Int) (k:Int) ?_;rw [Zx (by omega) hRl] at hAt;clear hJ3 hml hkw hk h7 hor hcr h5;have hX2:Rec n k (X1.set P.length (H9 F R)):=Ib hX1 hP (by omega);have hX2e:Si X1 P.length c=X1.set P.length (H9 F R):=by unfold Si; rw [← hR,← hF]
 rw [hX2e] at hgo;have hQ2:=(hQ1.mono (l6.trans l7)).set (i:=P.length) (r:=((Value.slice (some ⟨gr,0,none⟩) k cr),es1)) (by omega) hAt;rw [← Ai2 (es':=es1) hrr] at hbk;have hrow2:∀ i,gM (X1.set P.length (H9 F R)) i=if P.length=i then H9 F R else gM X1 i:=fun i=>Ka (by rw [hX1.1]; exact hP)
 generalize rows1.set P.length ((Value.slice (some ⟨gr,0,none⟩) k cr),es1)=rows2 at *
 obtain ⟨X2,hX2n⟩:∃ X2,X2=X1.set P.length (H9 F R):=⟨_,rfl⟩;rw [← hX2n] at hX2 hQ2 hgo hrow2;have hdz:∀ j,j < k→Sz (gR (H9 F R) j) (2*E):=fun j hj=>by rw [Ac2]; exact (Acf (hRz j hj) hFz hF0).mono (by omega)
 have hsz2:∀ i j,i < n→j < k→i≠P.length→Sz (gR (gM X2 i) j) E:=fun i j hi hj hne=>by rw [hrow2,if_neg (fun e=>hne e.symm)]; exact hsz1.at hX1 hi hj
 have hrr2:gM X2 P.length=H9 F R:=by rw [hrow2,if_pos rfl]
 clear hX2n hX2e hQ1 hbag1 hrow2 hsz1 hX1 hrr hrl2 hAr hAt hget hel hr1;refine G.l (ι:=Nat×List (Value×List Value)×List (List Rat)) (fun i=>[(0,.v (.slice (some ⟨go,0,none⟩) n co)),(1,.v (.int .i64 (cols:Int))),(5,.p 1 0),(6,.v (.slice pa P.length pc)),(7,.p 2001 0),(8,.v (.int .i64 (c:Int))),(9,.v (.int .i64 (P.length:Int))),(113,.v (.int .i64 (n:Int))),(114,.v (.int .i64 (i.1:Int)))]) (fun i=>[(1,⟨68,[.v (.bool false),.v (.slice none 0 0),.v (.bool false),.v (.slice none 0 0)]⟩),(2001,⟨68,qc f6⟩)])
  (fun i u' m'=>i.1≤n∧Hw P.length c (n - i.1) i.1 i.2.2=Hw P.length c n 0 X2∧Rec n k i.2.2∧gM i.2.2 P.length=H9 F R∧(∀ x j,i.1≤x→x < n→j < k→x≠P.length→Sz (gR (gM i.2.2 x) j) E)∧SzM i.2.2 (4*E+2)∧QAt u' i.2.1 i.2.2∧Bag m' (Xz (.slice pa P.length pc) P::oQ (.slice (some ⟨go,0,none⟩) n co) i.2.1::i.2.1.map Dz))
  (fun i=>n - i.1) (0,rows2,X2) ⟨Nat.zero_le _,rfl,hX2,hrr2,fun x j _ hx hj hne=>hsz2 x j hx hj hne,Xt hX2 (fun x j hx hj=>?_),hQ2,hbk⟩ ?_
 ·by_cases e:x=P.length
  ·rw [e,hrr2]; exact (hdz j hj).mono (by omega)
  ·exact (hsz2 x j hx hj e).mono (by omega)
 clear hbk hQ2 hsz2 hrr2 hX2;rintro J4 ⟨i,rows3,X3⟩ hJ4 u8 m8 l8 ⟨hi,hcl,hX3,hrr3,hszi,hsz3,hQ3,hbag3⟩;simp only at hi hcl hX3 hrr3 hszi hsz3 hQ3 hbag3 hJ4;have hr3:rows3.length=n:=by rw [hQ3.1,hX3.1]
 by_cases hin:i < n
 ·refine G.lT (i:Int) (n:Int) ?_;obtain ⟨K3,hK3⟩:∃ K3,n - i=K3+1:=⟨n - i - 1,by omega⟩;by_cases hir:i=P.length
  ·refine G.eT (i:Int) (P.length:Int) ?_;refine G.i i ?_;refine G.b (hJ4 (i+1,rows3,X3) _ _ _ cv l8 ⟨by dsimp only; omega,?_,hX3,hrr3,fun x j h1=>hszi x j (by dsimp only at h1; omega),hsz3,hQ3,hbag3⟩ (by dsimp only; omega));dsimp only;rw [← hcl,hK3,Hw,if_pos (.inl hir),show n - (i+1)=K3 by omega]
  refine G.eF (i:Int) (P.length:Int) ?_;obtain ⟨gi,ci,ei,hri,hil,hAi,hoi,hci⟩:=Vj hbag3 hQ3 hX3 hin hw0;obtain ⟨fg,g5,g6,g7⟩:=hci c (by omega);have hgz:=hszi i c (Nat.le_refl _) hin (show c < k by omega) hir;refine G.a go 0 n co i 1 hin ?_;refine G.lM none go (0+i*1) _ hoi ?_;refine G.a gi 0 k ci c 4 (by omega) ?_;refine G.lM (some 4) gi (0+c*4) (qv fg) g7 ?_;refine G.c call141 (Lm g6 (Nat.le_trans hgz.1 (by omega))) ?_;rintro v9 u9 l9 rfl;rw [Apu];by_cases hgz0:gR (gM X3 i) c=0
  ·rw [decide_eq_true hgz0];refine G.i i ?_;refine G.b (hJ4 (i+1,rows3,X3) _ _ _ cv (l8.trans l9) ⟨by dsimp only; omega,?_,hX3,hrr3,fun x j h1=>hszi x j (by dsimp only at h1; omega),hsz3,hQ3.mono l9,hbag3⟩ (by dsimp only; omega));dsimp only;rw [← hcl,hK3,Hw,if_pos (.inr hgz0),show n - (i+1)=K3 by omega]
  rw [decide_eq_false hgz0];obtain ⟨S,hS⟩:∃ S,S=gM X3 i:=⟨_,rfl⟩;have hSl:S.length=k:=by rw [hS]; exact hX3.2 i hin
  have hSz:∀ j,j < k→Sz (gR S j) E:=fun j hj=>by rw [hS]; exact hszi i j (Nat.le_refl _) hin hj hir
  have hcl2:Hw P.length c (n - (i+1)) (i+1) (X3.set i (Mu (gR S c) (H9 F R) S))=Hw P.length c n 0 X2:=by
   rw [← hcl,hK3,Hw,if_neg (by simp [hir,hgz0]),show n - (i+1)=K3 by omega,hS,hrr3]
  rw [← hS] at g6 hgz hAi;generalize hg:gR S c=g at *
  have hsl:=Aiu g (H9 F R) S;refine G.a go 0 n co i 1 hin ?_;refine G.lM none go (0+i*1) _ hoi ?_;refine G.a gi 0 k ci c 4 (by omega) ?_;refine G.lM (some 4) gi (0+c*4) (qv fg) g7 ?_;refine G.a go 0 n co i 1 hin ?_;refine G.lM none go (0+i*1) _ hoi ?_;obtain ⟨gs,cs,er3,hrs,hsl3,hAs,hos,hcs⟩:=Vj hbag3 hQ3 hX3 hP hw0;refine G.l (ι:=Nat×List Value) (fun y=>[(0,.v (.slice (some ⟨go,0,none⟩) n co)),(1,.v (.int .i64 (cols:Int))),(5,.p 1 0),(6,.v (.slice pa P.length pc)),(7,.p 2001 0),(8,.v (.int .i64 (c:Int))),(9,.v (.int .i64 (P.length:Int))),(113,.v (.int .i64 (n:Int))),(114,.v (.int .i64 (i:Int))),(13,.v (.int .i64 (i:Int))),(14,.p 25007 0),(141,.v (.int .i64 (k:Int))),(142,.v (.int .i64 (y.1:Int)))]) (fun y=>[(1,⟨68,[.v (.bool false),.v (.slice none 0 0),.v (.bool false),.v (.slice none 0 0)]⟩),(2001,⟨68,qc f6⟩),(25007,⟨68,qc fg⟩)])
   (fun y u' m'=>y.1≤k∧AtP QP u' y.2 (Pi (Mu g (H9 F R) S) S y.1)∧Bag m' (Xz (.slice pa P.length pc) P::oQ (.slice (some ⟨go,0,none⟩) n co) rows3::(rows3.set i ((Value.slice (some ⟨gi,0,none⟩) k ci),y.2)).map Dz)) (fun y=>k - y.1) (0,ei)
   ⟨Nat.zero_le _,by rw [Vw]; exact hAi.mono (fun _ _ k=>k.mono l9),by rw [Ti hri]; exact hbag3⟩ ?_
  rintro J5 ⟨y,es2⟩ hJ5 u10 m10 l10 ⟨hy,hAt,hbk⟩;simp only at hy hAt hbk hJ5;have hml:=Yr (k:=y) hsl (by omega);have hel:es2.length=k:=by rw [hAt.1,hml,hSl]
  have hget:(rows3.set i ((Value.slice (some ⟨gi,0,none⟩) k ci),es2))[i]?=some ((Value.slice (some ⟨gi,0,none⟩) k ci),es2):=by rw [List.getElem?_set]; simp [hr3,hin]
  have hgets:(rows3.set i ((Value.slice (some ⟨gi,0,none⟩) k ci),es2))[P.length]?=some (Value.slice (some ⟨gs,0,none⟩) k cs,er3):=by rw [List.getElem?_set,if_neg hir]; exact hrs
  by_cases hyk:y < k
  ·refine G.lT (y:Int) (k:Int) ?_;obtain ⟨e,e1,e2⟩:=hAt.at (j:=y) (by omega);obtain ⟨fe,rfl⟩:=e2.opQ;rw [← Mj (by omega),Ad4 hsl (by omega)] at e2;have ho:ElP m10 go (0+i*1) (Value.slice (some ⟨gi,0,none⟩) k ci):=hbk.el 1 (x:=oQ (.slice (some ⟨go,0,none⟩) n co) rows3) rfl rfl (by show (rows3.map (·.1))[i]?=_; rw [List.getElem?_map,hri]; rfl);have hop:ElP m10 go (0+P.length*1) (Value.slice (some ⟨gs,0,none⟩) k cs):=hbk.el 1 (x:=oQ (.slice (some ⟨go,0,none⟩) n co) rows3) rfl rfl (by show (rows3.map (·.1))[P.length]?=_; rw [List.getElem?_map,hrs]; rfl);have he:ElP m10 gi (0+y*4) (qv fe):=hbk.el (i+2) (x:=Dz ((Value.slice (some ⟨gi,0,none⟩) k ci),es2)) (Hx hget) rfl e1;obtain ⟨fs,s5,s6,_⟩:=hcs y hyk;rw [hrr3] at s6;have hes:ElP m10 gs (0+y*4) (qv fs):=hbk.el (P.length+2) (x:=Dz (Value.slice (some ⟨gs,0,none⟩) k cs,er3)) (Hx hgets) rfl s5;refine G.a go 0 n co i 1 hin ?_;refine G.lM none go (0+i*1) _ ho ?_;refine G.a go 0 n co i 1 hin ?_;refine G.lM none go (0+i*1) _ ho ?_;refine G.a gi 0 k ci y 4 hyk ?_;refine G.lM (some 4) gi (0+y*4) (qv fe) he ?_;refine G.a go 0 n co P.length 1 hP ?_;refine G.lM none go (0+P.length*1) _ hop ?_;refine G.a gs 0 k cs y 4 hyk ?_;refine G.lM (some 4) gs (0+y*4) (qv fs) hes ?_;refine G.c call34 (Eo (g6.mono (l9.trans l10)) (s6.mono (l9.trans l10)) (hgz.mono (by omega)) ((hdz y hyk).mono (by omega))) ?_;intro v11 u11 l11 k11;obtain ⟨f11,rfl⟩:=k11.opQ;have hmz:=In hgz (hdz y hyk);refine G.c call32 (Wu (e2.mono l11) k11 ((hSz y hyk).mono (by omega)) (hmz.mono (by omega))) ?_;intro v12 u12 l12 k12;obtain ⟨f12,rfl⟩:=k12.opQ;obtain ⟨m0,hx0,hput⟩:=hbk.focus (i+2) (Hx hget);rw [Lv] at hx0;refine G.a gi 0 k ci y 4 hyk ?_;refine G.storeA 4 m0 es2 gi k ci y (qv f12) (by kernel_rfl) hx0 (by omega) rfl rfl ?_;intro m13 hx13;have hb13:=hput (Dz ((Value.slice (some ⟨gi,0,none⟩) k ci),es2.set y (qv f12))) m13 hx13;rw [Aal,List.set_set] at hb13;refine G.i y ?_;refine G.b (hJ5 (y+1,es2.set y (qv f12)) _ _ _ cv ((l10.trans l11).trans l12) ⟨by dsimp only; omega,?_,hb13⟩ (by dsimp only; omega));dsimp only;rw [← Aas hsl (by omega),Acv _ _ _ (by omega)];exact (hAt.mono (fun _ _ k=>k.mono (l11.trans l12))).set y k12
  obtain rfl:y=k:=by omega
  refine G.lF (y:Int) (y:Int) ?_;rw [Zx (by omega) hSl] at hAt;rw [← Ai2 (es':=es2) hri] at hbk;refine G.i i ?_;have hX4:Rec n y (X3.set i (Mu g (H9 F R) S)):=Ib hX3 hin (by omega);have hrow4:∀ x,gM (X3.set i (Mu g (H9 F R) S)) x=if i=x then Mu g (H9 F R) S else gM X3 x:=fun x=>Ka (by rw [hX3.1]; exact hin)
  refine G.b (hJ4 (i+1,rows3.set i ((Value.slice (some ⟨gi,0,none⟩) y ci),es2),X3.set i (Mu g (H9 F R) S)) _ _ _ cv ((l8.trans l9).trans l10) ⟨by dsimp only; omega,hcl2,hX4,?_,?_,?_,?_,hbk⟩ (by dsimp only; omega))
  ·dsimp only; rw [hrow4,if_neg hir]; exact hrr3
  ·intro x j h1 h2 h3 h4;dsimp only at h1 ⊢;rw [hrow4,if_neg (by omega)]; exact hszi x j (by omega) h2 h3 h4
  ·refine Xt hX4 (fun x j hx hj=>?_);rw [hrow4];split
   ·rw [Acv _ _ _ (by omega)];exact (Ie (hSz j hj) (In hgz (hdz j hj))).mono (by omega)
   ·exact hsz3.at hX3 hx hj
  ·exact (hQ3.mono (l9.trans l10)).set (i:=i) (r:=((Value.slice (some ⟨gi,0,none⟩) y ci),es2)) (by omega) hAt
 obtain rfl:i=n:=by omega
 refine G.lF (i:Int) (i:Int) ?_;rw [Nat.sub_self,Hw] at hcl;rw [← hcl] at hgo;refine G.B 3 1 8 (.int .i64 0) [.int .i64 (c:Int)] (Ax [c]) ?_;intro g9 u9 l9 e9;obtain ⟨m0,hx0,hbr⟩:=hbag3;rw [Aky] at hx0;have hil:(Ag P).length=P.length:=by simp [Ag]
 refine G.append 3 1 8 (.int .i64 0) m0 (Ag P) [.int .i64 (c:Int)] (.slice pa P.length pc) g9 0 1 1 (by kernel_rfl) rfl rfl (by omega) hx0 e9 (Ax [c]) rfl (by omega) (by omega) (by omega) ?_;intro v10 m10 hx10;rw [show Ag P++[Value.int .i64 (c:Int)]=Ag (P++[c]) by simp [Ag]] at hx10;obtain ⟨a10,c10,rfl⟩:=hx10.shape;have el:(Ag (P++[c])).length=(P++[c]).length:=by simp [Ag]
 rw [el] at hx10 ⊢;refine G.i c ?_;refine G.b (hJ ⟨c+1,P++[c],a10,c10,rows3,X3,f6,d1*F⟩ _ _ _ cv ((((((l2.trans l3).trans l4).trans l5).trans l6).trans l7).trans (l8.trans l9)) ⟨by dsimp only; omega,by simp; omega,hgo,hX3,?_,?_,k6.mono ((l7.trans l8).trans l9),hQ3.mono l9,m0,hx10,hbr⟩ (by dsimp only; omega))
 ·dsimp only; rw [hE1]; exact hsz3
 ·dsimp only; rw [hE1]; exact (In hsd1 hFz).mono (by omega)
end
section
open Go.RowKit Go.MapKept
variable {P:List Par}{es:List Value}{pv v:Value}{qs:List Rat}{u:PH}
theorem Aj5 (h:Ab u pv 2 (P.map An))(hs:Ef A8 P)(hl:P.length≤1000000):Fn0 prog 91 [pv] u fun r _=>r=.bool true:=by
 obtain ⟨a,c,rfl⟩:=h.opn;rw [List.length_map] at h ⊢;refine Fn0.o func91 ?_;refine G.l (ι:=Nat) (fun i=>[(0,.v (.slice a P.length c)),(3,.v (.int .i64 (i:Int)))]) (fun _=>[])
  (fun i u' m'=>1≤i∧m'=PH.mt) (fun i=>P.length - i) 1 ⟨by omega,rfl⟩ ?_
 rintro J i hJ u2 m2 l2 ⟨hi,rfl⟩;by_cases hlt:i < P.length
 ·refine G.lT (i:Int) (P.length:Int) ?_;have hQi:P[i]?=some P[i]:=List.getElem?_eq_getElem hlt;have hQj:P[i - 1]?=some (P[i - 1]'(by omega)):=List.getElem?_eq_getElem (by omega);have hcm:A8 (P[i - 1]'(by omega)) P[i] < 0:=List.pairwise_iff_getElem.1 hs (i - 1) i (by omega) hlt (by omega);obtain ⟨ba,oa,e0,ea⟩:=Ab.at' (h.mono l2) (j:=i) (e:=An P[i]) (by simp [hQi]);obtain ⟨ba',oa',e0',eb⟩:=Ab.at' (h.mono l2) (j:=i - 1) (e:=An (P[i - 1]'(by omega))) (by simp [hQj]);rw [e0] at e0';cases e0';subst e0;refine G.s (i:Int) 1 ((i - 1:Nat):Int) ?_;refine G.a ba oa P.length c (i - 1) 2 (by omega) ?_;refine G.lU (some 2) ba (oa+(i - 1)*2) (An (P[i - 1]'(by omega))) eb ?_;refine G.a ba oa P.length c i 2 hlt ?_;refine G.lU (some 2) ba (oa+i*2) (An P[i]) ea ?_;refine G.c call93 (Dq _ _ true (decide_eq_true hcm)) ?_;rintro v3 u3 l3 rfl;refine G.i i ?_;exact G.b (hJ (i+1) _ _ _ cv (l2.trans l3) ⟨by omega,rfl⟩ (by omega))
 ·refine G.lF (i:Int) (P.length:Int) ?_;exact G.r (.bool true) ⟨rfl,rfl⟩
def Ui (qs:List Rat):List (List Rat):=qs.map fun q=>[q]
theorem Kr.snoc1 {rs:List (List (List UInt8))}{a:Option Addr}{c:Nat}{r:List (List UInt8)}(h:Kr u es rs)(hr:Fe u (.slice a r.length c) r):Kr u (es++[.slice a r.length c]) (rs++[r]):=by
 refine ⟨by simp [h.1],fun j r' hj=>?_⟩;by_cases hjl:j < rs.length
 ·rw [List.getElem?_append_left hjl] at hj;obtain ⟨a',c',e1,e2⟩:=h.2 j r' hj;exact ⟨a',c',by rw [List.getElem?_append_left (by rw [h.1]; exact hjl)]; exact e1,e2⟩
 ·rw [List.getElem?_append_right (by omega)] at hj;have hz:j - rs.length=0:=by
   rcases Nat.eq_zero_or_pos (j - rs.length) with h0 | h0
   ·exact h0
   ·rw [List.getElem?_eq_none (by simp; omega)] at hj; cases hj
  rw [hz] at hj;simp at hj; subst hj;exact ⟨a,c,by rw [List.getElem?_append_right (by rw [h.1]; omega),h.1,hz]; rfl,hr⟩
theorem Abn (h:Fe u v (qs.map Af))(hl:qs.length≤1000):Fn0 prog 109 [v] u fun r u'=>N7 u' r (Jx (Ui qs)):=by
 obtain ⟨a,c,rfl⟩:=Ab.opn h;rw [J7,List.length_map] at h ⊢;refine Fn0.o func109 ?_;refine G.l (ι:=Nat×(Option Addr×Nat)×List Value) (fun i=>[(0,.v (.slice a qs.length c)),(3,.v (.slice i.2.1.1 i.2.2.length i.2.1.2)),(6,.v (.slice a qs.length c)),(7,.v (.int .i64 (qs.length:Int))),(8,.v (.int .i64 (i.1:Int)))]) (fun _=>[])
  (fun i u' m'=>i.1≤qs.length∧Kr u' i.2.2 (Jx (Ui (qs.take i.1)))∧Ae PH.mt m' (.slice i.2.1.1 i.2.2.length i.2.1.2) 84 1 i.2.2) (fun i=>qs.length - i.1) (0,(none,0),[])
  ⟨by omega,⟨rfl,fun j r hj=>by simp [Jx,Ui] at hj⟩,Ae.nil _ _ _⟩ ?_
 rintro J ⟨i,⟨pa,pc⟩,es⟩ hJ u1 m1 l1 ⟨hi,hR,hA⟩;simp only at hi hR hA hJ;have hel:es.length=i:=by rw [hR.1]; simp [Jx,Ui]; omega
 by_cases hlt:i < qs.length
 ·refine G.lT (i:Int) (qs.length:Int) ?_;obtain ⟨q,hq⟩:∃ q,qs[i]?=some q:=⟨_,List.getElem?_eq_getElem hlt⟩;have htk:qs.take (i+1)=qs.take i++[q]:=by rw [List.take_add_one,hq]; rfl
  obtain ⟨b,o,rfl,e⟩:=Ab.at' (Ab.mono h l1) (j:=i) (e:=.string (mkS (Af q))) (by simp [Cs,hq]);refine G.a b o qs.length c i 1 hlt ?_;refine G.lU none b (o+i*1) (.string (mkS (Af q))) e ?_;refine G.B 33 1 16 (.string (mkS [])) [.string (mkS (Af q))] (Cu [Af q]) ?_;intro g2 u2 l2 e2;have hrow:Fe u2 (.slice (some ⟨g2,0,none⟩) 1 1) [Af q]:=⟨_,1,rfl,Nat.le_refl _,fun j x hj=>⟨g2,0,rfl,e2 j x hj⟩⟩;refine G.B 84 1 24 (.slice none 0 0) [.slice (some ⟨g2,0,none⟩) 1 1] (Gt _ _ _) ?_;intro g3 u3 l3 e3;refine G.append 84 1 24 (.slice none 0 0) PH.mt es [.slice (some ⟨g2,0,none⟩) 1 1] _ g3 0 1 1 (by kernel_rfl) rfl rfl (by omega) hA e3 (Gt _ _ _) rfl (by omega) (by omega) (by omega) ?_;intro v4 m4 hA4;obtain ⟨a4,c4,rfl⟩:=hA4.shape;refine G.i i ?_;refine G.b (hJ (i+1,(a4,c4),es++[.slice (some ⟨g2,0,none⟩) 1 1]) _ _ _ cv ((l1.trans l2).trans l3) ⟨by dsimp only; omega,?_,hA4⟩ (by dsimp only; omega));have e5:Jx (Ui (qs.take (i+1)))=Jx (Ui (qs.take i))++[[Af q]]:=by rw [htk]; simp [Jx,Ui]
  dsimp only;rw [e5];exact (hR.mono (l2.trans l3)).snoc1 (r:=[Af q]) (Ab.mono hrow l3)
 ·obtain rfl:i=qs.length:=by omega
  refine G.lF (qs.length:Int) (qs.length:Int) ?_;rw [List.take_length] at hR;refine G.give _ _ _ (by kernel_rfl) hA (fun g=>.inl rfl) ?_;intro u6 l6 hF;exact G.r (.slice pa es.length pc) ⟨rfl,es,hF,hR.mono l6⟩
theorem Ajj (h:Ab u v 4 es)(hq:AtP QP u es qs)(hT:∀ q∈qs,Tx q)(hl:qs.length≤1000):Fn0 prog 112 [v] u fun r u'=>∃ lv,r=.tuple #[lv,.int .i64 0]∧Fe u' lv (qs.map Af):=by
 obtain ⟨a,c,rfl⟩:=Ab.opn h;have hel:=hq.1;rw [hel] at h ⊢;refine Fn0.o func112 ?_;refine G.l (ι:=Nat×(Option Addr×Nat)) (fun i=>[(4,.v (.slice i.2.1 i.1 i.2.2)),(9,.v (.slice a qs.length c)),(10,.v (.int .i64 (qs.length:Int))),(11,.v (.int .i64 (i.1:Int)))]) (fun _=>[])
  (fun i u' m'=>i.1≤qs.length∧Ae PH.mt m' (.slice i.2.1 i.1 i.2.2) 33 1 (Cs ((qs.take i.1).map Af))) (fun i=>qs.length - i.1) (0,none,0) ⟨by omega,Ae.nil _ _ _⟩ ?_
 rintro J ⟨i,pa,pc⟩ hJ u1 m1 l1 ⟨hi,hA⟩;simp only at hi hA hJ;by_cases hlt:i < qs.length
 ·refine G.lT (i:Int) (qs.length:Int) ?_;obtain ⟨q,hqi⟩:∃ q,qs[i]?=some q:=⟨_,List.getElem?_eq_getElem hlt⟩;have htk:qs.take (i+1)=qs.take i++[q]:=by rw [List.take_add_one,hqi]; rfl
  obtain ⟨x,hx,hxq⟩:=hq.2 i q hqi;obtain ⟨f,rfl⟩:=hxq.opQ;obtain ⟨b,o,rfl,e⟩:=Ab.at' (Ab.mono h l1) (j:=i) (e:=qv f) hx;refine G.a b o qs.length c i 4 hlt ?_;refine G.lU (some 4) b (o+i*4) (qv f) e ?_;refine G.c call35 (Kw (hxq.mono l1) (hT q (List.mem_of_getElem? hqi))) ?_;rintro v2 u2 l2 rfl;refine G.nF 0 0 ?_;refine G.B 33 1 16 (.string (mkS [])) [.string (mkS (Af q))] (Cu [Af q]) ?_;intro g3 u3 l3 e3;refine G.append 33 1 16 (.string (mkS [])) PH.mt (Cs ((qs.take i).map Af)) [.string (mkS (Af q))] (.slice pa i pc) g3 0 1 1 (by kernel_rfl) rfl rfl (by omega) hA e3 (Cu [Af q]) rfl (by omega) (by simp [Cs]; omega) (by simp [Cs]; omega) ?_;intro v4 m4 hA4;have e5:Cs ((qs.take i).map Af)++[.string (mkS (Af q))]=Cs ((qs.take (i+1)).map Af):=by rw [htk]; simp [Cs]
  rw [e5] at hA4;obtain ⟨a4,c4,rfl⟩:=hA4.shape;have el:(Cs ((qs.take (i+1)).map Af)).length=i+1:=by simp [Cs]; omega
  rw [el] at hA4 ⊢;refine G.i i ?_;exact G.b (hJ (i+1,a4,c4) _ _ _ cv ((l1.trans l2).trans l3) ⟨by dsimp only; omega,hA4⟩ (by dsimp only; omega))
 ·obtain rfl:i=qs.length:=by omega
  refine G.lF (qs.length:Int) (qs.length:Int) ?_;rw [List.take_length] at hA;refine G.give _ _ _ (by kernel_rfl) hA (fun g=>.inl rfl) ?_;intro u6 l6 hF;exact G.r (.tuple #[.slice pa qs.length pc,.int .i64 0]) ⟨rfl,_,rfl,hF⟩
theorem Abl {pv lv:Value}{m0:Rat}(hP:Ab u pv 2 (P.map An))(hL:Fe u lv ((m0::qs).map Af))(hs:Ef A8 P)(hlen:qs.length=P.length)(hl:P.length≤1000)(h0:Tx m0)(hT:∀ q∈qs,Tx q) :
  Fn0 prog 49 [pv,lv] u fun r u'=>∃ mv,r=.tuple #[mv,.int .i64 0]∧Jy u' mv m0 (P.zip qs):=by
 have hasc:=Aj5 hP hs (by omega);obtain ⟨a,c,rfl⟩:=hP.opn;obtain ⟨la,lc,rfl⟩:=Ab.opn hL;have hn:(Cs ((m0::qs).map Af)).length=P.length+1:=by rw [J7,List.length_map,List.length_cons,hlen]
 rw [List.length_map] at hP hasc ⊢;rw [hn] at hL ⊢;have hTx:∀ i q,(m0::qs)[i]?=some q→Tx q:=fun i q hq=>by
  rcases List.mem_cons.1 (List.mem_of_getElem? hq) with rfl | h
  ·exact h0
  ·exact hT q h
 refine Fn0.o func49 ?_;refine G.c call91 hasc ?_;rintro v1 u1 l1 rfl;refine G.p (P.length:Int) 1 ((P.length+1:Nat):Int) ?_;refine G.nF ((P.length+1:Nat):Int) ((P.length+1:Nat):Int) ?_;refine G.l (ι:=Nat) (fun i=>[(0,.v (.slice a P.length c)),(1,.v (.slice la (P.length+1) lc)),(4,.p 0 0),(22,.v (.slice la (P.length+1) lc)),(23,.v (.int .i64 ((P.length+1:Nat):Int))),(24,.v (.int .i64 (i:Int)))]) (fun _=>[(0,⟨42,[.v (.string (mkS [])),.v (.slice none 0 0)]⟩)])
  (fun i u' m'=>i≤P.length+1∧m'=PH.mt) (fun i=>P.length+1 - i) 0 ⟨by omega,rfl⟩ ?_
 rintro J i hJ u2 m2 l2 ⟨hi,rfl⟩;by_cases hlt:i < P.length+1
 ·refine G.lT (i:Int) ((P.length+1:Nat):Int) ?_;obtain ⟨q,hqi⟩:∃ q,(m0::qs)[i]?=some q:=⟨_,List.getElem?_eq_getElem (by simp; omega)⟩;obtain ⟨b,o,rfl,e⟩:=Ab.at' (Ab.mono hL (l1.trans l2)) (j:=i) (e:=.string (mkS (Af q))) (by unfold Cs; rw [List.getElem?_map,List.getElem?_map,hqi]; rfl);refine G.a b o (P.length+1) lc i 1 hlt ?_;refine G.lU none b (o+i*1) (.string (mkS (Af q))) e ?_;refine G.c call30 (Cp (hTx i q hqi)) ?_;rintro v3 u3 l3 rfl;refine G.i i ?_;exact G.b (hJ (i+1) _ _ _ cv (l2.trans l3) ⟨by omega,rfl⟩ (by omega))
 obtain rfl:i=P.length+1:=by omega
 refine G.lF ((P.length+1:Nat):Int) ((P.length+1:Nat):Int) ?_;clear hJ;have le2:=l1.trans l2;obtain ⟨b,o,rfl,e⟩:=Ab.at' (Ab.mono hL le2) (j:=0) (e:=.string (mkS (Af m0))) rfl;refine G.a b o (P.length+1) lc 0 1 (by omega) ?_;refine G.lU none b (o+0*1) (.string (mkS (Af m0))) e ?_;refine G.l (ι:=Nat×(Option Addr×Nat)) (fun i=>[(1,.v (.slice (some ⟨b,o,none⟩) (P.length+1) lc)),(4,.p 0 0),(8,.p 11004 0),(37,.v (.slice a P.length c)),(38,.v (.int .i64 (P.length:Int))),(39,.v (.int .i64 (i.1:Int)))]) (fun i=>[(0,⟨42,[.v (.string (mkS [])),.v (.slice none 0 0)]⟩),(11004,⟨42,[.v (.string (mkS (Af m0))),.v (.slice i.2.1 i.1 i.2.2)]⟩)])
  (fun i u' m'=>i.1≤P.length∧Ae PH.mt m' (.slice i.2.1 i.1 i.2.2) 81 3 (((P.zip qs).take i.1).map A5)) (fun i=>P.length - i.1) (0,none,0) ⟨by omega,Ae.nil _ _ _⟩ ?_
 rintro J ⟨i,pa,pc⟩ hJ u3 m3 l3 ⟨hi3,hA⟩;simp only at hi3 hA hJ;have le3:=le2.trans l3;have hzl:(P.zip qs).length=P.length:=by rw [List.length_zip]; omega
 by_cases hlt:i < P.length
 ·refine G.lT (i:Int) (P.length:Int) ?_;obtain ⟨p,hpi⟩:∃ p,P[i]?=some p:=⟨_,List.getElem?_eq_getElem hlt⟩;obtain ⟨q,hqi⟩:∃ q,qs[i]?=some q:=⟨_,List.getElem?_eq_getElem (by omega)⟩;have hz:(P.zip qs)[i]?=some (p,q):=by rw [List.getElem?_zip_eq_some]; exact ⟨hpi,hqi⟩
  have htk:(P.zip qs).take (i+1)=(P.zip qs).take i++[(p,q)]:=by rw [List.take_add_one,hz]; rfl
  obtain ⟨bp,op,rfl,ep⟩:=Ab.at' (hP.mono le3) (j:=i) (e:=An p) (by simp [hpi]);obtain ⟨p1,p2⟩:=p;refine G.a bp op P.length c i 2 hlt ?_;refine G.lU (some 2) bp (op+i*2) (.agg #[.int .i64 p1,.string (mkS p2)]) ep ?_;obtain ⟨b2,o2,e0,e2⟩:=Ab.at' (Ab.mono hL le3) (j:=i+1) (e:=.string (mkS (Af q))) (by unfold Cs; rw [List.getElem?_map,List.getElem?_map,List.getElem?_cons_succ,hqi]; rfl);cases e0;refine G.i i ?_;refine G.a b o (P.length+1) lc (i+1) 1 (by omega) ?_;refine G.lU none b (o+(i+1)*1) (.string (mkS (Af q))) e2 ?_;refine G.B 81 3 40 (.agg #[.int .i64 0,.string (mkS []),.string (mkS [])]) [A5 ((p1,p2),q)] (Ot _) ?_;intro g4 u4 l4 e4;refine G.k 81 3 40 (.agg #[.int .i64 0,.string (mkS []),.string (mkS [])]) PH.mt (((P.zip qs).take i).map A5) [A5 ((p1,p2),q)] (.slice pa i pc) g4 0 1 1 hA e4 (Ot _) ?_;intro v5 m5 hA5;have e6:((P.zip qs).take i).map A5++[A5 ((p1,p2),q)]=((P.zip qs).take (i+1)).map A5:=by rw [htk]; simp
  rw [e6] at hA5;obtain ⟨a5,c5,rfl⟩:=hA5.shape;have el:(((P.zip qs).take (i+1)).map A5).length=i+1:=by rw [List.length_map,List.length_take]; omega
  rw [el] at hA5 ⊢;refine G.i i ?_;exact G.b (hJ (i+1,a5,c5) _ _ _ cv (l3.trans l4) ⟨by dsimp only; omega,hA5⟩ (by dsimp only; omega))
 ·obtain rfl:i=P.length:=by omega
  refine G.lF (P.length:Int) (P.length:Int) ?_;rw [List.take_of_length_le (by omega)] at hA;refine G.give _ _ _ (by kernel_rfl) hA (fun g=>.inl rfl) ?_;intro u6 l6 hF;exact G.r (.tuple #[.agg #[.string (mkS (Af m0)),.slice pa P.length pc],.int .i64 0]) ⟨rfl,_,rfl,⟨pa,pc,by rw [hzl],by rw [hzl]; exact hF⟩⟩
end
section
open Go.RowKit Go.MapKept
variable {P:List Par}{m m0:PH}{v:Value}
def E8 (r:Value×List Value):Arr:=⟨r.1,33,1,r.2⟩
def oT (v:Value)(rows:List (Value×List Value)):Arr:=⟨v,84,1,rows.map (·.1)⟩
theorem Mb {r:Value×List Value}:(E8 r).At m0 m=Ae m0 m r.1 33 1 r.2:=rfl
theorem Amu {rows:List (Value×List Value)}:(oT v rows).At m0 m=Ae m0 m v 84 1 (rows.map (·.1)):=rfl
def txV (l:List Rat):List Value:=l.map fun q=>.string (mkS (Af q))
theorem Fu (l:List Rat):(txV l).length=l.length:=by simp [txV]
theorem Sl (l:List Rat)(q:Rat):txV l++[.string (mkS (Af q))]=txV (l++[q]):=by simp [txV]
theorem Jp (q:Rat):A3 1 [.string (mkS (Af q))]:=Cu [Af q]
theorem Zk (l:List Rat):txV l=Cs (l.map Af):=by simp [txV,Cs]
def M8 (C:CF)(P:List Par):List (List Rat):=(Ak P).map fun e=>(Ak P).map (As C e)
theorem Hg {i:Nat}:(Ak P).take (i+1)=none::(P.take i).map some:=by unfold Ak; rw [List.take_succ_cons,List.map_take]
theorem Aaf {u:PH}{v cv:Value}{T:List (List UInt8×Nat)}{R:List Bk}{F:List Ao}{lab:Int}{C:CF}{K k:Nat}(h:F8 u v cv T R F lab C K k P) :
  Ai prog 105 [v,cv] u PH.mt fun r u' m'=>∃ (pa:Option Addr) (pc:Nat) (xa:Option Addr) (xc:Nat) (ra:Option Addr) (rc:Nat) (rows:List (Value×List Value)),
   r=.tuple #[.agg #[.slice pa P.length pc,.slice xa (P.length+1) xc,.slice ra (P.length+1) rc],.int .i64 0]∧Ab u' (.slice pa P.length pc) 2 (P.map An)∧rows.map (·.2)=(M8 C P).map txV ∧
   Bag m' (E8 (.slice ra (P.length+1) rc,txV ((Ak P).map (Ay C)))::oT (.slice xa (P.length+1) xc) rows::rows.map E8):=by
 have hprm:=Sa h.sch h.ok h.cof h.sC h.vC h.K h.bel;have hP24:=h.p24;have hK:=h.K;have hlab:=h.lab0;have hS:=fun (u':PH) (l:PH.le u u') (p:Par)=>Aki p (h.cof.mono l) (by omega);have hQ:=fun (u':PH) (l:PH.le u u') (p q:Par)=>Ya p q (h.cof.mono l) (by omega);have hEl:=Bo P;obtain ⟨xa,xc,xb,xd,xe,xf,rfl,_⟩:=id h.sch;obtain ⟨a1,n1,c1,a2,n2,c2,rfl⟩:=id h.cof.opn;refine Ai.o func105 ?_;refine G.c call24 hprm ?_;intro v1 u1 l1 hp;obtain ⟨ps,L,rfl,hL,_,hPL⟩:=hp.resolve_left fun ⟨_,L,h24,hPL⟩=>by rw [hPL.eq h.prm] at h24; omega
 rw [hPL.eq h.prm] at hL;obtain ⟨pa,pc,rfl⟩:=hL.opn;rw [List.length_map] at hL ⊢;refine G.nF 0 0 ?_;refine G.lF lab 0 ?_;refine G.c call181 (hS u1 l1 Aq) ?_;rintro v2 u2 l2 rfl;refine G.buildM 33 1 16 (.string (mkS [])) [.string (mkS (Af (C.s Aq)))] (by kernel_rfl) (Jp _) rfl (by omega) (by simp) (by simp) ?_;intro g3 m3 hA3;refine G.buildM 33 1 16 (.string (mkS [])) [.string (mkS (Af C.c))] (by kernel_rfl) (Jp _) rfl (by omega) (by simp) (by simp) ?_;intro g4 m4 hA4;refine G.l (ι:=Nat×(Option Addr×Nat)×(Option Addr×Nat)) (fun i=>[(3,.p 1 0),(4,.p 2 0),(6,.v (.slice pa P.length pc)),(8,.p 6001 0),(9,.p 7006 0),(10,.v (.slice i.2.1.1 (i.1+1) i.2.1.2)),(42,.v (.slice pa P.length pc)),(43,.v (.int .i64 (P.length:Int))),(44,.v (.int .i64 (i.1:Int)))])
  (fun i=>[(1,⟨37,[.v (.string (mkS (Af C.c))),.v (.slice a1 n1 c1),.v (.slice a2 n2 c2)]⟩),(2,⟨103,[.v (.slice none 0 0),.v (.slice none 0 0),.v (.slice none 0 0)]⟩),(6001,⟨79,[.v (.int .i64 (-1)),.v (.string (mkS []))]⟩),
   (7006,⟨103,[.v (.slice pa P.length pc),.v (.slice none 0 0),.v (.slice i.2.2.1 (i.1+1) i.2.2.2)]⟩)])
  (fun i u' m'=>i.1≤P.length∧Bag m' [E8 (.slice i.2.1.1 (i.1+1) i.2.1.2,txV (((Ak P).take (i.1+1)).map (As C none))),E8 (.slice i.2.2.1 (i.1+1) i.2.2.2,txV (((Ak P).take (i.1+1)).map (Ay C)))]) (fun i=>P.length - i.1) (0,(some ⟨g4,0,none⟩,1),(some ⟨g3,0,none⟩,1))
  ⟨by omega,m3,hA4,PH.mt,hA3,trivial⟩ ?_
 rintro J ⟨i,⟨fa,fc⟩,⟨ra,rc⟩⟩ hJ u5 m5 l5 ⟨hi,hbag⟩;simp only at hi hbag hJ;have le5:=(l1.trans l2).trans l5;by_cases hlt:i < P.length
 ·refine G.lT (i:Int) (P.length:Int) ?_;obtain ⟨p,hpi⟩:∃ p,P[i]?=some p:=⟨_,List.getElem?_eq_getElem hlt⟩;have htk:(Ak P).take (i+1+1)=(Ak P).take (i+1)++[some p]:=by rw [Hg,Hg,List.take_add_one,hpi]; simp
  obtain ⟨bp,op,rfl,ep⟩:=Ab.at' (hL.mono (l2.trans l5)) (j:=i) (e:=An p) (by simp [hpi]);refine G.a bp op P.length pc i 2 hlt ?_;refine G.lU (some 2) bp (op+i*2) (.agg #[.int .i64 p.1,.string (mkS p.2)]) ep ?_;refine G.c call181 (hS u5 le5 p) ?_;rintro v6 u6 l6 rfl;refine G.B 33 1 16 (.string (mkS [])) [.string (mkS (Af (C.s p)))] (Jp _) ?_;intro g7 u7 l7 e7;obtain ⟨m0,hx0,hput⟩:=hbag.focus 0 rfl;rw [Mb] at hx0;have hl1:(txV (((Ak P).take (i+1)).map (As C none))).length=i+1:=by rw [Fu,List.length_map,List.length_take]; omega
  refine G.append 33 1 16 (.string (mkS [])) m0 (txV (((Ak P).take (i+1)).map (As C none))) [.string (mkS (Af (C.s p)))] (.slice fa (i+1) fc) g7 0 1 1 (by kernel_rfl) rfl rfl (by omega) hx0 e7 (Jp _) rfl (by omega) (by rw [hl1]; omega) (by rw [hl1]; omega) ?_;intro v8 m8 hA8;have e8:txV (((Ak P).take (i+1)).map (As C none))++[.string (mkS (Af (C.s p)))]=txV (((Ak P).take (i+1+1)).map (As C none)):=by rw [htk,List.map_append,Sl]; rfl
  rw [e8] at hA8;have hl2:(txV (((Ak P).take (i+1+1)).map (As C none))).length=i+1+1:=by rw [Fu,List.length_map,List.length_take]; omega
  obtain ⟨a8,c8,rfl⟩:=hA8.shape;rw [hl2] at hA8 ⊢;have hbag8:=hput (E8 (.slice a8 (i+1+1) c8,txV (((Ak P).take (i+1+1)).map (As C none)))) m8 hA8;have le7:=(le5.trans l6).trans l7;refine G.c call182 (hQ u7 le7 Aq p) ?_;rintro v9 u9 l9 rfl;refine G.B 33 1 16 (.string (mkS [])) [.string (mkS (Af (C.t (Ap Aq p))))] (Jp _) ?_;intro g10 u10 l10 e10;obtain ⟨m0',hx1,hput1⟩:=hbag8.focus 1 rfl;rw [Mb] at hx1;have hl3:(txV (((Ak P).take (i+1)).map (Ay C))).length=i+1:=by rw [Fu,List.length_map,List.length_take]; omega
  refine G.append 33 1 16 (.string (mkS [])) m0' (txV (((Ak P).take (i+1)).map (Ay C))) [.string (mkS (Af (C.t (Ap Aq p))))] (.slice ra (i+1) rc) g10 0 1 1 (by kernel_rfl) rfl rfl (by omega) hx1 e10 (Jp _) rfl (by omega) (by rw [hl3]; omega) (by rw [hl3]; omega) ?_;intro v11 m11 hA11;have e11:txV (((Ak P).take (i+1)).map (Ay C))++[.string (mkS (Af (C.t (Ap Aq p))))]=txV (((Ak P).take (i+1+1)).map (Ay C)):=by rw [htk,List.map_append,Sl]; rfl
  rw [e11] at hA11;have hl4:(txV (((Ak P).take (i+1+1)).map (Ay C))).length=i+1+1:=by rw [Fu,List.length_map,List.length_take]; omega
  obtain ⟨a11,c11,rfl⟩:=hA11.shape;rw [hl4] at hA11 ⊢;have hbag11:=hput1 (E8 (.slice a11 (i+1+1) c11,txV (((Ak P).take (i+1+1)).map (Ay C)))) m11 hA11;refine G.i i ?_;exact G.b (hJ (i+1,(a8,c8),(a11,c11)) _ _ _ cv ((((l5.trans l6).trans l7).trans l9).trans l10) ⟨by dsimp only; omega,hbag11⟩ (by dsimp only; omega))
 obtain rfl:i=P.length:=by omega
 refine G.lF (P.length:Int) (P.length:Int) ?_;clear hJ;rw [show (Ak P).take (P.length+1)=Ak P by rw [List.take_of_length_le (by omega)]] at hbag;have le5:=(l1.trans l2).trans l5;have htx1:(txV ((Ak P).map (As C none))).length=P.length+1:=by rw [Fu,List.length_map,hEl]
 refine G.B 84 1 24 (.slice none 0 0) [.slice fa (P.length+1) fc] (Gt _ _ _) ?_;intro g6 u6 l6 e6;refine G.append 84 1 24 (.slice none 0 0) m5 [] [.slice fa (P.length+1) fc] (.slice none 0 0) g6 0 1 1 (by kernel_rfl) rfl rfl (by omega) (Ae.nil _ _ _) e6 (Gt _ _ _) rfl (by omega) (by simp) (by simp) ?_;intro v7 m7 hA7;obtain ⟨a7,c7,rfl⟩:=hA7.shape;have hb7:Bag m7 (E8 (.slice ra (P.length+1) rc,txV ((Ak P).map (Ay C)))::oT (.slice a7 1 c7) [(.slice fa (P.length+1) fc,txV ((Ak P).map (As C none)))]::[(Value.slice fa (P.length+1) fc,txV ((Ak P).map (As C none)))].map E8) :=
  Bag.perm (List.perm_append_comm (l₁:=[oT (.slice a7 1 c7) [(.slice fa (P.length+1) fc,txV ((Ak P).map (As C none)))],E8 (.slice fa (P.length+1) fc,txV ((Ak P).map (As C none)))]) (l₂:=[E8 (.slice ra (P.length+1) rc,txV ((Ak P).map (Ay C)))])) ⟨m5,hA7,hbag⟩
 have le6:=le5.trans l6;have hL6:=hL.mono ((l2.trans l5).trans l6);have hml:∀ i,i≤P.length→((M8 C P).take (i+1)).length=i+1:=fun i hi=>by rw [List.length_take]; unfold M8; rw [List.length_map,hEl]; omega
 refine G.l (ι:=Nat×(Option Addr×Nat)×List (Value×List Value)) (fun i=>[(3,.p 1 0),(4,.p 2 0),(6,.v (.slice pa P.length pc)),(9,.p 7006 0),(70,.v (.slice pa P.length pc)),(71,.v (.int .i64 (P.length:Int))),(72,.v (.int .i64 (i.1:Int)))])
  (fun i=>[(1,⟨37,[.v (.string (mkS (Af C.c))),.v (.slice a1 n1 c1),.v (.slice a2 n2 c2)]⟩),(2,⟨103,[.v (.slice none 0 0),.v (.slice none 0 0),.v (.slice none 0 0)]⟩),
   (7006,⟨103,[.v (.slice pa P.length pc),.v (.slice i.2.1.1 (i.1+1) i.2.1.2),.v (.slice ra (P.length+1) rc)]⟩)])
  (fun i u' m'=>i.1≤P.length∧i.2.2.map (·.2)=((M8 C P).take (i.1+1)).map txV∧Bag m' (E8 (.slice ra (P.length+1) rc,txV ((Ak P).map (Ay C)))::oT (.slice i.2.1.1 (i.1+1) i.2.1.2) i.2.2::i.2.2.map E8)) (fun i=>P.length - i.1)
  (0,(a7,c7),[(.slice fa (P.length+1) fc,txV ((Ak P).map (As C none)))]) ⟨by omega,by unfold M8 Ak; rfl,hb7⟩ ?_
 clear hb7 hA7 hbag;rintro J ⟨i,⟨xa2,xc2⟩,rows⟩ hJ u8 m8 l8 ⟨hi,hrows,hbag⟩;simp only at hi hrows hbag hJ;have hrl:rows.length=i+1:=by have:=congrArg List.length hrows; rw [List.length_map,List.length_map,hml i hi] at this; exact this
 by_cases hlt:i < P.length
 ·refine G.lT (i:Int) (P.length:Int) ?_;obtain ⟨p,hpi⟩:∃ p,P[i]?=some p:=⟨_,List.getElem?_eq_getElem hlt⟩;have htk:(Ak P).take (i+1+1)=(Ak P).take (i+1)++[some p]:=by rw [Hg,Hg,List.take_add_one,hpi]; simp
  have le8:=le6.trans l8;obtain ⟨bp,op,e0,ep⟩:=Ab.at' (hL6.mono l8) (j:=i) (e:=An p) (by simp [hpi]);subst e0;refine G.a bp op P.length pc i 2 hlt ?_;refine G.lU (some 2) bp (op+i*2) (.agg #[.int .i64 p.1,.string (mkS p.2)]) ep ?_;refine G.c call181 (hS u8 le8 p) ?_;rintro v9 u9 l9 rfl;refine G.buildM 33 1 16 (.string (mkS [])) [.string (mkS (Af (C.s p)))] (by kernel_rfl) (Jp _) rfl (by omega) (by simp) (by simp) ?_;intro g10 m10 hA10;refine G.l (ι:=Nat×(Option Addr×Nat)) (fun j=>[(3,.p 1 0),(4,.p 2 0),(6,.v (.slice (some ⟨bp,op,none⟩) P.length pc)),(9,.p 7006 0),(14,.p 18002 0),(15,.v (.slice j.2.1 (j.1+1) j.2.2)),(70,.v (.slice (some ⟨bp,op,none⟩) P.length pc)),(71,.v (.int .i64 (P.length:Int))),(72,.v (.int .i64 (i:Int))),(80,.v (.slice (some ⟨bp,op,none⟩) P.length pc)),(81,.v (.int .i64 (P.length:Int))),(82,.v (.int .i64 (j.1:Int)))])
   (fun j=>[(1,⟨37,[.v (.string (mkS (Af C.c))),.v (.slice a1 n1 c1),.v (.slice a2 n2 c2)]⟩),(2,⟨103,[.v (.slice none 0 0),.v (.slice none 0 0),.v (.slice none 0 0)]⟩),
    (7006,⟨103,[.v (.slice (some ⟨bp,op,none⟩) P.length pc),.v (.slice xa2 (i+1) xc2),.v (.slice ra (P.length+1) rc)]⟩),(18002,⟨79,[.v (.int .i64 p.1),.v (.string (mkS p.2))]⟩)])
   (fun j u' m'=>j.1≤P.length∧Bag m' (E8 (.slice j.2.1 (j.1+1) j.2.2,txV (((Ak P).take (j.1+1)).map (As C (some p))))::E8 (.slice ra (P.length+1) rc,txV ((Ak P).map (Ay C)))::oT (.slice xa2 (i+1) xc2) rows::rows.map E8)) (fun j=>P.length - j.1)
   (0,some ⟨g10,0,none⟩,1) ⟨by omega,m8,hA10,hbag⟩ ?_
  rintro J2 ⟨j,la,lc⟩ hJ2 u11 m11 l11 ⟨hj,hbj⟩;simp only at hj hbj hJ2;have le11:=(le8.trans l9).trans l11;by_cases hjl:j < P.length
  ·refine G.lT (j:Int) (P.length:Int) ?_;obtain ⟨q,hqj⟩:∃ q,P[j]?=some q:=⟨_,List.getElem?_eq_getElem hjl⟩;have htj:(Ak P).take (j+1+1)=(Ak P).take (j+1)++[some q]:=by rw [Hg,Hg,List.take_add_one,hqj]; simp
   obtain ⟨bq,oq,e0,eq⟩:=Ab.at' (hL6.mono ((l8.trans l9).trans l11)) (j:=j) (e:=An q) (by simp [hqj]);cases e0;refine G.a bp op P.length pc j 2 hjl ?_;refine G.lU (some 2) bp (op+j*2) (.agg #[.int .i64 q.1,.string (mkS q.2)]) eq ?_;refine G.c call182 (hQ u11 le11 p q) ?_;rintro v12 u12 l12 rfl;refine G.B 33 1 16 (.string (mkS [])) [.string (mkS (Af (C.t (Ap p q))))] (Jp _) ?_;intro g13 u13 l13 e13;obtain ⟨m0,hx0,hput⟩:=hbj.focus 0 rfl;rw [Mb] at hx0;have hl1:(txV (((Ak P).take (j+1)).map (As C (some p)))).length=j+1:=by rw [Fu,List.length_map,List.length_take]; omega
   refine G.append 33 1 16 (.string (mkS [])) m0 (txV (((Ak P).take (j+1)).map (As C (some p)))) [.string (mkS (Af (C.t (Ap p q))))] (.slice la (j+1) lc) g13 0 1 1 (by kernel_rfl) rfl rfl (by omega) hx0 e13 (Jp _) rfl (by omega) (by rw [hl1]; omega) (by rw [hl1]; omega) ?_;intro v14 m14 hA14;have e14:txV (((Ak P).take (j+1)).map (As C (some p)))++[.string (mkS (Af (C.t (Ap p q))))]=txV (((Ak P).take (j+1+1)).map (As C (some p))):=by rw [htj,List.map_append,Sl]; rfl
   rw [e14] at hA14;have hl2:(txV (((Ak P).take (j+1+1)).map (As C (some p)))).length=j+1+1:=by rw [Fu,List.length_map,List.length_take]; omega
   obtain ⟨a14,c14,rfl⟩:=hA14.shape;rw [hl2] at hA14 ⊢;have hb14:=hput (E8 (.slice a14 (j+1+1) c14,txV (((Ak P).take (j+1+1)).map (As C (some p))))) m14 hA14;refine G.i j ?_;exact G.b (hJ2 (j+1,a14,c14) _ _ _ cv ((l11.trans l12).trans l13) ⟨by dsimp only; omega,hb14⟩ (by dsimp only; omega))
  ·obtain rfl:j=P.length:=by omega
   refine G.lF (P.length:Int) (P.length:Int) ?_;rw [show (Ak P).take (P.length+1)=Ak P by rw [List.take_of_length_le (by omega)]] at hbj;refine G.B 84 1 24 (.slice none 0 0) [.slice la (P.length+1) lc] (Gt _ _ _) ?_;intro g12 u12 l12 e12;obtain ⟨m0,hx0,hput⟩:=hbj.focus 2 rfl;rw [Amu] at hx0;refine G.k 84 1 24 (.slice none 0 0) m0 (rows.map (·.1)) [.slice la (P.length+1) lc] (.slice xa2 (i+1) xc2) g12 0 1 1 hx0 e12 (Gt _ _ _) ?_;intro v13 m13 hA13;have em:rows.map (·.1)++[Value.slice la (P.length+1) lc]=(rows++[(Value.slice la (P.length+1) lc,txV ((Ak P).map (As C (some p))))]).map (·.1):=by simp
   rw [em] at hA13;obtain ⟨a13,c13,rfl⟩:=hA13.shape;have el:((rows++[(Value.slice la (P.length+1) lc,txV ((Ak P).map (As C (some p))))]).map (·.1)).length=i+1+1:=by simp [hrl]
   rw [el] at hA13 ⊢;have hb13:=hput (oT (.slice a13 (i+1+1) c13) (rows++[(Value.slice la (P.length+1) lc,txV ((Ak P).map (As C (some p))))])) m13 hA13;have hb14:=Bag.perm Afg hb13;refine G.i i ?_;refine G.b (hJ (i+1,(a13,c13),rows++[(Value.slice la (P.length+1) lc,txV ((Ak P).map (As C (some p))))]) _ _ _ cv (((l8.trans l9).trans l11).trans l12) ⟨by dsimp only; omega,?_,by simpa using hb14⟩ (by dsimp only; omega));dsimp only;rw [List.map_append,hrows];unfold M8;rw [← List.map_take,← List.map_take,htk,List.map_append,List.map_append]; rfl
 ·obtain rfl:i=P.length:=by omega
  refine G.lF (P.length:Int) (P.length:Int) ?_;rw [List.take_of_length_le (by unfold M8; rw [List.length_map,hEl]; omega)] at hrows;exact G.r (.tuple #[.agg #[.slice pa P.length pc,.slice xa2 (P.length+1) xc2,.slice ra (P.length+1) rc],.int .i64 0]) ⟨pa,pc,xa2,xc2,ra,rc,rows,rfl,hL6.mono l8,hrows,hbag⟩
end
section
open Go.RowKit Go.MapKept
variable {C:CF}{F:List Ao}{K c i k n:Nat}{P:List Par}{R:List Bk}{X:List (List Rat)}{cv v:Value}{lab:Int}{m u:PH}{o s:Arr}{q:Rat}{r:Value×List Value}{rows:List (Value×List Value)}
theorem N0 (h:rows[i]?=some r):(s::o::rows.map E8)[i+2]?=some (E8 r):=by simp [h]
theorem Aif :(s::o::rows.map E8).set (i+2) (E8 r)=s::o::(rows.set i r).map E8:=by
 simp [List.map_set]
theorem Aoe {x:Value}{es es':List Value}(h:rows[i]?=some (x,es)):oT v (rows.set i (x,es'))=oT v rows:=by
 unfold oT
 congr 1
 rw [List.map_set];exact Ti (by rw [List.getElem?_map,h]; rfl)
theorem Ap3 {g n c i:Nat}(hbag:Bag m (s::oT (.slice (some ⟨g,0,none⟩) n c) rows::rows.map E8))(hr:rows.map (·.2)=X.map txV)(hX:Rec n n X)(hi:i < n) :
  ∃ gi ci,rows[i]?=some (.slice (some ⟨gi,0,none⟩) n ci,txV (gM X i))∧ElP m g (0+i*1) (.slice (some ⟨gi,0,none⟩) n ci)∧∀ j,j < n→ElP m gi (0+j*1) (.string (mkS (Af (gR (gM X i) j)))):=by
 have hrl:rows.length=n:=by have:=congrArg List.length hr; simpa [hX.1] using this
 have hri:rows[i]?=some rows[i]:=List.getElem?_eq_getElem (by omega);obtain ⟨⟨vi,ei⟩,he⟩:∃ x,rows[i]=x:=⟨_,rfl⟩;rw [he] at hri;have hei:ei=txV (gM X i):=by
  have h1:(rows.map (·.2))[i]?=some ei:=by rw [List.getElem?_map,hri]; rfl
  have hxi:i < X.length:=by rw [hX.1]; exact hi
  rw [hr,List.getElem?_map,List.getElem?_eq_getElem hxi] at h1;rw [N6 hxi]; simpa using h1.symm
 subst hei;have hel:(txV (gM X i)).length=n:=by rw [Fu,hX.2 i hi]
 obtain ⟨gi,ci,e⟩:=hbag.ptr (i+2) (N0 hri) (by intro e; simp only [E8] at e; rw [e] at hel; simp at hel; omega);simp only [E8] at e;rw [hel] at e;subst e;refine ⟨gi,ci,hri,hbag.el 1 (x:=oT _ rows) rfl rfl (by show (rows.map (·.1))[i]?=_; rw [List.getElem?_map,hri]; rfl),fun j hj=>?_⟩;have hjl:j < (gM X i).length:=by rw [hX.2 i hi]; exact hj
 exact hbag.el (i+2) (x:=E8 _) (N0 hri) rfl (by show (txV (gM X i))[j]?=_; unfold txV; rw [List.getElem?_map,List.getElem?_eq_getElem hjl,Mj hjl]; rfl)
theorem Aku {v:Value}{a:Option Addr}(hbag:Bag m (s::oT (.slice a n c) rows::rows.map E8))(hr:rows.map (·.2)=X.map txV)(hm:PH.le m u):N7 u (.slice a n c) (Jx X):=by
 obtain ⟨m0,h0,_⟩:=hbag.focus 1 rfl;have hrl:rows.length=X.length:=by have:=congrArg List.length hr; simpa using this
 rw [Amu] at h0;refine ⟨rows.map (·.1),h0.list hm,by simp [Jx,hrl],fun j r hj=>?_⟩;unfold Jx at hj;rw [List.getElem?_map] at hj;cases hx:X[j]? with
 | none=>rw [hx] at hj; cases hj
 | some x =>
  rw [hx] at hj;simp only [Option.map_some,Option.some.injEq] at hj;subst hj;obtain ⟨hjl,_⟩:=List.getElem?_eq_some_iff.1 hx;have hri:rows[j]?=some rows[j]:=List.getElem?_eq_getElem (by omega);obtain ⟨⟨vi,ei⟩,he⟩:∃ x,rows[j]=x:=⟨_,rfl⟩;rw [he] at hri;have hei:ei=txV x:=by
   have h1:(rows.map (·.2))[j]?=some ei:=by rw [List.getElem?_map,hri]; rfl
   rw [hr,List.getElem?_map,hx] at h1;simpa using h1.symm
  subst hei;obtain ⟨m1,h1,_⟩:=hbag.focus (j+2) (N0 hri);rw [Mb] at h1;obtain ⟨a1,c1,e1⟩:=h1.shape;simp only at e1;subst e1;have h2:=h1.list hm;simp only [Fu] at h2;refine ⟨a1,c1,by rw [List.getElem?_map,hri]; simp [Fu],?_⟩;rw [List.length_map];unfold Fe;rw [← Zk]; exact h2
def Gl (q:Rat)(X:List (List Rat)):Nat→List (List Rat)
 | 0=>X
 | 1=>X
 | i+2=>(Gl q X (i+1)).set (i+1) ((gM (Gl q X (i+1)) (i+1)).set (i+1) (gR (gM (Gl q X (i+1)) (i+1)) (i+1)+q))
theorem N3 {q:Rat}{X:List (List Rat)}{n:Nat}(hX:Rec n n X):∀ i,i≤n→Rec n n (Gl q X i)
 | 0,_=>hX
 | 1,_=>hX
 | i+2,h=>by
  have ih:=N3 hX (q:=q) (i+1) (by omega);exact Ib ih (by omega) (by rw [List.length_set,ih.2 (i+1) (by omega)])
theorem Xd {q:Rat}{X:List (List Rat)}{n:Nat}(hX:Rec n n X):∀ i,i≤n→∀ a b,a < n→b < n→en (Gl q X i) a b=en X a b+if a=b∧0 < a∧a < i then q else 0
 | 0,_,a,b,_,_=>by rw [if_neg (by omega)]; show en X a b=en X a b+0; grind
 | 1,_,a,b,_,_=>by rw [if_neg (by omega)]; show en X a b=en X a b+0; grind
 | i+2,h,a,b,ha,hb=>by
  have ih:=Xd hX (q:=q) (i+1) (by omega) a b ha hb;have hr:=N3 hX (q:=q) (i+1) (by omega);have hl:i+1 < (gM (Gl q X (i+1)) (i+1)).length:=by rw [hr.2 (i+1) (by omega)]; omega
  show gR (gM ((Gl q X (i+1)).set (i+1) _) a) b=_;rw [Ka (by rw [hr.1]; omega)];by_cases e1:i+1=a
  ·rw [if_pos e1,Aoj hl];by_cases e2:i+1=b
   ·subst e1; subst e2;rw [if_pos rfl,if_pos ⟨rfl,by omega,by omega⟩];rw [if_neg (by omega)] at ih;show en (Gl q X (i+1)) (i+1) (i+1)+q=_;rw [ih]; grind
   ·subst e1;rw [if_neg e2,if_neg (by omega)];rw [if_neg (by omega)] at ih;exact ih
  ·rw [if_neg e1];show en (Gl q X (i+1)) a b=_;rw [ih];by_cases e3:a=b∧0 < a∧a < i+1
   ·rw [if_pos e3,if_pos (by omega)]
   ·rw [if_neg e3,if_neg (by omega)]
theorem Anc {r:List Rat}(h:X[i]?=some r):gM X i=r:=by unfold gM; rw [List.getD_eq_getElem?_getD,h]; rfl
theorem Ads {l:List Rat}{r:Rat}(h:l[i]?=some r):gR l i=r:=by unfold gR; rw [List.getD_eq_getElem?_getD,h]; rfl
theorem Adz (C:CF)(P:List Par)(hi:i < P.length+1):gM (M8 C P) i=(Ak P).map (As C ((Ak P).getD i none)):=by
 have hi':i < (Ak P).length:=by rw [Bo]; exact hi
 refine Anc ?_;unfold M8;rw [List.getElem?_map,List.getElem?_eq_getElem hi',List.getD_eq_getElem?_getD,List.getElem?_eq_getElem hi']; rfl
theorem Rt (C:CF)(P:List Par):Rec (P.length+1) (P.length+1) (M8 C P) :=
 ⟨by unfold M8; rw [List.length_map,Bo],fun i hi=>by rw [Adz C P hi,List.length_map,Bo]⟩
theorem Adr (C:CF)(P:List Par){i j:Nat}(hi:i < P.length+1)(hj:j < P.length+1):en (M8 C P) i j=As C ((Ak P).getD i none) ((Ak P).getD j none):=by
 have hj':j < (Ak P).length:=by rw [Bo]; exact hj
 unfold en;rw [Adz C P hi];refine Ads ?_;rw [List.getElem?_map,List.getD_eq_getElem?_getD (l:=Ak P) (i:=j),List.getElem?_eq_getElem hj']; rfl
theorem Kl.de (h:Kl q):De 2 2 q:=by
 obtain ⟨p,h1,h2⟩:=h.thirty;exact ⟨p,30,h1,by omega,by omega,by omega⟩
theorem F8.cellDe {T:List (List UInt8×Nat)}(h:F8 u v cv T R F lab C K k P)(e f:Option Par):De 39 18 (As C e f):=by
 cases e <;> cases f
 ·show De 39 18 C.c; rw [h.mom.c]; exact (De.nat (a:=2) (by have:=h.mom.lt; omega)).mono (by omega) (by omega)
 ·exact h.mom.s _
 ·exact h.mom.s _
 ·exact h.mom.t _
theorem Zt {T : List (List UInt8 × Nat)}        (h : F8 u v cv T R F lab C K k P) (hq : Kl q) :
    Fn0 prog 47 [v, cv, .string (mkS (Af q))] u fun r u' => (∃ e : Int, e ≠ 0 ∧ r = .tuple #[.agg #[.slice none 0 0, .slice none 0 0, .slice none 0 0], .int .i64 e]) ∨
      (k ≠ 0 ∧ P.length ≤ 11 ∧ ∃ (pa : Option Addr) (pc : Nat) (xa : Option Addr) (xc : Nat) (ra : Option Addr) (rc : Nat), r = .tuple #[.agg #[.slice pa P.length pc, .slice xa (P.length + 1) xc, .slice ra (P.length + 1) rc], .int .i64 0] ∧ Ab u' (.slice pa P.length pc) 2 (P.map An) ∧
        N7 u' (.slice xa (P.length + 1) xc) (Jx (Gl q (M8 C P) (P.length + 1))) ∧ Fe u' (.slice ra (P.length + 1) rc) (((Ak P).map (Ay C)).map Af)) := by
  have hmx := Aaf h
  have hbf := fun (u' : PH) (l : PH.le u u') => Zf (h.mono l) hq
  have hcd := h.cellDe
  obtain ⟨xa, xc, xb, xd, xe, xf, rfl, _⟩ := id h.sch
  obtain ⟨a1, n1, c1, a2, n2, c2, rfl⟩ := id h.cof.opn
  refine Fn0.o func47 ?_
  refine G.callO _ _ (by kernel_rfl) call105 hmx ?_
  rintro v1 u1 m1 l1 ⟨pa, pc, ya, yc, ra, rc, rows, rfl, hPL, hrows, hbag⟩ _
  rw [C2]
  refine G.nF 0 0 ?_
  refine G.c call106 (hbf u1 l1) ?_
  rintro v2 u2 l2 rfl
  by_cases h0 : k = 0
  · rw [if_pos h0]
    refine G.nT 12 0 ?_
    refine G.drop PH.mt (by kernel_rfl) (PH.mt_le _) ?_
    exact G.r (.tuple #[.agg #[.slice none 0 0, .slice none 0 0, .slice none 0 0], .int .i64 12]) ⟨rfl, .inl ⟨12, by omega, rfl⟩⟩
  rw [if_neg h0]
  refine G.nF 0 0 ?_
  by_cases h12 : P.length + 1 > 12
  · refine G.gT ((P.length + 1 : Nat) : Int) 12 ?_
    refine G.drop PH.mt (by kernel_rfl) (PH.mt_le _) ?_
    exact G.r (.tuple #[.agg #[.slice none 0 0, .slice none 0 0, .slice none 0 0], .int .i64 3]) ⟨rfl, .inl ⟨3, by omega, rfl⟩⟩
  refine G.gF ((P.length + 1 : Nat) : Int) 12 ?_
  have hX := Rt C P
  generalize hXe : M8 C P = X at hrows hX
  have hXc : ∀ i j, i < P.length + 1 → j < P.length + 1 → De 39 18 (en X i j) := fun i j hi hj => by rw [← hXe, Adr C P hi hj]; exact hcd _ _
  have hrl : rows.length = P.length + 1 := by have := congrArg List.length hrows; simpa [hX.1] using this
  obtain ⟨go, co, eo⟩ := hbag.ptr 1 rfl (by intro e; have : (rows.map (·.1)).length = 0 := by rw [show rows.map (·.1) = [] from e]; rfl
                                            rw [List.length_map] at this; omega)
  have eo2 : (Value.slice ya (P.length + 1) yc) = .slice (some ⟨go, 0, none⟩) (P.length + 1) co := by
    have e1 : (oT (.slice ya (P.length + 1) yc) rows).v = Value.slice ya (P.length + 1) yc := rfl
    rw [e1] at eo
    rw [eo]
    have : (oT (.slice ya (P.length + 1) yc) rows).es.length = P.length + 1 := by show (rows.map (·.1)).length = _; rw [List.length_map, hrl]
    rw [this]
  cases eo2
  refine G.l (ι := Nat × List (Value × List Value)) (fun i => [(2, .v (.string (mkS (Af q)))), (6, .p 2 0), (8, .p 1006 0), (11, .v (.int .i64 (i.1 : Int)))])
    (fun _ => [(2, ⟨103, [.v (.slice none 0 0), .v (.slice none 0 0), .v (.slice none 0 0)]⟩), (1006, ⟨103, [.v (.slice pa P.length pc), .v (.slice (some ⟨go, 0, none⟩) (P.length + 1) yc), .v (.slice ra (P.length + 1) rc)]⟩)])
    (fun i u' m' => 1 ≤ i.1 ∧ i.1 ≤ P.length + 1 ∧ i.2.map (·.2) = (Gl q X i.1).map txV ∧ Bag m' (E8 (.slice ra (P.length + 1) rc, txV ((Ak P).map (Ay C))) :: oT (.slice (some ⟨go, 0, none⟩) (P.length + 1) yc) i.2 :: i.2.map E8)) (fun i => P.length + 1 - i.1)
    (1, rows) ⟨by omega, by omega, hrows, hbag⟩ ?_
  clear hbag hrows hrl
  rintro J ⟨i, rows⟩ hJ u3 m3 l3 ⟨h1i, hi, hrows, hbag⟩
  simp only at h1i hi hrows hbag hJ
  have hXi := N3 (q := q) hX i hi
  by_cases hlt : i < P.length + 1
  · refine G.lT (i : Int) ((P.length + 1 : Nat) : Int) ?_
    obtain ⟨gi, ci, hri, e1, e2⟩ := Ap3 hbag hrows hXi hlt
    have hen : gR (gM (Gl q X i) i) i = en X i i := by
      have := Xd (q := q) hX i hi i i hlt hlt
      rw [if_neg (by omega)] at this
      show en (Gl q X i) i i = _
      rw [this]; grind
    have hd := hXc i i hlt hlt
    refine G.a go 0 (P.length + 1) yc i 1 hlt ?_
    refine G.lM none go (0 + i * 1) (.slice (some ⟨gi, 0, none⟩) (P.length + 1) ci) e1 ?_
    refine G.a gi 0 (P.length + 1) ci i 1 hlt ?_
    refine G.lM none gi (0 + i * 1) (.string (mkS (Af (gR (gM (Gl q X i) i) i)))) (e2 i hlt) ?_
    rw [hen]
    have ha := hd.add hq.de (f := 41) (by omega) (by omega)
    refine G.c call13 (Wm (hd.tx (by omega) (by omega) (by omega) (by omega)) hq.tx (ha.tx (by omega) (by omega) (by omega) (by omega))) ?_
    rintro v4 u4 l4 rfl
    refine G.nF 0 0 ?_
    refine G.a go 0 (P.length + 1) yc i 1 hlt ?_
    refine G.lM none go (0 + i * 1) (.slice (some ⟨gi, 0, none⟩) (P.length + 1) ci) e1 ?_
    refine G.a gi 0 (P.length + 1) ci i 1 hlt ?_
    obtain ⟨m0, hx0, hput⟩ := hbag.focus (i + 2) (N0 hri)
    rw [Mb] at hx0
    have hel : (txV (gM (Gl q X i) i)).length = P.length + 1 := by rw [Fu, hXi.2 i hlt]
    refine G.storeA 1 m0 (txV (gM (Gl q X i) i)) gi (P.length + 1) ci i (.string (mkS (Af (en X i i + q)))) (by kernel_rfl) hx0 (by omega) rfl rfl ?_
    intro m5 hA5
    have es : (txV (gM (Gl q X i) i)).set i (.string (mkS (Af (en X i i + q)))) = txV ((gM (Gl q X i) i).set i (gR (gM (Gl q X i) i) i + q)) := by
      rw [hen]; unfold txV; rw [List.map_set]
    rw [es] at hA5
    have hb5 := hput (E8 (.slice (some ⟨gi, 0, none⟩) (P.length + 1) ci, txV ((gM (Gl q X i) i).set i (gR (gM (Gl q X i) i) i + q)))) m5 hA5
    rw [Aif, ← Aoe hri (es' := txV ((gM (Gl q X i) i).set i (gR (gM (Gl q X i) i) i + q)))] at hb5
    refine G.i i ?_
    refine G.b (hJ (i + 1, rows.set i (.slice (some ⟨gi, 0, none⟩) (P.length + 1) ci, txV ((gM (Gl q X i) i).set i (gR (gM (Gl q X i) i) i + q)))) _ _ _ cv (l3.trans l4) ⟨by dsimp only; omega, by dsimp only; omega, ?_, hb5⟩ (by dsimp only; omega))
    dsimp only
    obtain ⟨j, rfl⟩ : ∃ j, i = j + 1 := ⟨i - 1, by omega⟩
    rw [List.map_set, hrows, ← List.map_set]; rfl
  · obtain rfl : i = P.length + 1 := by omega
    refine G.lF ((P.length + 1 : Nat) : Int) ((P.length + 1 : Nat) : Int) ?_
    refine G.giveP (ma := m3) (sm := PH.mt) (by kernel_rfl) (by funext g; unfold PH.or; cases m3 g <;> rfl) (fun g => .inr rfl) (fun g => .inl rfl) ?_
    intro u6 l6 hm6
    obtain ⟨m0, hx0, _⟩ := hbag.focus 0 rfl
    rw [Mb] at hx0
    have hR : Fe u6 (.slice ra (P.length + 1) rc) (((Ak P).map (Ay C)).map Af) := by
      unfold Fe; rw [← Zk]; exact hx0.list hm6
    exact G.r (.tuple #[.agg #[.slice pa P.length pc, .slice (some ⟨go, 0, none⟩) (P.length + 1) yc, .slice ra (P.length + 1) rc], .int .i64 0]) ⟨rfl, .inr ⟨h0, by omega, pa, pc, _, yc, ra, rc, rfl, hPL.mono ((l2.trans l3).trans l6), Aku (v := .bool true) hbag hrows hm6, hR⟩⟩
end
section
open Go.RowKit Go.MapKept
variable {n q:Nat}
structure Tq (q:Rat):Prop where
 tx:Tx q
 den:q.den ∣ 4320
 num:q.num.natAbs≤15000000
theorem Ap6 {q d:Nat}(hq:q ∣ 4320)(hd:d ∣ 4320):q*(d / Nat.gcd q d) ∣ 4320:=by
 rw [← Nat.mul_div_assoc _ (Nat.gcd_dvd_right _ _)];exact Nat.lcm_dvd hq hd
theorem leW (h:q ∣ 4320):0 < q∧q≤4320:=⟨Nat.pos_of_dvd_of_pos h (by omega),Nat.le_of_dvd (by omega) h⟩
theorem nlM (h:n < 1000000000000000000):nl n≤2:=A4 (by simpa using h)
theorem Am1 (h:n < 100000000000):Lib.nDigits n≤11:=Ed (k:=11) (by omega) (by omega)
theorem Ur {u:PH}{v:Value}{A:List (List Rat)}{n w:Nat}(h:N7 u v (Jx A))(hA:A.length≤12)(hr:∀ r∈A,r.length=w)(hw:w≤12)(hT:∀ r∈A,∀ q∈r,Tq q)(hn:n≤12):Fn0 prog 108 [v,.int .i64 (n:Int)] u fun v' _=>v'=.bool false:=by
 obtain ⟨a,c,rfl⟩:=h.opn;rw [If] at h ⊢;refine Fn0.o func108 ?_;refine G.c call79 (Te (n:=1) (by omega) (by omega)) ?_;intro v1 u1 l1 k1;obtain ⟨f1,rfl⟩:=k1.opB;refine G.l (ι:=Nat×B3×Nat) (fun i=>[(0,.v (.slice a A.length c)),(1,.v (.int .i64 (n:Int))),(5,.p 1001 0),(18,.v (.int .i64 (A.length:Int))),(19,.v (.int .i64 (i.1:Int)))]) (fun i=>[(1001,⟨66,bc i.2.1⟩)])
  (fun i u' m'=>i.1≤A.length∧i.2.2 ∣ 4320∧Cn u' (bv i.2.1) (i.2.2:Int)∧m'=PH.mt) (fun i=>A.length - i.1) (0,f1,1) ⟨Nat.zero_le _,Nat.one_dvd _,k1,rfl⟩ ?_
 rintro J ⟨i,f,q⟩ hJ u2 m2 l2 ⟨hi,hq,hf,rfl⟩;simp only at hi hq hf hJ;by_cases hlt:i < A.length
 ·refine G.lT (i:Int) (A.length:Int) ?_;obtain ⟨b1,o1,a1,c1,rfl,e1,e2⟩:=(h.mono (l1.trans l2)).row (Gj (List.getElem?_eq_getElem hlt));rw [List.length_map,hr _ (List.getElem_mem hlt)] at e1 e2;refine G.a b1 o1 A.length c i 1 hlt ?_;refine G.lU none b1 (o1+i*1) _ e1 ?_;refine G.l (ι:=Nat×B3×Nat) (fun k=>[(0,.v (.slice (some ⟨b1,o1,none⟩) A.length c)),(1,.v (.int .i64 (n:Int))),(5,.p 1001 0),(18,.v (.int .i64 (A.length:Int))),(19,.v (.int .i64 (i:Int))),(6,.v (.int .i64 (i:Int))),(26,.v (.int .i64 (w:Int))),(27,.v (.int .i64 (k.1:Int)))]) (fun k=>[(1001,⟨66,bc k.2.1⟩)])
   (fun k u' m'=>k.1≤w∧k.2.2 ∣ 4320∧Cn u' (bv k.2.1) (k.2.2:Int)∧m'=PH.mt) (fun k=>w - k.1) (0,f,q) ⟨Nat.zero_le _,hq,hf,rfl⟩ ?_
  clear hf hq;rintro J2 ⟨k,f,q⟩ hJ2 u3 m3 l3 ⟨hk,hq,hf,rfl⟩;simp only at hk hq hf hJ2;by_cases hlk:k < w
  ·refine G.lT (k:Int) (w:Int) ?_;have hki:k < A[i].length:=by rw [hr _ (List.getElem_mem hlt)]; exact hlk
   have htw:Tq A[i][k]:=hT _ (List.getElem_mem hlt) _ (List.getElem_mem hki);obtain ⟨b2,o2,rfl,e3⟩:=Ab.at' (Ab.mono e2 l3) (j:=k) (e:=.string (mkS (Af A[i][k]))) (by simp [Cs,List.getElem?_eq_getElem hki]);refine G.a b1 o1 A.length c i 1 hlt ?_;refine G.lU none b1 (o1+i*1) _ (e1.mono l3) ?_;refine G.a b2 o2 w c1 k 1 hlk ?_;refine G.lU none b2 (o2+k*1) _ e3 ?_;refine G.c call31 (Eh htw.tx) ?_;intro v4 u4 l4 k4;obtain ⟨b4,a4,n4,c4,a4',n4',c4',rfl,_,_,k4d⟩:=k4.opn;have hd:=htw.den;generalize A[i][k]=x at *
   obtain ⟨hd0,hd12⟩:=leW hd;obtain ⟨hq0,hq12⟩:=leW hq;have hg0:0 < Nat.gcd q x.den:=Nat.gcd_pos_of_pos_left _ hq0;refine G.c call167 (V2 (hf.mono l4) k4d (Nat.le_trans (nl1 (by omega)) (by omega)) (Nat.le_trans (nl1 (by omega)) (by omega))) ?_;intro v5 u5 l5 k5;simp only [Int.natAbs_natCast] at k5;obtain ⟨f5,rfl⟩:=k5.opB;have hgle:Nat.gcd q x.den≤q:=Nat.gcd_le_left _ hq0;refine G.c call169 (Nn (k4d.mono l5) k5 (Nat.le_trans (nl1 (by omega)) (by omega)) (Nat.le_trans (nl1 (by omega)) (by omega)) (by omega)) ?_;rintro v6 u6 l6 ⟨x6,y6,rfl,k6,k6'⟩;obtain ⟨f6,rfl⟩:=k6.opB;obtain ⟨f6',rfl⟩:=k6'.opB;have e6:((x.den:Int)).tdiv ((Nat.gcd q x.den:Nat):Int)=((x.den / Nat.gcd q x.den:Nat):Int):=by
    rw [Int.tdiv_eq_ediv_of_nonneg (by omega)]; rfl
   rw [e6] at k6;have hl12:=Ap6 hq hd;have hdd:x.den / Nat.gcd q x.den≤x.den:=Nat.div_le_self _ _;refine G.c call85 (En (hf.mono (((l4.trans l5).trans l6))) k6 (Nat.le_trans (nl1 (by omega)) (by omega)) (Nat.le_trans (nlN (by omega)) (by omega))) ?_;intro v7 u7 l7 k7;obtain ⟨f7,rfl⟩:=k7.opB;rw [← Int.natCast_mul] at k7;generalize q*(x.den / Nat.gcd q x.den)=r at *
   obtain ⟨hr0,hr12⟩:=leW hl12;refine G.c call174 (Ng k7 (Nat.le_trans (nlM (by omega)) (by omega))) ?_;rintro v8 u8 l8 rfl;have hdg:Lib.nDigits (r:Int).natAbs≤11:=Am1 (by omega);generalize Lib.nDigits (r:Int).natAbs=D at *
   have hnD:n*D≤12*11:=Nat.mul_le_mul hn hdg;refine G.mul (n:Int) (D:Int) ((n*D:Nat):Int) (by kernel_rfl) (by rw [Int.natCast_mul]) (by omega) (by omega) ?_;refine G.gF ((n*D:Nat):Int) 600 ?_;refine G.i k ?_;exact G.b (hJ2 (k+1,f7,r) _ _ _ cv (((((l3.trans l4).trans l5).trans l6).trans l7).trans l8) ⟨by dsimp only; omega,hl12,k7.mono l8,rfl⟩ (by dsimp only; omega))
  ·refine G.lF (k:Int) (w:Int) ?_;refine G.i i ?_;exact G.b (hJ (i+1,f,q) _ _ _ cv (l2.trans l3) ⟨by dsimp only; omega,hq,hf,rfl⟩ (by dsimp only; omega))
 ·refine G.lF (i:Int) (A.length:Int) ?_;clear hJ hlt hi;refine G.l (ι:=Nat) (fun i=>[(0,.v (.slice a A.length c)),(1,.v (.int .i64 (n:Int))),(5,.p 1001 0),(58,.v (.int .i64 (A.length:Int))),(59,.v (.int .i64 (i:Int)))]) (fun i=>[(1001,⟨66,bc f⟩)])
   (fun i u' m'=>i≤A.length∧m'=PH.mt) (fun i=>A.length - i) 0 ⟨Nat.zero_le _,rfl⟩ ?_
  rintro J i hJ u3 m3 l3 ⟨hi,rfl⟩;by_cases hlt:i < A.length
  ·refine G.lT (i:Int) (A.length:Int) ?_;obtain ⟨b1,o1,a1,c1,rfl,e1,e2⟩:=(h.mono ((l1.trans l2).trans l3)).row (Gj (List.getElem?_eq_getElem hlt));rw [List.length_map,hr _ (List.getElem_mem hlt)] at e1 e2;refine G.a b1 o1 A.length c i 1 hlt ?_;refine G.lU none b1 (o1+i*1) _ e1 ?_;refine G.l (ι:=Nat) (fun k=>[(0,.v (.slice (some ⟨b1,o1,none⟩) A.length c)),(1,.v (.int .i64 (n:Int))),(5,.p 1001 0),(58,.v (.int .i64 (A.length:Int))),(59,.v (.int .i64 (i:Int))),(11,.v (.int .i64 (i:Int))),(66,.v (.int .i64 (w:Int))),(67,.v (.int .i64 (k:Int)))]) (fun k=>[(1001,⟨66,bc f⟩)])
    (fun k u' m'=>k≤w∧m'=PH.mt) (fun k=>w - k) 0 ⟨Nat.zero_le _,rfl⟩ ?_
   rintro J2 k hJ2 u4 m4 l4 ⟨hk,rfl⟩;by_cases hlk:k < w
   ·refine G.lT (k:Int) (w:Int) ?_;have hki:k < A[i].length:=by rw [hr _ (List.getElem_mem hlt)]; exact hlk
    have htw:Tq A[i][k]:=hT _ (List.getElem_mem hlt) _ (List.getElem_mem hki);obtain ⟨b2,o2,rfl,e3⟩:=Ab.at' (Ab.mono e2 l4) (j:=k) (e:=.string (mkS (Af A[i][k]))) (by simp [Cs,List.getElem?_eq_getElem hki]);refine G.a b1 o1 A.length c i 1 hlt ?_;refine G.lU none b1 (o1+i*1) _ (e1.mono l4) ?_;refine G.a b2 o2 w c1 k 1 hlk ?_;refine G.lU none b2 (o2+k*1) _ e3 ?_;refine G.c call31 (Eh htw.tx) ?_;intro v5 u5 l5 k5;obtain ⟨b5,a5,n5,c5,a5',n5',c5',rfl,_,k5n,k5d⟩:=k5.opn;have hd:=htw.den;have hnum:=htw.num;generalize A[i][k]=x at *
    obtain ⟨hd0,hd12⟩:=leW hd;obtain ⟨hq0,hq12⟩:=leW hq;have hfq:=hf.mono ((l3.trans l4).trans l5);refine G.c call169 (Nn hfq k5d (Nat.le_trans (nl1 (by omega)) (by omega)) (Nat.le_trans (nl1 (by omega)) (by omega)) (by omega)) ?_;rintro v6 u6 l6 ⟨x6,y6,rfl,k6,k6'⟩;obtain ⟨f6,rfl⟩:=k6.opB;obtain ⟨f6',rfl⟩:=k6'.opB;have e6:((q:Int)).tdiv (x.den:Int)=((q / x.den:Nat):Int):=by
     rw [Int.tdiv_eq_ediv_of_nonneg (by omega)]; rfl
    rw [e6] at k6;have hdd:q / x.den≤q:=Nat.div_le_self _ _;refine G.c call85 (En (k5n.mono l6) k6 (Nat.le_trans (nl1 (by omega)) (by omega)) (Nat.le_trans (nlN (by omega)) (by omega))) ?_;intro v7 u7 l7 k7;obtain ⟨f7,rfl⟩:=k7.opB;have hmul:(x.num*((q / x.den:Nat):Int)).natAbs≤15000000*4320:=by
     rw [Int.natAbs_mul,Int.natAbs_natCast];exact Nat.mul_le_mul hnum (by omega)
    refine G.c call174 (Ng k7 (Nat.le_trans (nlM (by omega)) (by omega))) ?_;rintro v8 u8 l8 rfl;have hdg:Lib.nDigits (x.num*((q / x.den:Nat):Int)).natAbs≤11:=Am1 (by omega);generalize Lib.nDigits (x.num*((q / x.den:Nat):Int)).natAbs=D at *
    have hnD:n*D≤12*11:=Nat.mul_le_mul hn hdg;refine G.mul (n:Int) (D:Int) ((n*D:Nat):Int) (by kernel_rfl) (by rw [Int.natCast_mul]) (by omega) (by omega) ?_;refine G.gF ((n*D:Nat):Int) 600 ?_;refine G.i k ?_;exact G.b (hJ2 (k+1) _ _ _ cv ((((l4.trans l5).trans l6).trans l7).trans l8) ⟨by omega,rfl⟩ (by omega))
   ·refine G.lF (k:Int) (w:Int) ?_;refine G.i i ?_;exact G.b (hJ (i+1) _ _ _ cv (l3.trans l4) ⟨by omega,rfl⟩ (by omega))
  ·refine G.lF (i:Int) (A.length:Int) ?_;refine G.gF (n:Int) 600 ?_;exact G.r (.bool false) ⟨rfl,rfl⟩
end
section
variable {X:List (List Rat)}
def Abv (n:Nat)(X:List (List Rat))(y:Nat→Rat):Prop:=∀ i,i < n→Dm n (fun j=>en X i j*y j)=en X i n
theorem Acd {n w r p:Nat}(h:Rec n w X)(hw:n≤w)(hr:r < n)(hp:p < n)(hrp:r≤p)(h0:en X p r≠0)(hu:∀ i j,i < n→j < r→en X i j=if i=j then 1 else 0) :
  ∀ i j,i < n→j < r+1→en (Li X r r p) i j=if i=j then 1 else 0:=by
 intro i j hi hj;unfold Li;rw [h.1];have hY:Rec n w (if p=r then X else H1 X p r):=by
  split
  ·exact h
  ·exact Lr h hp hr
 have hYe:∀ i j,en (if p=r then X else H1 X p r) i j=if i=r then en X p j else if i=p then en X r j else en X i j:=fun i j=>by
  split
  ·rename_i e;subst e;split
   ·rename_i e; rw [e]
   ·rfl
  ·rw [Q6 h hp hr]
 rw [Abe hr (by omega) n 0 _ (by omega) (Rf hY hr) i j (by omega),Lu hY hr i j,Lu hY hr i r,Lu hY hr r j,if_pos rfl,hYe i j,hYe i r,hYe r j,hYe r r,if_pos rfl,if_pos rfl];have e1:en X p r*(1 / en X p r)=1:=by grind
 generalize 1 / en X p r=q at *
 by_cases ei:i=r
 ·rw [if_neg (by omega),if_pos ei,if_pos ei];by_cases ej:j=r
  ·rw [ej,ei,if_pos rfl,e1]
  ·rw [hu p j hp (by omega),if_neg (by omega),if_neg (by omega)]; grind
 ·rw [if_pos ⟨by omega,by omega,ei⟩,if_neg ei,if_neg ei,if_neg ei,if_neg ei];by_cases ej:j=r
  ·subst ej;rw [if_neg ei];generalize (if i=p then en X j j else en X i j)=t;rw [show t - t*(en X p j*q)=t - t*(en X p j*q) from rfl,e1]; grind
  ·rw [hu p j hp (by omega),if_neg (show ¬ p=j by omega)];by_cases ep:i=p
   ·rw [if_pos ep,hu r j hr (by omega),if_neg (show ¬ r=j by omega),if_neg (show ¬ i=j by omega)]; grind
   ·rw [if_neg ep,hu i j hi (by omega)]; grind
theorem Aiq (n:Nat)(a b y:Nat→Rat)(t:Rat):Dm n (fun j=>(a j - t*b j)*y j)=Dm n (fun j=>a j*y j) - t*Dm n (fun j=>b j*y j):=by
 rw [← Nr,← Ri]; exact Er fun j _=>by grind
theorem Agx (n:Nat)(b y:Nat→Rat)(q:Rat):Dm n (fun j=>(b j*q)*y j)=q*Dm n (fun j=>b j*y j):=by
 rw [← Nr]; exact Er fun j _=>by grind
theorem Agn {n r c p:Nat}{y:Nat→Rat}(h:Rec n (n+1) X)(hr:r < n)(hp:p < n)(hc:c < n)(h0:en X p c≠0)(hs:Abv n (Li X r c p) y):Abv n X y:=by
 have hY:Rec n (n+1) (if p=r then X else H1 X p r):=by
  split
  ·exact h
  ·exact Lr h hp hr
 have hYe:∀ i j,en (if p=r then X else H1 X p r) i j=if i=r then en X p j else if i=p then en X r j else en X i j:=fun i j=>by
  split
  ·rename_i e;subst e;split
   ·rename_i e; rw [e]
   ·rfl
  ·rw [Q6 h hp hr]
 have hst:∀ k j,k < n→j < n+1→en (Li X r c p) k j=if k=r then en X p j*(1 / en X p c) else (if k=p then en X r j else en X k j) - (if k=p then en X r c else en X k c)*(en X p j*(1 / en X p c)):=by
  intro k j hk hj;unfold Li;rw [h.1,Abe hr (by omega) n 0 _ (by omega) (Rf hY hr) k j hj,Lu hY hr k j,Lu hY hr k c,Lu hY hr r j,if_pos rfl,hYe k j,hYe k c,hYe r j,hYe r c,if_pos rfl,if_pos rfl];by_cases e:k=r
  ·rw [if_neg (by omega),if_pos e,if_pos e,if_pos e]
  ·rw [if_pos ⟨by omega,by omega,e⟩,if_neg e,if_neg e,if_neg e,if_neg e,if_neg e]
 have e1:en X p c*(1 / en X p c)=1:=by grind
 generalize 1 / en X p c=q at *
 have hrow:Dm n (fun j=>en X p j*y j)=en X p n:=by
  have h1:=hs r hr;rw [Er (g:=fun j=>(en X p j*q)*y j) fun j hj=>by rw [hst r j hr (by omega),if_pos rfl],hst r n hr (by omega),if_pos rfl,Agx] at h1;generalize Dm n (fun j=>en X p j*y j)=S at *
  have:en X p c*(q*S)=en X p c*(en X p n*q):=by rw [h1]
  grind
 have hoth:∀ k,k < n→k≠r→Dm n (fun j=>(if k=p then en X r j else en X k j)*y j)=if k=p then en X r n else en X k n:=by
  intro k hk hkr;have h1:=hs k hk;rw [Er (g:=fun j=>((if k=p then en X r j else en X k j) - ((if k=p then en X r c else en X k c)*q)*en X p j)*y j) fun j hj=>by rw [hst k j hk (by omega),if_neg hkr]; grind,hst k n hk (by omega),if_neg hkr,Aiq,hrow] at h1;grind
 intro i hi;by_cases ei:i=p
 ·rw [ei]; exact hrow
 ·by_cases er:i=r
  ·have h1:=hoth p hp (fun e=>ei (by rw [er,e]));rw [er]; simpa using h1
  ·have h1:=hoth i hi er;simpa [ei] using h1
theorem Xx {n:Nat}:∀ f c P X d,c+f=n→P.length=c→Rec n (n+1) X→(∀ i j,i < n→j < c→en X i j=if i=j then 1 else 0) →
  ¬ (By f c P X d).1.length < n→Abv n X (fun i=>en (By f c P X d).2.1 i n)
 | 0,c,P,X,d,hc,hP,h,hu,hl=>by
  have e0:By 0 c P X d=(P,X,d):=rfl;rw [e0];intro i hi;have:∀ m,m≤n→Dm m (fun j=>en X i j*en X j n)=if i < m then en X i n else 0:=by
   intro m;induction m with
   | zero=>intro _; rw [Pb,if_neg (by omega)]
   | succ m ih =>
    intro hm;rw [F0,ih (by omega),hu i m hi (by omega)];by_cases e1:i < m
    ·rw [if_pos e1,if_neg (by omega),if_pos (by omega)]; grind
    ·by_cases e2:i=m
     ·rw [if_neg e1,if_pos e2,if_pos (by omega),← e2]; grind
     ·rw [if_neg e1,if_neg e2,if_neg (by omega)]; grind
  rw [this n (Nat.le_refl _),if_pos hi]
 | f+1,c,P,X,d,hc,hP,h,hu,hl=>by
  revert hl
  unfold By;rw [if_pos (show P.length < X.length by rw [h.1]; omega)];obtain ⟨p1,p2⟩:=S0 X c (X.length - P.length) P.length;have p4:=X6 X c (X.length - P.length) P.length;generalize Ee X c (X.length - P.length) P.length=p at *
  split
  ·intro hl;have:=Sg f (c+1) P X d;omega
  ·rename_i hpx;intro hl;have hx:=h.1;have hpn:p < n:=by omega
   have h0:=p4 (by omega);rw [hP] at hl ⊢;have hu':=Acd h (by omega) (show c < n by omega) hpn (by omega) h0 hu;exact Agn h (by omega) hpn (by omega) h0 (Xx f (c+1) (P++[c]) (Li X c c p) _ (by omega) (by simp [hP]) (Yh h (by omega) hpn) hu' hl)
end
end Go.Proofs.YtanfagpabkdmiaaGreatDoor
