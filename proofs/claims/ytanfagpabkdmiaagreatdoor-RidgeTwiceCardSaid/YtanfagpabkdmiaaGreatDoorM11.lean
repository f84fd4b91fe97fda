/- Parts of one proof, joined by a program. -/
import Derived.Test.YtanfagpabkdmiaaGreatDoorM10
set_option linter.unusedVariables false
set_option linter.unusedSimpArgs false
set_option linter.unusedSectionVars false
set_option maxHeartbeats 16000000
namespace Go.Proofs.YtanfagpabkdmiaaGreatDoor
open Go.Proofs.Tryz
open Go.RowKit Go.MapKept
open _root_.Array renaming getD_eq_getD_getElem? -> A1f, getElem?_append_left -> A5q, getElem?_modify -> A70, length_toList -> A29, range -> A6d, size_modify -> A8z
open Bool renaming and_eq_true -> A05
open Int renaming natAbs_mul -> A30, toNat_natCast -> A22
open List renaming Sublist.append_left -> A36, append_assoc -> A1j, append_nil -> A1i, cons.inj -> A8w, filter_append -> Baz, filter_cons_of_neg -> A9i, filter_cons_of_pos -> A9h, getD_eq_getElem?_getD -> A0o, getElem?_append_left -> A1d, getElem?_append_right -> A1s, getElem?_eq_getElem -> A0n, getElem?_eq_some_iff -> A0s, getElem?_map -> A0v, getElem?_toArray -> A2x, getElem_mem -> A04, getElem_of_mem -> A19, length_append -> A0z, length_cons -> A2n, length_filter_le -> A92, length_map -> A0p, length_set -> A3u, length_singleton -> A2o, length_take -> A00, map_append -> A07, map_cons -> A1y, map_map -> A9e, mem_append -> A01, mem_append_left -> A24, mem_cons -> A02, mem_cons_of_mem -> A1w, mem_cons_self -> A3r, mem_filter -> A6v, mem_map -> A0u, mem_of_getElem? -> A1b, nodup_append -> A3w, pairwise_append -> A3a, range -> A1q, range_succ -> A6y, rel_of_pairwise_cons -> A2h, replicate -> A0x, set_append_left -> A78, set_cons_succ -> A2c, sublist_cons_self -> A4d, take_add_one -> A1c, take_length -> A1k, take_of_length_le -> A03
open Nat renaming add_mul -> A1o, beq -> A17, div_eq_of_lt -> A4a, div_le_self -> A3v, eq_zero_or_pos -> A1p, le_refl -> A0w, le_trans -> A0q, lt_of_lt_of_le -> A2e, lt_or_ge -> A11, mul_comm -> A10, mul_le_mul_right -> A12, mul_pos -> A5h, one_mul -> A3d, pow_le_pow_right -> A1l, zero_add -> A2b, zero_le -> A1m, zero_mul -> A4p
open Option renaming getD_some -> A2y, map_some -> A3h, some.inj -> A2d, some.injEq -> A0t
open Prod renaming mk.injEq -> A1r
open Rat renaming divInt -> A2m, divInt_eq_div -> A4h, intCast_add -> A48, intCast_le_intCast -> A3t, intCast_mul -> A23, intCast_natCast -> A2j, intCast_neg -> A6x, intCast_sub -> Bbw, le_refl -> Bbd, le_total -> A8c, mul_eq_zero -> A6c, mul_nonneg -> A2f, natCast_add -> A60, natCast_mul -> A6b
open Value renaming cells -> A1e, slice -> A06, string -> Baq
section
abbrev E7:Type:=List (List UInt8)×Nat×(Option Addr×Nat)
def Id (y:E7):Value:=.agg #[.slice y.2.2.1 y.1.length y.2.2.2,.int .i64 (y.2.1:Int)]
theorem Z0 (x:E7):A3 2 [Id x]:=by
 intro e he;simp at he;subst he;exact⟨rfl,fun y hy=>by simp[Id,A1e]at hy;rcases hy with rfl|rfl<;>rfl⟩
def Ale (a:Option Addr)(c:Nat)(L:List E7):Arr:=⟨.slice a L.length c,72,2,L.map Id⟩
theorem Al9 {a:Option Addr}{c:Nat}{L:List E7}{m0 m:PH}:(Ale a c L).At m0 m=Ae m0 m (.slice a L.length c) 72 2 (L.map Id):=rfl
def WOK (u:PH)(T:List (List UInt8×Nat))(L:List E7):Prop:=∀ y∈L,Ab u (.slice y.2.2.1 y.1.length y.2.2.2) 1 (y.1.map nmV)/\Cr T y.1/\1<=y.2.1/\y.2.1<=7
theorem WOK.mono {u u':PH}{T:List (List UInt8×Nat)}{L:List E7}(h:WOK u T L)(hl:PH.le u u'):WOK u' T L:=fun y hy=>⟨(h y hy).1.mono hl,(h y hy).2⟩
theorem Acr {u:PH}{s:Src}{ts:List Int}{k most:Nat}{v:Value}{T:List (List UInt8×Nat)}{R:List Bk}{F:List Ao}{lab:Int}(h:Aq7 u s ts)(hk:k<=s.n)(hX:F1 u v T R F lab)(ok:Bn u T R F lab)(hm:most<=100) :
 Ai prog 46 [s.ptr,v,.int .i64 (most:Int)] u (s.M k) fun r u' m'=>∃ (L:List E7) (k':Nat),Ab u' r 2 (L.map Id)/\L.length<=most/\WOK u' T L/\k'<=s.n/\m'=s.M k':=by
 obtain⟨xa,xc,xb,xd,xe,xf,rfl,hTL,hRL,hFL⟩:=id hX;have t2:=ok.t2;refine Ai.o func46 ?_;refine G.i most ?_;refine G.A call73 (Ia (n:=most+1) h hk oV oV) ?_;rintro v1 u1 m1 l1 ⟨r,k1,rfl,hr,hk1,rfl⟩ _;rw[C2];refine G.l (ι:=Nat×Nat×List E7×(Option Addr×Nat)) (fun i=>[(0,.v s.ptr),(4,.p 0 0),(7,sV i.2.2.2.1 i.2.2.1.length i.2.2.2.2),(8,iV i.1)])
  (fun _=>[(0,⟨31,[sV xa T.length xc,sV xb R.length xd,sV xe F.length xf,iV lab]⟩)])
  (fun i u' m'=>i.1+i.2.2.1.length=r/\i.2.1<=s.n/\WOK u' T i.2.2.1/\Bag m' [s.arr i.2.1,Ale i.2.2.2.1 i.2.2.2.2 i.2.2.1])
  (fun i=>i.1) (r,k1,[],(none,0))
  ⟨rfl,hk1,fun y hy=>by simp at hy,s.bag0 k1 ⟨PH.mt,Ae.nil _ _ _,trivial⟩⟩ ?_
 rintro J ⟨i,k2,L,⟨na,nc⟩⟩ hJ u2 m2 l2 ⟨hi,hk2,hW,hbag⟩;simp only at hi hk2 hW hbag hJ;have le2:=l1.trans l2;obtain⟨m0,hsrc,hL⟩:=hbag;obtain⟨rfl,hg0⟩:=Src.split hsrc;by_cases hlt:0<i
 ·refine G.gT (i:Int) 0 ?_;refine G.D call103 (Src.apart hg0) (Af2 (w:=.slice xb R.length xd) (x:=.slice xe F.length xf) (y:=.int .i64 lab) (h.mono le2) hk2 (hTL.mono le2) oV ok.att.kind ⟨_,_,_,rfl⟩ ⟨_,_,_,rfl⟩ ⟨_,rfl⟩) ?_;rintro v3 u3 m3 l3 ⟨ss,k3,hS,hSl,hSv,hk3,rfl⟩ _;obtain⟨ya,yc,rfl⟩:=hS.opn;rw[A0p]at hS⊢;refine G.buildU 3 1 8 (.int .i64 0) (Dx [1,1,2,7]) kV (K9 _) rfl oV (by simp[Dx]) (by simp[Dx]) ?_;intro g4 u4 l4 e4;refine G.D call104 (Src.apart hg0) (Za (L:=[1,1,2,7]) (h.mono ((le2.trans l3).trans l4)) hk3 e4.listP mV mV) ?_;rintro v5 u5 m5 l5 ⟨z,hz,k5,rfl,hk5,rfl⟩ _;obtain⟨w,rfl,hw1,hw2⟩:∃ w:Nat,z=(w:Int)/\1<=w/\w<=7:=by
   simp at hz;rcases hz with rfl|rfl|rfl
   ·exact⟨1,rfl,oV,oV⟩
   ·exact⟨2,rfl,oV,oV⟩
   ·exact⟨7,rfl,oV,oV⟩
  refine G.B 72 2 32 (.agg #[.slice none 0 0,.int .i64 0]) [.agg #[.slice ya ss.length yc,.int .i64 (w:Int)]] (Z0 (ss,w,ya,yc)) ?_;intro g6 u6 l6 e6;have hbag2:Bag (m0.or (s.M k5)) [s.arr k5,Ale na nc L]:=⟨m0,Src.at hg0,hL⟩;obtain⟨mm,hx0,hput⟩:=hbag2.focus 1 rfl;rw[Al9]at hx0;refine G.k 72 2 32 (.agg #[.slice none 0 0,.int .i64 0]) mm (L.map Id) [Id (ss,w,ya,yc)] (.slice na L.length nc) g6 0 1 1 hx0 e6 (Z0 (ss,w,ya,yc)) ?_;intro v7 m7 hx7;rw[show L.map Id++[Id (ss,w,ya,yc)]=(L++[(ss,w,ya,yc)]).map Id by rw[A07];rfl]at hx7;obtain⟨a7,c7,rfl⟩:=hx7.shape;rw[A0p]at hx7⊢;have hbag3:=hput (Ale a7 c7 (L++[(ss,w,ya,yc)])) m7 hx7;have lx:=((l3.trans l4).trans l5).trans l6;refine G.s (i:Int) 1 ((i-1:Nat):Int) ?_;refine G.b (hJ (i-1,k5,L++[(ss,w,ya,yc)],(a7,c7)) _ _ _ cV (l2.trans lx) ⟨by dsimp only;simp;omega,hk5,?_,hbag3⟩ dV);intro y hy;rcases A01.1 hy with hy|hy
  ·exact hW.mono lx y hy
  ·simp only[List.mem_singleton]at hy;subst hy;exact⟨hS.mono ((l4.trans l5).trans l6),⟨hSl,hSv⟩,hw1,hw2⟩
 ·obtain rfl:i=0:=oV
  refine G.gF ((0:Nat):Int) 0 ?_;refine G.giveP (ma:=m0) (sm:=s.M k2) kV rfl (Src.apart hg0) (s.h0 k k2) ?_;intro u3 l3 hm3;exact G.r (.slice na L.length nc) ⟨L,k2,hL.list hm3 0 rfl,oV,hW.mono l3,hk2,rfl⟩
end
section
theorem Awv {u:PH}{v v':Value}{T:List (Par×Rat)}(h:Ab u v 3 (T.map A5))(h':Ab u v' 3 (T.map A5))(hl:T.length<=1000000) :
 Fn0 prog 37 [v,v'] u fun r _=>r=.bool true:=by
 obtain⟨a,c,rfl⟩:=h.opn;obtain⟨a',c',rfl⟩:=h'.opn;rw[A0p]at h h'⊢;refine Fn0.o func37 ?_;refine G.nF (T.length:Int) (T.length:Int) ?_;refine G.l (ι:=Nat) (fun i=>[(0,sV a T.length c),(1,sV a' T.length c'),(12,iV T.length),(13,iV i)]) (fun _=>[])
  (fun i u' m'=>i<=T.length/\m'=PH.mt) (fun i=>T.length-i) 0 ⟨oV,rfl⟩ ?_
 rintro J i hJ u1 m1 l1 ⟨hi,rfl⟩;by_cases hlt:i<T.length
 ·refine G.lT (i:Int) (T.length:Int) ?_;have hTi:T[i]?=some T[i]:=A0n hlt;obtain⟨ba,oa,rfl,ea⟩:=Ab.at' (h.mono l1) (j:=i) (e:=A5 T[i]) (by simp[hTi]);obtain⟨bb,ob,rfl,eb⟩:=Ab.at' (h'.mono l1) (j:=i) (e:=A5 T[i]) (by simp[hTi]);refine G.a ba oa T.length c i 3 oV ?_;refine G.lU (some 3) ba (oa+i*3) (A5 T[i]) ea ?_;refine G.a bb ob T.length c' i 3 oV ?_;refine G.lU (some 3) bb (ob+i*3) (A5 T[i]) eb ?_;refine G.neAgg 81 #[.int .i64 T[i].1.1,.string (mkS T[i].1.2),.string (mkS (Af T[i].2))] #[.int .i64 T[i].1.1,.string (mkS T[i].1.2),.string (mkS (Af T[i].2))] true kV kV kV (Azm T[i]) ?_;refine G.i i ?_;exact G.b (hJ (i+1) _ _ _ cV l1 ⟨oV,rfl⟩ oV)
 ·obtain rfl:i=T.length:=oV
  refine G.lF (T.length:Int) (T.length:Int) ?_;exact G.r (.bool true) ⟨rfl,rfl⟩
end
section
end
section
variable {F:List Ao}{R:List Bk}{T:List (List UInt8×Nat)}{lab:Int}{u:PH}
theorem Iv {α:Type}{p:List α->Prop}(h0:p [])(h1:∀ l a,p l->p (l++[a]))(l:List α):p l:=by
 have:∀ r:List α,p r.reverse:=fun r=>by
  induction r with
  |nil=>exact h0
  |cons a r ih=>rw[List.reverse_cons];exact h1 _ _ ih
 have:=this l.reverse;rwa[List.reverse_reverse]at this
noncomputable def C8 (F:List Ao)(lab:Int)(L:List E7):CF:=L.foldl (fun C y=>C.add ((cfT F lab y.1).scale (y.2.1:Rat))) (CF.num 0)
theorem F5 (F:List Ao)(lab:Int)(L:List E7)(y:E7):C8 F lab (L++[y])=(C8 F lab L).add ((cfT F lab y.1).scale (y.2.1:Rat)):=by
 unfold C8;rw[List.foldl_append];rfl
theorem Akk {w:Nat}(h:w<=7):Dn 0 7 (w:Rat):=⟨(w:Int),by simp[A2j],by simpa using h⟩
theorem Ag1 {ss:List (List UInt8)}(ok:Bn u T R F lab)(ht:Cr T ss):CFD (2*T.length) (46656^T.length) (cfT F lab ss)/\CFV (cfT F lab ss):=by
 have hsm:=Kt ok ht;have hl:(Em F lab ss).length=T.length:=by rw[F3];exact ht.len
 have:=Nu hsm (Em F lab ss).length (A0w _);rw[A1k,hl]at this;exact this
theorem Wr (ok:Bn u T R F lab):∀ {L:List E7},(∀ y∈L,Cr T y.1/\y.2.1<=7)->CFD (2*T.length) (L.length*(46656^T.length*7)) (C8 F lab L)/\CFV (C8 F lab L):=by
 intro L;induction L using Iv with
 |h0=>exact fun _=>⟨CFD.count (Dn.zero _ _),CFV.count 0⟩
 |h1 L y ih =>
  intro h;obtain⟨i1,i2⟩:=ih fun z hz=>h z (A24 _ hz);obtain⟨h1,h2⟩:=h y mV;obtain⟨c1,c2⟩:=Ag1 ok h1;rw[F5];refine⟨?_,i2.add (c2.scale _)⟩;have:=i1.add (c1.scale (Akk h2));rw[A0z,A2o,A1o,A3d];exact this
end
section
end
section
variable {F:List Ao}{T:List (List UInt8×Nat)}{lab:Int}
theorem An7 {ss:List (List UInt8)}(hF:Dk T F lab)(ht:Cr T ss)(h1:-1<=lab)(h2:∀ l:Nat,lab=(l:Int)->l<ss.length) :
 ((cfT F lab ss).c=1/\∀ p q,(cfT F lab ss).t (Ap p q)=(cfT F lab ss).s p*(cfT F lab ss).s q)\/((cfT F lab ss).c=0/\(∀ p,(cfT F lab ss).s p=0)/\∀ k,(cfT F lab ss).t k=0):=by
 cases hc:T4 F lab ss with
 |false=>right;rw[Ajf hF ht h1 h2 hc];exact⟨rfl,fun _=>rfl,fun _=>rfl⟩
 |true =>
  left;have ho:=Ac8 hF ht h1 h2 hc;refine⟨ho.c,fun p q=>?_⟩;rw[ho.t,if_neg (Pl p q)];by_cases h:0<A8 p q
  ·rw[K8 h];grind
  ·rw[Ft h]
theorem Aci (n:Nat):(0:Rat)<=(n:Rat):=by
 have:((0:Nat):Rat)<=(n:Rat):=by exact_mod_cast A1m n
 exact this
theorem An2 (hF:Dk T F lab)(h1:-1<=lab)(h2:∀ l:Nat,lab=(l:Int)->l<T.length):∀ {L:List E7},(∀ y∈L,Cr T y.1/\y.2.1<=7)->∃ k:Nat,(C8 F lab L).c=(k:Rat)/\k<=7*L.length:=by
 intro L;induction L using Iv with
 |h0=>exact fun _=>⟨0,rfl,mV⟩
 |h1 L y ih =>
  intro h;obtain⟨k,hk,hkl⟩:=ih fun z hz=>h z (A24 _ hz);obtain⟨hy,hw⟩:=h y mV;have hlen:=hy.len;rw[F5];show ∃ k:Nat,(C8 F lab L).c+(cfT F lab y.1).c*(y.2.1:Rat)=(k:Rat)/\_;rw[hk];rw[A0z,A2o];rcases An7 hF hy h1 (fun l hl=>by have:=h2 l hl;omega) with ⟨e1,_⟩|⟨e1,_⟩
  ·exact⟨k+y.2.1,by rw[e1,A60];grind,oV⟩
  ·exact⟨k,by rw[e1];grind,oV⟩
end
section
variable {a b c d:Nat}{q:Rat}
def De (a b:Nat)(q:Rat):Prop:=∃ (k:Int) (D:Nat),q*(D:Rat)=(k:Rat)/\0<D/\k.natAbs<10^a/\D<10^b
theorem Pr {D:Nat}(h:0<D):(D:Rat)≠0:=by
 intro e;have h1:(D:Rat)=((0:Nat):Rat):=e;have:=Rat.natCast_inj.1 h1;omega
theorem De.mono (h:De a b q)(h1:a<=c)(h2:b<=d):De c d q:=by
 obtain⟨k,D,e,h0,h3,h4⟩:=h;exact⟨k,D,e,h0,A2e h3 (A1l oV h1),A2e h4 (A1l oV h2)⟩
theorem Di {x y a b:Nat}(h1:x<10^a)(h2:y<10^b):x*y<10^(a+b):=by
 rw[Nat.pow_add];exact Nat.mul_lt_mul'' h1 h2
theorem De.add {a b c d f:Nat}{q r:Rat}(h:De a b q)(h':De c d r)(h1:a+d<=f)(h2:c+b<=f):De (f+1) (b+d) (q+r):=by
 obtain⟨k,D,e,h0,h3,h4⟩:=h;obtain⟨l,E,e',k0,k3,k4⟩:=h';refine⟨k*(E:Int)+l*(D:Int),D*E,?_,A5h h0 k0,?_,Di h4 k4⟩
 ·rw[A48,A23,A23,<-e,<-e',A6b,A2j,A2j];grind
 ·have g1:(k*(E:Int)).natAbs<10^f:=by
   rw[A30];exact A2e (Di h3 (by simpa using k4)) (A1l oV h1)
  have g2:(l*(D:Int)).natAbs<10^f:=by
   rw[A30];exact A2e (Di k3 (by simpa using h4)) (A1l oV h2)
  rw[Nat.pow_succ];omega
theorem De.nat {a n:Nat}(h:n<10^a):De a 1 (n:Rat):=⟨(n:Int),1,by rw[A2j];show (n:Rat)*1=_;grind,oV,by simpa using h,oV⟩
theorem De.frac (h:De a b q):q.num.natAbs<10^a/\q.den<10^b:=by
 obtain⟨k,D,h1,hp,hk,hD⟩:=h;have hq:q=A2m k (D:Int):=by
  rw[A4h,A2j,<-h1];have:=Pr hp;grind
 obtain⟨e1,e2,e3⟩:=Ju (y:=k) (z:=(D:Int)) oV;rw[hq];constructor
 ·rw[e1,Int.natAbs_tdiv];exact Nat.lt_of_le_of_lt (A3v _ _) hk
 ·have h2:((A2m k (D:Int)).den:Int)<=(D:Int):=by
   rw[e2,show ((D:Int)).natAbs=D from rfl,Int.tdiv_eq_ediv_of_nonneg oV,<-Int.natCast_ediv];exact Int.ofNat_le.2 (A3v _ _)
  omega
theorem De.tx (h:De a b q)(ha:0<a)(ha2:a<=400)(hb:0<b)(hb2:b<=400):Tx q:=by
 obtain⟨h1,h2⟩:=h.frac;exact⟨A0q (Ed ha h1) ha2,A0q (Ed hb h2) hb2⟩
theorem De.szn (h:De a b q)(ha:0<a)(ha2:a<=400)(hb:0<b)(hb2:b<=400):Sz q 400:=(h.tx ha ha2 hb hb2).sz
end
section
variable {H:CF}
def Au {α:Type}(f:α->Rat):List α->Rat
 |[]=>0
 |a::l=>f a+Au f l
section
variable {α β:Type} {f g:α->Rat}
theorem P8:∀ (l l':List α),Au f (l++l')=Au f l+Au f l'
 |[],l'=>by show Au f l'=0+Au f l';grind
 |a::l,l'=>by show f a+Au f (l++l')=f a+Au f l+Au f l';rw[P8 l l'];grind
theorem Iu (l:List α)(a:α):Au f (l++[a])=Au f l+f a:=by
 rw[P8];show _+(f a+0)=_;grind
theorem Bb:∀ {l:List α},(∀ a∈l,f a=g a)->Au f l=Au g l
 |[],_=>rfl
 |a::l,h=>by
  show f a+Au f l=g a+Au g l;rw[h a (A3r ..),Bb fun x hx=>h x (A1w _ hx)]
theorem D1:∀ (l:List α),Au (fun a=>f a+g a) l=Au f l+Au g l
 |[]=>by show (0:Rat)=0+0;grind
 |a::l=>by show f a+g a+Au (fun a=>f a+g a) l=(f a+Au f l)+(g a+Au g l);rw[D1 l];grind
theorem Ej (k:Rat):∀ (l:List α),Au (fun a=>f a*k) l=Au f l*k
 |[]=>by show (0:Rat)=0*k;grind
 |a::l=>by show f a*k+Au (fun a=>f a*k) l=(f a+Au f l)*k;rw[Ej k l];grind
theorem Dr (k:Rat)(l:List α):Au (fun a=>k*f a) l=k*Au f l:=by
 rw[show (fun a=>k*f a)=fun a=>f a*k from funext fun a=>by grind,Ej];grind
theorem Bv:∀ {l:List α},(∀ a∈l,f a=0)->Au f l=0
 |[],_=>rfl
 |a::l,h=>by
  show f a+Au f l=0;rw[h a (A3r ..),Bv fun x hx=>h x (A1w _ hx)];grind
theorem On (h:β->α):∀ (l:List β),Au f (l.map h)=Au (fun b=>f (h b)) l
 |[]=>rfl
 |a::l=>by show f (h a)+Au f (l.map h)=f (h a)+Au (fun b=>f (h b)) l;rw[On h l]
end
def Ak (P:List Par):List (Option Par):=none::P.map some
def Aq:Par:=(-1,[])
def As (C:CF):Option Par->Option Par->Rat
 |none,none=>C.c
 |none,some p=>C.s p
 |some p,none=>C.s p
 |some p,some q=>C.t (Ap p q)
def Ay (C:CF):Option Par->Rat
 |none=>C.s Aq
 |some p=>C.t (Ap Aq p)
def Bm (b:Option Par->Rat)(P:List Par)(C:CF):Rat:=Au (fun e=>Au (fun f=>b e*As C e f*b f) (Ak P)) (Ak P)
def Kf (b:Option Par->Rat)(P:List Par)(C:CF):Rat:=C.s Aq-Au (fun e=>b e*As C none e) (Ak P)
def sqC (b:Option Par->Rat)(P:List Par)(C:CF):Rat:=Bm b P C+C.t (Ap Aq Aq)-2*Au (fun e=>b e*Ay C e) (Ak P)
theorem Vv (C H:CF)(w:Rat)(e f:Option Par):As (C.add (H.scale w)) e f=As C e f+As H e f*w:=by
 cases e<;>cases f<;>rfl
theorem T2 (C H:CF)(w:Rat)(e:Option Par):Ay (C.add (H.scale w)) e=Ay C e+Ay H e*w:=by
 cases e<;>rfl
theorem Uu (b:Option Par->Rat)(P:List Par)(C H:CF)(w:Rat):Bm b P (C.add (H.scale w))=Bm b P C+Bm b P H*w:=by
 unfold Bm;rw[<-Ej w,<-D1];refine Bb fun e _=>?_;rw[<-Ej w,<-D1];refine Bb fun f _=>?_;rw[Vv];grind
theorem Alu (b:Option Par->Rat)(P:List Par)(C H:CF)(w:Rat):sqC b P (C.add (H.scale w))=sqC b P C+sqC b P H*w:=by
 unfold sqC;have e1:Au (fun e=>b e*Ay (C.add (H.scale w)) e) (Ak P)=Au (fun e=>b e*Ay C e) (Ak P)+Au (fun e=>b e*Ay H e) (Ak P)*w:=by
  rw[<-Ej w,<-D1];exact Bb fun e _=>by rw[T2];grind
 rw[e1,Uu];show _+(C.t (Ap Aq Aq)+H.t (Ap Aq Aq)*w)-_=_;grind
def Ua (b:Option Par->Rat)(P:List Par)(x:Par->Rat):Rat:=b none+Au (fun p=>b (some p)*x p) P
def Afw (x:Par->Rat):Option Par->Rat
 |none=>1
 |some p=>x p
theorem Sm (b:Option Par->Rat)(P:List Par)(x:Par->Rat):Au (fun e=>b e*Afw x e) (Ak P)=Ua b P x:=by
 unfold Ak Ua;show b none*1+Au _ (P.map some)=_;rw[On];show b none*1+Au (fun p=>b (some p)*x p) P=_;grind
structure Ws (H:CF):Prop where
 c:H.c=1
 t:∀ p q,H.t (Ap p q)=H.s p*H.s q
theorem Ws.cell (h:Ws H)(e f:Option Par):As H e f=Afw H.s e*Afw H.s f:=by
 cases e<;>cases f
 ·show H.c=1*1;rw[h.c];grind
 ·show H.s _=1*H.s _;grind
 ·show H.s _=H.s _*1;grind
 ·exact h.t _ _
theorem Ws.right (h:Ws H)(e:Option Par):Ay H e=H.s Aq*Afw H.s e:=by
 cases e
 ·show H.s Aq=H.s Aq*1;grind
 ·exact h.t _ _
theorem Ws.norm (h:Ws H)(b:Option Par->Rat)(P:List Par):Bm b P H=Ua b P H.s*Ua b P H.s:=by
 unfold Bm;have e1:∀ e,Au (fun f=>b e*As H e f*b f) (Ak P)=(b e*Afw H.s e)*Ua b P H.s:=fun e=>by
  rw[<-Sm,<-Dr];exact Bb fun f _=>by rw[h.cell];grind
 rw[Bb fun e _=>e1 e,Ej,Sm]
theorem Ws.sq (h:Ws H)(b:Option Par->Rat)(P:List Par):sqC b P H=(H.s Aq-Ua b P H.s)*(H.s Aq-Ua b P H.s):=by
 unfold sqC;have e1:Au (fun e=>b e*Ay H e) (Ak P)=H.s Aq*Ua b P H.s:=by
  rw[<-Sm,<-Dr];exact Bb fun e _=>by rw[h.right];grind
 rw[h.norm,e1,h.t];grind
structure Yg (H:CF):Prop where
 c:H.c=0
 s:∀ p,H.s p=0
 t:∀ k,H.t k=0
theorem Yg.cell (h:Yg H)(e f:Option Par):As H e f=0:=by
 cases e<;>cases f
 ·exact h.c
 ·exact h.s _
 ·exact h.s _
 ·exact h.t _
theorem Yg.norm (h:Yg H)(b:Option Par->Rat)(P:List Par):Bm b P H=0 :=
 Bv fun e _=>Bv fun f _=>by rw[h.cell];grind
theorem Yg.sq (h:Yg H)(b:Option Par->Rat)(P:List Par):sqC b P H=0:=by
 unfold sqC;have e1:Au (fun e=>b e*Ay H e) (Ak P)=0:=Bv fun e _=>by
  cases e
  ·show b none*H.s Aq=0;rw[h.s];grind
  ·show b _*H.t _=0;rw[h.t];grind
 rw[h.norm,h.t,e1];grind
theorem L9 {T:List (List UInt8×Nat)}{F:List Ao}{lab:Int}{ss:List (List UInt8)}(hF:Dk T F lab)(ht:Cr T ss)(h1:-1<=lab)(h2:∀ l:Nat,lab=(l:Int)->l<ss.length) :
 (T4 F lab ss=true/\Ws (cfT F lab ss))\/(T4 F lab ss=false/\Yg (cfT F lab ss)):=by
 cases hc:T4 F lab ss with
 |false=>right;rw[Ajf hF ht h1 h2 hc];exact⟨rfl,rfl,fun _=>rfl,fun _=>rfl⟩
 |true =>
  left;have ho:=Ac8 hF ht h1 h2 hc;refine⟨rfl,ho.c,fun p q=>?_⟩;rw[ho.t,if_neg (Pl p q)];by_cases h:0<A8 p q
  ·rw[K8 h];grind
  ·rw[Ft h]
end
section
variable {F:CF}{N:Nat}{u:PH}{v:Value}
theorem Lx (p:Par)(h:Mf u v F N):Fn0 prog 124 [v,An p] u fun r u'=>Av u' r (F.s p):=by
 obtain⟨b,a,n,c,b',a',n',c',g1,g2,o1,o2,rfl,hc,e1,e2,h1,h2⟩:=h;obtain⟨l,ho,hl,hz,_⟩:=h1.at;refine Fn0.o func124 ?_;cases hx:Fi p l with
 |none =>
  refine G.mapNot (et:=116) Bt fz g1 o1 l p kV kV (.inl e1) ho hx ?_;refine G.c call98 (L8 (z:=0) oV oV) ?_;intro v1 u1 l1 k1;rw[hz p (Fz.1 hx)];rw[show ((0:Int):Rat)=0 by decide +kernel]at k1;obtain⟨b1,a1,n1,c1,b1',a1',n1',c1',rfl⟩:=k1.opn;exact G.r (.agg #[.bool b1,.slice a1 n1 c1,.bool b1',.slice a1' n1' c1']) ⟨rfl,k1⟩
 |some xv =>
  have hr:=(hl _ (Hk hx)).1;obtain⟨b1,a1,n1,c1,b1',a1',n1',c1',rfl⟩:=hr.opn;refine G.mapHas (et:=116) Bt fz g1 o1 l p (.agg #[.bool b1,.slice a1 n1 c1,.bool b1',.slice a1' n1' c1']) kV kV (.inl e1) ho hx ?_;exact G.r (.agg #[.bool b1,.slice a1 n1 c1,.bool b1',.slice a1' n1' c1']) ⟨rfl,hr⟩
theorem Oc (p q:Par)(h:Mf u v F N):Fn0 prog 118 [v,An p,An q] u fun r u'=>Av u' r (F.t (Ap p q)):=by
 obtain⟨b,a,n,c,b',a',n',c',g1,g2,o1,o2,rfl,hc,e1,e2,h1,h2⟩:=h;obtain⟨l,ho,hl,hz,_⟩:=h2.at;refine Fn0.o func118 ?_;refine G.c call193 (Apg p q) ?_;rintro v0 u0 l0 rfl;cases hx:Fi (Ap p q) l with
 |none =>
  refine G.mapNot (et:=116) Aiy fz g2 o2 l (Ap p q) kV kV (.inl (l0 _ _ e2)) ho hx ?_;refine G.c call98 (L8 (z:=0) oV oV) ?_;intro v1 u1 l1 k1;rw[hz _ (Fz.1 hx)];rw[show ((0:Int):Rat)=0 by decide +kernel]at k1;obtain⟨b1,a1,n1,c1,b1',a1',n1',c1',rfl⟩:=k1.opn;exact G.r (.agg #[.bool b1,.slice a1 n1 c1,.bool b1',.slice a1' n1' c1']) ⟨rfl,k1⟩
 |some xv =>
  have hr:=(hl _ (Hk hx)).1;obtain⟨b1,a1,n1,c1,b1',a1',n1',c1',rfl⟩:=hr.opn;refine G.mapHas (et:=116) Aiy fz g2 o2 l (Ap p q) (.agg #[.bool b1,.slice a1 n1 c1,.bool b1',.slice a1' n1' c1']) kV kV (.inl (l0 _ _ e2)) ho hx ?_;exact G.r (.agg #[.bool b1,.slice a1 n1 c1,.bool b1',.slice a1' n1' c1']) ⟨rfl,hr.mono l0⟩
theorem Zw {q:Rat}(h:Tx q):Fn0 prog 115 [.string (mkS (Af q))] u fun v _=>v=.int .i64 (sgn q.num):=by
 refine Fn0.o func115 ?_;refine G.c call154 (Aqm h) ?_;rintro v1 u1 l1 rfl;refine G.c call77 (Iy h) ?_;intro v2 u2 l2 k2;obtain⟨b1,a1,n1,c1,b1',a1',n1',c1',rfl⟩:=k2.opn;refine G.c call97 (Vq k2 (A0q h.sz.1 oV)) ?_;rintro v3 u3 l3 rfl;exact G.r _ ⟨rfl,rfl⟩
end
section
variable {C:CF}{k:Nat}
structure Iq (C:CF)(k:Nat):Prop where
 c:C.c=(k:Rat)
 lt:k<100
 s:∀ p,De 39 18 (C.s p)
 t:∀ p,De 39 18 (C.t p)
theorem Iq.tx {C:CF}{k:Nat}(h:Iq C k):Tx C.c:=by
 rw[h.c];exact (De.nat (a:=2) (by have:=h.lt;omega)).tx oV oV oV oV
theorem Iq.cpos (h:Iq C k)(h0:k≠0):0<C.c:=by
 rw[h.c];have h1:=Aci k;refine Rat.lt_of_le_of_ne h1 fun e=>Pr (D:=k) oV e.symm
theorem Iq.csz (h:Iq C k):Sz C.c 1000:=h.tx.sz.mono oV
end
section
variable {C:CF}{N i:Nat}{P:List Par}{b:Option Par->Rat}{e:Option Par}{lv v:Value}{u:PH}
structure Nj (u:PH)(v:Value)(P:List Par)(b:Option Par->Rat):Prop where
 val:∃ a c a' c',v=.agg #[.slice a P.length c,.slice a' (P.length+1) c']/\Ab u (.slice a P.length c) 2 (P.map An)/\M6 u (.slice a' (P.length+1) c') ((Ak P).map b)
theorem Nj.mono {u u':PH}{v:Value}{P:List Par}{b:Option Par->Rat}(h:Nj u v P b)(hl:PH.le u u'):Nj u' v P b:=by
 obtain⟨a,c,a',c',e,h1,h2⟩:=h.val;exact⟨a,c,a',c',e,h1.mono hl,h2.mono hl⟩
theorem Bo (P:List Par):(Ak P).length=P.length+1:=by unfold Ak;simp
theorem Ra (h:(Ak P)[i]?=some e):(i=0/\e=none)\/∃ j p,i=j+1/\P[j]?=some p/\e=some p:=by
 unfold Ak at h;cases i with
 |zero=>simp at h;exact .inl ⟨rfl,h.symm⟩
 |succ j =>
  rw[List.getElem?_cons_succ,A0v]at h;obtain⟨p,hp,rfl⟩:=Option.map_eq_some_iff.1 h;exact .inr ⟨j,p,rfl,hp,rfl⟩
theorem M4 :Fn0 prog 96 [] u fun r _=>r=An Aq:=by
 refine Fn0.o func96 ?_;exact G.r (An Aq) ⟨rfl,rfl⟩
theorem Ir {F:CF}(h:Mf u v F N):∃ b a n c b' a' n' c' g1 g2,v=.agg #[.bool b,.slice a n c,.bool b',.slice a' n' c',.map (some g1),.map (some g2)]/\Av u (.agg #[.bool b,.slice a n c,.bool b',.slice a' n' c']) F.c:=by
 obtain⟨b,a,n,c,b',a',n',c',g1,g2,o1,o2,e,h1,_⟩:=h;exact⟨b,a,n,c,b',a',n',c',g1,g2,e,h1⟩
theorem Sf {N i k:Nat}{e f:Option Par}(hl:Nj u lv P b)(hv:Mf u v C N)(hP:P.length<=1000)(he:(Ak P)[i]?=some e)(hf:(Ak P)[k]?=some f) :
 Fn0 prog 125 [lv,v,.int .i64 (i:Int),.int .i64 (k:Int)] u fun r u'=>Av u' r (As C e f):=by
 obtain⟨pa,pc,ca,cc,rfl,hPL,_⟩:=hl.val;obtain⟨b0,a0,n0,c0,b0',a0',n0',c0',g1,g2,rfl,hc⟩:=Ir hv;refine Fn0.o func125 ?_;rcases Ra he with ⟨rfl,rfl⟩|⟨i,p,rfl,hpi,rfl⟩
 ·refine G.eT' ((0:Nat):Int) 0 rfl ?_;rcases Ra hf with ⟨rfl,rfl⟩|⟨k,q,rfl,hqk,rfl⟩
  ·refine G.eT' ((0:Nat):Int) 0 rfl ?_;exact G.r (.agg #[.bool b0,.slice a0 n0 c0,.bool b0',.slice a0' n0' c0']) ⟨rfl,hc⟩
  ·have hkl:=(A0s.1 hqk).1;refine G.eF ((k+1:Nat):Int) 0 ?_;refine G.eT' ((0:Nat):Int) 0 rfl ?_;refine G.s ((k+1:Nat):Int) 1 (k:Int) ?_;obtain⟨bb,ob,rfl,eb⟩:=Ab.at' hPL (j:=k) (e:=An q) (by simp[hqk]);refine G.a bb ob P.length pc k 2 hkl ?_;refine G.lU (some 2) bb (ob+k*2) (An q) eb ?_;refine G.c call124 (Lx q hv) ?_;intro v1 u1 l1 k1;obtain⟨b1,a1,n1,c1,b1',a1',n1',c1',rfl⟩:=k1.opn;exact G.r (.agg #[.bool b1,.slice a1 n1 c1,.bool b1',.slice a1' n1' c1']) ⟨rfl,k1⟩
 ·have hil:=(A0s.1 hpi).1;obtain⟨bb,ob,rfl,eb⟩:=Ab.at' hPL (j:=i) (e:=An p) (by simp[hpi]);refine G.eF ((i+1:Nat):Int) 0 ?_;refine G.eF ((i+1:Nat):Int) 0 ?_;rcases Ra hf with ⟨rfl,rfl⟩|⟨k,q,rfl,hqk,rfl⟩
  ·refine G.eT' ((0:Nat):Int) 0 rfl ?_;refine G.s ((i+1:Nat):Int) 1 (i:Int) ?_;refine G.a bb ob P.length pc i 2 hil ?_;refine G.lU (some 2) bb (ob+i*2) (An p) eb ?_;refine G.c call124 (Lx p hv) ?_;intro v1 u1 l1 k1;obtain⟨b1,a1,n1,c1,b1',a1',n1',c1',rfl⟩:=k1.opn;exact G.r (.agg #[.bool b1,.slice a1 n1 c1,.bool b1',.slice a1' n1' c1']) ⟨rfl,k1⟩
  ·have hkl:=(A0s.1 hqk).1;obtain⟨b2,o2,e2,eb2⟩:=Ab.at' hPL (j:=k) (e:=An q) (by simp[hqk]);cases e2;refine G.eF ((k+1:Nat):Int) 0 ?_;refine G.s ((i+1:Nat):Int) 1 (i:Int) ?_;refine G.a bb ob P.length pc i 2 hil ?_;refine G.lU (some 2) bb (ob+i*2) (An p) eb ?_;refine G.s ((k+1:Nat):Int) 1 (k:Int) ?_;refine G.a bb ob P.length pc k 2 hkl ?_;refine G.lU (some 2) bb (ob+k*2) (An q) eb2 ?_;refine G.c call118 (Oc p q hv) ?_;intro v1 u1 l1 k1;obtain⟨b1,a1,n1,c1,b1',a1',n1',c1',rfl⟩:=k1.opn;exact G.r (.agg #[.bool b1,.slice a1 n1 c1,.bool b1',.slice a1' n1' c1']) ⟨rfl,k1⟩
theorem Anu (hl:Nj u lv P b)(hv:Mf u v C N)(hP:P.length<=1000)(he:(Ak P)[i]?=some e) :
 Fn0 prog 119 [lv,v,.int .i64 (i:Int)] u fun r u'=>Av u' r (Ay C e):=by
 obtain⟨pa,pc,ca,cc,rfl,hPL,_⟩:=hl.val;obtain⟨b0,a0,n0,c0,b0',a0',n0',c0',g1,g2,rfl,hc⟩:=Ir hv;refine Fn0.o func119 ?_;rcases Ra he with ⟨rfl,rfl⟩|⟨i,p,rfl,hpi,rfl⟩
 ·refine G.eT' ((0:Nat):Int) 0 rfl ?_;refine G.c call96 M4 ?_;rintro v0 u0 l0 rfl;refine G.c call124 (Lx Aq (hv.mono l0)) ?_;intro v1 u1 l1 k1;obtain⟨b1,a1,n1,c1,b1',a1',n1',c1',rfl⟩:=k1.opn;exact G.r (.agg #[.bool b1,.slice a1 n1 c1,.bool b1',.slice a1' n1' c1']) ⟨rfl,k1⟩
 ·have hil:=(A0s.1 hpi).1;obtain⟨bb,ob,rfl,eb⟩:=Ab.at' hPL (j:=i) (e:=An p) (by simp[hpi]);refine G.eF ((i+1:Nat):Int) 0 ?_;refine G.s ((i+1:Nat):Int) 1 (i:Int) ?_;refine G.a bb ob P.length pc i 2 hil ?_;refine G.lU (some 2) bb (ob+i*2) (An p) eb ?_;refine G.c call96 M4 ?_;rintro v0 u0 l0 rfl;refine G.c call118 (Oc Aq p (hv.mono l0)) ?_;intro v1 u1 l1 k1;obtain⟨b1,a1,n1,c1,b1',a1',n1',c1',rfl⟩:=k1.opn;exact G.r (.agg #[.bool b1,.slice a1 n1 c1,.bool b1',.slice a1' n1' c1']) ⟨rfl,k1⟩
end
section
variable {C:CF}{P:List Par}{b:Option Par->Rat}{α:Type}
structure QOK (b:Option Par->Rat)(C:CF):Prop where
 b:∀ e,Sz (b e) 1000
 c:∀ e f,Sz (As C e f) 1000
 r:∀ e,Sz (Ay C e) 1000
 l:Sz (C.t (Ap Aq Aq)) 1000
theorem Om {α:Type}{f:α->Rat}{s:Nat}:∀ {l:List α},(∀ a∈l,Sz (f a) s)->Sz (Au f l) (l.length*(s+1)+1)
 |[],_=>Xv.mono mV
 |a::l,h=>by
  have h1:=Ly (h a (A3r ..)) (Om fun x hx=>h x (A1w _ hx));exact h1.mono (by rw[A2n,A1o];omega)
theorem QOK.half (h:QOK b C)(e f:Option Par):Sz (b e*As C e f) 2000:=In (h.b e) (h.c e f)
theorem QOK.term (h:QOK b C)(e f:Option Par):Sz (b e*As C e f*b f) 3000:=In (h.half e f) (h.b f)
theorem QOK.rt (h:QOK b C)(e:Option Par):Sz (b e*Ay C e) 2000:=In (h.b e) (h.r e)
theorem V7 {l:List α}{f:α->Rat}{s k:Nat}(h:Sz (Au f l) (l.length*(s+1)+1))(hl:l.length<=k):Sz (Au f l) (k*(s+1)+1):=h.mono (by have:=A12 (s+1) hl;omega)
theorem QOK.inner (h:QOK b C)(hP:P.length<=60)(e:Option Par)(l:List (Option Par))(hl:l.length<=61):Sz (Au (fun f=>b e*As C e f*b f) l) 200000 :=
 (V7 (Om fun f _=>h.term e f) hl).mono oV
theorem QOK.outer (h:QOK b C)(hP:P.length<=60)(l:List (Option Par))(hl:l.length<=61):Sz (Au (fun e=>Au (fun f=>b e*As C e f*b f) (Ak P)) l) 20000000 :=
 (V7 (Om fun e _=>h.inner hP e (Ak P) (by rw[Bo];omega)) hl).mono oV
theorem E6 {l:List α}{i:Nat}{x:α}(h:l[i]?=some x):l.take (i+1)=l.take i++[x]:=by rw[A1c,h];rfl
theorem Am3 {u:PH}{lv v:Value}{N:Nat}(hl:Nj u lv P b)(hv:Mf u v C N)(hP:P.length<=60)(hq:QOK b C) :
 Fn0 prog 58 [lv,v] u fun r u'=>Av u' r (Bm b P C):=by
 obtain⟨pa,pc,ca,cc,rfl,hPL,es,hL,hF⟩:=hl.val;have hEl:=Bo P;have hes:es.length=P.length+1:=by rw[hF.1,A0p,hEl]
 obtain⟨b0,a0,n0,c0,b0',a0',n0',c0',g1,g2,rfl,hc⟩:=Ir hv;refine Fn0.o func58 ?_;refine G.c call98 (L8 (z:=0) oV oV) ?_;intro v1 u1 l1 k1;rw[show ((0:Int):Rat)=0 by decide +kernel]at k1;obtain⟨sb,sa,sn,sc,sb',sa',sn',sc',rfl⟩:=k1.opn;refine G.l (ι:=Nat×(Bool×SlI)×(Bool×SlI)) (fun i=>[(2,.p 0 0),(3,.p 1 0),(4,.p 2 0),(5,.p 1001 0),(12,sV ca (P.length+1) cc),(13,iV (P.length+1:Nat)),(14,iV i.1)])
  (fun i=>[(0,⟨126,[sV pa P.length pc,sV ca (P.length+1) cc]⟩),(1,⟨120,[bV b0,sV a0 n0 c0,bV b0',sV a0' n0' c0',.v (.map (some g1)),.v (.map (some g2))]⟩),(2,⟨116,[bV false,sV none 0 0,bV false,sV none 0 0]⟩),(1001,⟨116,[bV i.2.1.1,sV i.2.1.2.1 i.2.1.2.2.1 i.2.1.2.2.2,bV i.2.2.1,sV i.2.2.2.1 i.2.2.2.2.1 i.2.2.2.2.2]⟩)])
  (fun i u' m'=>i.1<=P.length+1/\Av u' (.agg #[.bool i.2.1.1,.slice i.2.1.2.1 i.2.1.2.2.1 i.2.1.2.2.2,.bool i.2.2.1,.slice i.2.2.2.1 i.2.2.2.2.1 i.2.2.2.2.2]) (Au (fun e=>Au (fun f=>b e*As C e f*b f) (Ak P)) ((Ak P).take i.1))/\m'=PH.mt) (fun i=>P.length+1-i.1) (0,(sb,sa,sn,sc),(sb',sa',sn',sc')) ⟨oV,k1,rfl⟩ ?_
 rintro J ⟨i,⟨sb,sa,sn,sc⟩,⟨sb',sa',sn',sc'⟩⟩ hJ u2 m2 l2 ⟨hi,k2,rfl⟩;simp only at hi k2 hJ;have le2:=l1.trans l2;by_cases hlt:i<P.length+1
 ·refine G.lT (i:Int) ((P.length+1:Nat):Int) ?_;obtain⟨e,hEi⟩:∃ e,(Ak P)[i]?=some e:=⟨_,A0n oV⟩;have hout:=hq.outer hP ((Ak P).take i) (by rw[A00];omega);have hstep:Au (fun e=>Au (fun f=>b e*As C e f*b f) (Ak P)) ((Ak P).take (i+1))=Au (fun e=>Au (fun f=>b e*As C e f*b f) (Ak P)) ((Ak P).take i)+Au (fun f=>b e*As C e f*b f) (Ak P):=by rw[E6 hEi,Iu]
  obtain⟨x,hx,hfx⟩:=hF.2 i (b e) (by rw[A0v,hEi];rfl);obtain⟨fb,fo,rfl,ef⟩:=Ab.at' (hL.mono le2) (j:=i) (e:=x) hx;have hfx:=hfx.mono le2;obtain⟨xb,xa,xn,xc,xb',xa',xn',xc',rfl⟩:=hfx.opn;refine G.a fb fo (P.length+1) cc i 4 hlt ?_;refine G.lU (some 4) fb (fo+i*4) (.agg #[.bool xb,.slice xa xn xc,.bool xb',.slice xa' xn' xc']) ef ?_;generalize hS:Au (fun e=>Au (fun f=>b e*As C e f*b f) (Ak P)) ((Ak P).take i)=S at k2 hout hstep;have z0:S+0=S:=by grind
  refine G.l (ι:=Nat×(Bool×SlI)×(Bool×SlI)) (fun n=>[(2,.p 0 0),(3,.p 1 0),(4,.p 2 0),(5,.p 1001 0),(6,iV i),(7,.p 4003 0),(12,sV (some ⟨fb,fo,none⟩) (P.length+1) cc),(13,iV (P.length+1:Nat)),(14,iV i),(20,sV (some ⟨fb,fo,none⟩) (P.length+1) cc),(21,iV (P.length+1:Nat)),(22,iV n.1)])
   (fun n=>[(0,⟨126,[sV pa P.length pc,sV (some ⟨fb,fo,none⟩) (P.length+1) cc]⟩),(1,⟨120,[bV b0,sV a0 n0 c0,bV b0',sV a0' n0' c0',.v (.map (some g1)),.v (.map (some g2))]⟩),(2,⟨116,[bV false,sV none 0 0,bV false,sV none 0 0]⟩),(1001,⟨116,[bV n.2.1.1,sV n.2.1.2.1 n.2.1.2.2.1 n.2.1.2.2.2,bV n.2.2.1,sV n.2.2.2.1 n.2.2.2.2.1 n.2.2.2.2.2]⟩),(4003,⟨116,[bV xb,sV xa xn xc,bV xb',sV xa' xn' xc']⟩)])
   (fun n u' m'=>n.1<=P.length+1/\Av u' (.agg #[.bool n.2.1.1,.slice n.2.1.2.1 n.2.1.2.2.1 n.2.1.2.2.2,.bool n.2.2.1,.slice n.2.2.2.1 n.2.2.2.2.1 n.2.2.2.2.2]) (S+Au (fun f=>b e*As C e f*b f) ((Ak P).take n.1))/\m'=PH.mt) (fun n=>P.length+1-n.1) (0,(sb,sa,sn,sc),(sb',sa',sn',sc')) ⟨oV,by show Av _ _ (S+0);rw[z0];exact k2,rfl⟩ ?_
  rintro J2 ⟨n,⟨tb,ta,tn,tc⟩,⟨tb',ta',tn',tc'⟩⟩ hJ2 u3 m3 l3 ⟨hn,k3,rfl⟩;simp only at hn k3 hJ2;have le3:=le2.trans l3;by_cases hnl:n<P.length+1
  ·refine G.lT (n:Int) ((P.length+1:Nat):Int) ?_;obtain⟨f,hEn⟩:∃ f,(Ak P)[n]?=some f:=⟨_,A0n oV⟩;have hinn:=hq.inner hP e ((Ak P).take n) (by rw[A00];omega);have hstep2:S+Au (fun f=>b e*As C e f*b f) ((Ak P).take (n+1))=S+Au (fun f=>b e*As C e f*b f) ((Ak P).take n)+b e*As C e f*b f:=by rw[E6 hEn,Iu];grind
   obtain⟨y,hy,hfy⟩:=hF.2 n (b f) (by rw[A0v,hEn];rfl);obtain⟨f2,o2,e2,ef2⟩:=Ab.at' (hL.mono le3) (j:=n) (e:=y) hy;cases e2;have hfy:=hfy.mono le3;obtain⟨yb,ya,yn,yc,yb',ya',yn',yc',rfl⟩:=hfy.opn;refine G.a fb fo (P.length+1) cc n 4 hnl ?_;refine G.lU (some 4) fb (fo+n*4) (.agg #[.bool yb,.slice ya yn yc,.bool yb',.slice ya' yn' yc']) ef2 ?_;refine G.c call125 (Sf (hl.mono le3) (hv.mono le3) oV hEi hEn) ?_;intro v4 u4 l4 k4;obtain⟨b4,a4,n4,c4,b4',a4',n4',c4',rfl⟩:=k4.opn;refine G.c call78 (Le ((hfx.mono l3).mono l4) k4 ((hq.b e).mono oV) ((hq.c e f).mono oV)) ?_;intro v5 u5 l5 k5;obtain⟨b5,a5,n5,c5,b5',a5',n5',c5',rfl⟩:=k5.opn;refine G.c call78 (Le k5 (hfy.mono (l4.trans l5)) ((hq.half e f).mono oV) ((hq.b f).mono oV)) ?_;intro v6 u6 l6 k6;obtain⟨b6,a6,n6,c6,b6',a6',n6',c6',rfl⟩:=k6.opn;have l36:=(l4.trans l5).trans l6;refine G.c call76 (O2 (k3.mono l36) k6 ((Ly hout hinn).mono oV) ((hq.term e f).mono oV)) ?_;intro v7 u7 l7 k7;rw[<-hstep2]at k7;obtain⟨b7,a7,n7,c7,b7',a7',n7',c7',rfl⟩:=k7.opn;refine G.i n ?_;exact G.b (hJ2 (n+1,(b7,a7,n7,c7),(b7',a7',n7',c7')) _ _ _ cV (l3.trans (l36.trans l7)) ⟨dV,k7,rfl⟩ dV)
  ·obtain rfl:n=P.length+1:=oV
   refine G.lF ((P.length+1:Nat):Int) ((P.length+1:Nat):Int) ?_;rw[A03 oV,<-hstep]at k3;refine G.i i ?_;exact G.b (hJ (i+1,(tb,ta,tn,tc),(tb',ta',tn',tc')) _ _ _ cV (l2.trans l3) ⟨dV,k3,rfl⟩ dV)
 ·obtain rfl:i=P.length+1:=oV
  refine G.lF ((P.length+1:Nat):Int) ((P.length+1:Nat):Int) ?_;rw[A03 oV]at k2;exact G.r (.agg #[.bool sb,.slice sa sn sc,.bool sb',.slice sa' sn' sc']) ⟨rfl,k2⟩
end
section
variable {C:CF}{N:Nat}{P:List Par}{b:Option Par->Rat}{lv v:Value}{u:PH}
theorem QOK.bs (h:QOK b C)(l:List (Option Par))(hl:l.length<=61):Sz (Au (fun e=>b e*As C none e) l) 200000 :=
 (V7 (Om fun e _=>In (h.b e) (h.c none e)) hl).mono oV
theorem QOK.rs (h:QOK b C)(l:List (Option Par))(hl:l.length<=61):Sz (Au (fun e=>b e*Ay C e) l) 200000 :=
 (V7 (Om fun e _=>h.rt e) hl).mono oV
theorem Apj (hl:Nj u lv P b)(hv:Mf u v C N)(hP:P.length<=60)(hq:QOK b C) :
 Fn0 prog 56 [lv,v] u fun r u'=>Av u' r (Kf b P C):=by
 obtain⟨pa,pc,ca,cc,rfl,hPL,es,hL,hF⟩:=hl.val;have hEl:=Bo P;have hes:es.length=P.length+1:=by rw[hF.1,A0p,hEl]
 obtain⟨b0,a0,n0,c0,b0',a0',n0',c0',g1,g2,rfl,hc⟩:=Ir hv;have hls:Sz (C.s Aq) 1000:=hq.r none;have z1:C.s Aq-0=C.s Aq:=by grind
 refine Fn0.o func56 ?_;refine G.c call96 M4 ?_;rintro v0 u0 l0 rfl;refine G.c call124 (Lx Aq (hv.mono l0)) ?_;intro v1 u1 l1 k1;obtain⟨sb,sa,sn,sc,sb',sa',sn',sc',rfl⟩:=k1.opn;have le1:=l0.trans l1;refine G.l (ι:=Nat×(Bool×SlI)×(Bool×SlI)) (fun i=>[(2,.p 0 0),(3,.p 1 0),(4,.p 2 0),(5,.p 1003 0),(12,sV ca (P.length+1) cc),(13,iV (P.length+1:Nat)),(14,iV i.1)])
  (fun i=>[(0,⟨126,[sV pa P.length pc,sV ca (P.length+1) cc]⟩),(1,⟨120,[bV b0,sV a0 n0 c0,bV b0',sV a0' n0' c0',.v (.map (some g1)),.v (.map (some g2))]⟩),(2,⟨116,[bV false,sV none 0 0,bV false,sV none 0 0]⟩),(1003,⟨116,[bV i.2.1.1,sV i.2.1.2.1 i.2.1.2.2.1 i.2.1.2.2.2,bV i.2.2.1,sV i.2.2.2.1 i.2.2.2.2.1 i.2.2.2.2.2]⟩)])
  (fun i u' m'=>i.1<=P.length+1/\Av u' (.agg #[.bool i.2.1.1,.slice i.2.1.2.1 i.2.1.2.2.1 i.2.1.2.2.2,.bool i.2.2.1,.slice i.2.2.2.1 i.2.2.2.2.1 i.2.2.2.2.2]) (C.s Aq-Au (fun e=>b e*As C none e) ((Ak P).take i.1))/\m'=PH.mt) (fun i=>P.length+1-i.1) (0,(sb,sa,sn,sc),(sb',sa',sn',sc')) ⟨oV,by show Av _ _ (C.s Aq-0);rw[z1];exact k1,rfl⟩ ?_
 rintro J ⟨i,⟨sb,sa,sn,sc⟩,⟨sb',sa',sn',sc'⟩⟩ hJ u2 m2 l2 ⟨hi,k2,rfl⟩;simp only at hi k2 hJ;have le2:=le1.trans l2;by_cases hlt:i<P.length+1
 ·refine G.lT (i:Int) ((P.length+1:Nat):Int) ?_;obtain⟨e,hEi⟩:∃ e,(Ak P)[i]?=some e:=⟨_,A0n oV⟩;have hE0:(Ak P)[0]?=some none:=rfl;have hps:=hq.bs ((Ak P).take i) (by rw[A00];omega);have hbt:Sz (b e*As C none e) 2000:=In (hq.b e) (hq.c none e);have hstep:C.s Aq-Au (fun e=>b e*As C none e) ((Ak P).take (i+1))=C.s Aq-Au (fun e=>b e*As C none e) ((Ak P).take i)-b e*As C none e:=by rw[E6 hEi,Iu];grind
  obtain⟨x,hx,hfx⟩:=hF.2 i (b e) (by rw[A0v,hEi];rfl);obtain⟨fb,fo,rfl,ef⟩:=Ab.at' (hL.mono le2) (j:=i) (e:=x) hx;have hfx:=hfx.mono le2;obtain⟨xb,xa,xn,xc,xb',xa',xn',xc',rfl⟩:=hfx.opn;refine G.a fb fo (P.length+1) cc i 4 hlt ?_;refine G.lU (some 4) fb (fo+i*4) (.agg #[.bool xb,.slice xa xn xc,.bool xb',.slice xa' xn' xc']) ef ?_;refine G.c call125 (Sf (i:=0) (hl.mono le2) (hv.mono le2) oV hE0 hEi) ?_;intro v4 u4 l4 k4;obtain⟨b4,a4,n4,c4,b4',a4',n4',c4',rfl⟩:=k4.opn;refine G.c call78 (Le (hfx.mono l4) k4 ((hq.b e).mono oV) ((hq.c none e).mono oV)) ?_;intro v5 u5 l5 k5;obtain⟨b5,a5,n5,c5,b5',a5',n5',c5',rfl⟩:=k5.opn;refine G.c call57 (Lf (k2.mono (l4.trans l5)) k5 ((Ie hls hps).mono oV) (hbt.mono oV)) ?_;intro v7 u7 l7 k7;rw[<-hstep]at k7;obtain⟨b7,a7,n7,c7,b7',a7',n7',c7',rfl⟩:=k7.opn;refine G.i i ?_;exact G.b (hJ (i+1,(b7,a7,n7,c7),(b7',a7',n7',c7')) _ _ _ cV (((l2.trans l4).trans l5).trans l7) ⟨dV,k7,rfl⟩ dV)
 ·obtain rfl:i=P.length+1:=oV
  refine G.lF ((P.length+1:Nat):Int) ((P.length+1:Nat):Int) ?_;rw[A03 oV]at k2;exact G.r (.agg #[.bool sb,.slice sa sn sc,.bool sb',.slice sa' sn' sc']) ⟨rfl,k2⟩
theorem Agv {q:Rat}{k:Nat}(h:Sz q k):Sz (2*q) (2*k+1):=by
 rw[show 2*q=q+q by grind];exact (Ly h h).mono oV
theorem QOK.nm (h:QOK b C)(hP:P.length<=60):Sz (Bm b P C) 20000000 :=
 h.outer hP (Ak P) (by rw[Bo];omega)
theorem sq0 (hl:Nj u lv P b)(hv:Mf u v C N)(hP:P.length<=60)(hq:QOK b C) :
 Fn0 prog 53 [lv,v] u fun r u'=>Av u' r (sqC b P C):=by
 obtain⟨pa,pc,ca,cc,rfl,hPL,es,hL,hF⟩:=hl.val;have hEl:=Bo P;have hes:es.length=P.length+1:=by rw[hF.1,A0p,hEl]
 obtain⟨b0,a0,n0,c0,b0',a0',n0',c0',g1,g2,rfl,hc⟩:=Ir hv;have hlt2:=hq.l;have hnm:=hq.nm hP;refine Fn0.o func53 ?_;refine G.c call58 (Am3 hl hv hP hq) ?_;intro v1 u1 l1 k1;obtain⟨b1,a1,n1,c1,b1',a1',n1',c1',rfl⟩:=k1.opn;refine G.c call96 M4 ?_;rintro v2 u2 l2 rfl;refine G.c call96 M4 ?_;rintro v3 u3 l3 rfl;have le3:=(l1.trans l2).trans l3;refine G.c call118 (Oc Aq Aq (hv.mono le3)) ?_;intro v4 u4 l4 k4;obtain⟨b4,a4,n4,c4,b4',a4',n4',c4',rfl⟩:=k4.opn;refine G.c call76 (O2 (k1.mono ((l2.trans l3).trans l4)) k4 (hnm.mono oV) (hlt2.mono oV)) ?_;intro v5 u5 l5 k5;have le5:=(le3.trans l4).trans l5;have hA:Sz (Bm b P C+C.t (Ap Aq Aq)) 20001001:=Ly hnm hlt2;have hfin:Bm b P C+C.t (Ap Aq Aq)-2*Au (fun e=>b e*Ay C e) (Ak P)=sqC b P C:=rfl;generalize Bm b P C+C.t (Ap Aq Aq)=A at k5 hA hfin;obtain⟨sb,sa,sn,sc,sb',sa',sn',sc',rfl⟩:=k5.opn;have z1:A-2*0=A:=by grind
 refine G.l (ι:=Nat×(Bool×SlI)×(Bool×SlI)) (fun i=>[(2,.p 0 0),(3,.p 1 0),(4,.p 2 0),(5,.p 1008 0),(18,sV ca (P.length+1) cc),(19,iV (P.length+1:Nat)),(20,iV i.1)])
  (fun i=>[(0,⟨126,[sV pa P.length pc,sV ca (P.length+1) cc]⟩),(1,⟨120,[bV b0,sV a0 n0 c0,bV b0',sV a0' n0' c0',.v (.map (some g1)),.v (.map (some g2))]⟩),(2,⟨116,[bV false,sV none 0 0,bV false,sV none 0 0]⟩),(1008,⟨116,[bV i.2.1.1,sV i.2.1.2.1 i.2.1.2.2.1 i.2.1.2.2.2,bV i.2.2.1,sV i.2.2.2.1 i.2.2.2.2.1 i.2.2.2.2.2]⟩)])
  (fun i u' m'=>i.1<=P.length+1/\Av u' (.agg #[.bool i.2.1.1,.slice i.2.1.2.1 i.2.1.2.2.1 i.2.1.2.2.2,.bool i.2.2.1,.slice i.2.2.2.1 i.2.2.2.2.1 i.2.2.2.2.2]) (A-2*Au (fun e=>b e*Ay C e) ((Ak P).take i.1))/\m'=PH.mt) (fun i=>P.length+1-i.1) (0,(sb,sa,sn,sc),(sb',sa',sn',sc')) ⟨oV,by show Av _ _ (A-2*0);rw[z1];exact k5,rfl⟩ ?_
 rintro J ⟨i,⟨sb,sa,sn,sc⟩,⟨sb',sa',sn',sc'⟩⟩ hJ u6 m6 l6 ⟨hi,k6,rfl⟩;simp only at hi k6 hJ;have le6:=le5.trans l6;by_cases hlt:i<P.length+1
 ·refine G.lT (i:Int) ((P.length+1:Nat):Int) ?_;obtain⟨e,hEi⟩:∃ e,(Ak P)[i]?=some e:=⟨_,A0n oV⟩;have hps:=hq.rs ((Ak P).take i) (by rw[A00];omega);have hbt:=hq.rt e;have hd1:=Ie hA (Agv hps);have hd2:=Ie hd1 hbt;have hstep:A-2*Au (fun e=>b e*Ay C e) ((Ak P).take (i+1))=A-2*Au (fun e=>b e*Ay C e) ((Ak P).take i)-b e*Ay C e-b e*Ay C e:=by rw[E6 hEi,Iu];grind
  obtain⟨x,hx,hfx⟩:=hF.2 i (b e) (by rw[A0v,hEi];rfl);obtain⟨fb,fo,rfl,ef⟩:=Ab.at' (hL.mono le6) (j:=i) (e:=x) hx;have hfx:=hfx.mono le6;obtain⟨xb,xa,xn,xc,xb',xa',xn',xc',rfl⟩:=hfx.opn;refine G.a fb fo (P.length+1) cc i 4 hlt ?_;refine G.lU (some 4) fb (fo+i*4) (.agg #[.bool xb,.slice xa xn xc,.bool xb',.slice xa' xn' xc']) ef ?_;refine G.c call119 (Anu (hl.mono le6) (hv.mono le6) oV hEi) ?_;intro v7 u7 l7 k7;obtain⟨b7,a7,n7,c7,b7',a7',n7',c7',rfl⟩:=k7.opn;refine G.c call78 (Le (hfx.mono l7) k7 ((hq.b e).mono oV) ((hq.r e).mono oV)) ?_;intro v8 u8 l8 k8;obtain⟨b8,a8,n8,c8,b8',a8',n8',c8',rfl⟩:=k8.opn;refine G.c call57 (Lf (k6.mono (l7.trans l8)) k8 (hd1.mono oV) (hbt.mono oV)) ?_;intro v9 u9 l9 k9;obtain⟨b9,a9,n9,c9,b9',a9',n9',c9',rfl⟩:=k9.opn;refine G.c call57 (Lf k9 (k8.mono l9) (hd2.mono oV) (hbt.mono oV)) ?_;intro v10 u10 l10 k10;rw[<-hstep]at k10;obtain⟨bx,ax,nx',cx,bx',ax',nx'',cx',rfl⟩:=k10.opn;refine G.i i ?_;exact G.b (hJ (i+1,(bx,ax,nx',cx),(bx',ax',nx'',cx')) _ _ _ cV ((((l6.trans l7).trans l8).trans l9).trans l10) ⟨dV,k10,rfl⟩ dV)
 ·obtain rfl:i=P.length+1:=oV
  refine G.lF ((P.length+1:Nat):Int) ((P.length+1:Nat):Int) ?_;rw[A03 oV,hfin]at k6;exact G.r (.agg #[.bool sb,.slice sa sn sc,.bool sb',.slice sa' sn' sc']) ⟨rfl,k6⟩
end
section
open Go.RowKit Go.MapKept Go.Shelf Go.Sort
variable {L:List Par}
theorem N8 (L:List Par):Az (L.map An)=L.flatMap Bu:=by
 unfold Az;rw[List.flatMap_map];rfl
theorem D9 (L:List Par):(L.flatMap Bu).length=L.length*2:=by
 induction L with
 |nil=>rfl
 |cons x L ih=>rw[List.flatMap_cons,A0z,ih,J8,A2n,A1o];omega
theorem Wi {L L':List Par}(hl:L'.length=L.length)(rest:List Value):putCells id 0 (flatK Bu 2 L'.toArray) (L.flatMap Bu++rest).toArray=(L'.flatMap Bu++rest).toArray:=by
 have h1:=D9 L;have h2:=D9 L';have hs:(flatK Bu 2 L'.toArray).size=L'.length*2:=by rw[size_flatK];simp
 apply Array.ext_getElem?;intro t;unfold putCells;rw[Array.getElem?_mapIdx,A2x,A2x,hs];by_cases ht:t<L'.length*2
 ·rw[A1d oV,A1d oV,M7 J8 L' t ht];have:(L.flatMap Bu)[t]?=some (L.flatMap Bu)[t]:=A0n oV;rw[this];simp only[A3h,A1m,A2b,true_and,if_pos ht,id,Nat.sub_zero];rw[get_flatK Bu 2 _ t (by simpa using ht)]
 ·rw[A1s oV,A1s oV,h1,h2,hl];cases hr:rest[t-L.length*2]? with
  |none=>rfl
  |some x =>
   simp only[A3h,A1m,A2b,true_and];rw[if_neg oV]
theorem X9 (L:List Par):A3 2 (L.map An):=by
 intro e he;obtain⟨x,_,rfl⟩:=A0u.1 he;exact⟨rfl,fun y hy=>by simp[An,A1e]at hy;rcases hy with rfl|rfl<;>rfl⟩
theorem Ah5 {u m0 m:PH}{v:Value}(hA:Ae m0 m v 79 2 (L.map An))(hnd:L.Nodup)(hl:L.length<=1000000) :
 Ai prog 189 [v,.func (.func 190) #[] #[]] u m fun r u' m'=>r=.tuple #[]/\Ae m0 m' v 79 2 ((Dw A8 L).map An):=by
 have hp:=Gx (c:=A8) L;have hpl:(Dw A8 L).length=L.length:=hp.length_eq;intro w hg;obtain⟨hok,h⟩:=hA;rcases h with ⟨rfl,he,rfl⟩|⟨g,cap,rest,hm0,rfl,rfl,hcap,hlen,hrest⟩
 ·have hL:L = []:=by simpa using he
  subst hL;refine (AnyF.slices_SortFunc_none Tryz.sortPar none 0 _ w).mono ?_;rintro e w' ⟨rfl,rfl⟩;exact⟨_,u,m,rfl,hg,⟨A0w _,fun _ _ _=>rfl,fun _ _=>rfl,fun _ _ h=>h,⟨rfl,rfl⟩,fun f=>f.elim⟩,rfl,by
   have e:Dw A8 ([]:List Par) = []:=List.length_eq_zero_iff.1 hpl;rw[e];exact Ae.nil _ _ _⟩
 ·rw[A0p]at hcap⊢;rw[N8]at hlen hg;have hgb:w.heap[g]?=some (.cells (L.flatMap Bu++rest).toArray 79 (0,0)):=hg.pm g _ (Ac _ _ _);have hH:HoldsK Bu 2 w g 0 L.toArray:=Afx (enc:=Bu) (k:=2) J8 hgb (by
   show (L.flatMap Bu++rest).take (L.length*2)=_;rw[List.take_append_of_le_length (by rw[D9];omega),A03 (by rw[D9];omega)])
  have hgl:g<w.heap.size:=Bw hgb;have hcon:=AnyQ.slices_SortFunc_total Tryz.sortPar 2 (fun w=>kV) (fun w=>kV) Bu (fun _=>rfl) (fun x v hv=>by simp at hv;rcases hv with rfl|rfl<;>rfl) A8 Dp.swo 190 #[] g 0 cap L.toArray w call190 (Abb g 0 _ w) hH hgl gV Dp.tot
  change Calls prog 189 _ _ _ at hcon;simp only[List.size_toArray]at hcon;refine Calls.mono hcon ?_;rintro e w' ⟨rfl,nn,os,rfl⟩;change Alp _ _ _ (sortWorldK Bu 2 w g 0 nn (Dw A8 L).toArray os);obtain⟨w',hw'⟩:∃ w',w'=sortWorldK Bu 2 w g 0 nn (Dw A8 L).toArray os:=⟨_,rfl⟩;have hheap:w'.heap=w.heap.modify g (onCells (putCells id 0 (flatK Bu 2 (Dw A8 L).toArray)))++os:=by rw[hw'];rfl
  have hos:w'.os=w.os/\w'.output=w.output:=by rw[hw'];exact⟨rfl,rfl⟩
  rw[<-hw'];have hsz:w.heap.size<=w'.heap.size:=by rw[hheap,Array.size_append,A8z];omega
  have hold:∀ k,k<w.heap.size->k≠g->w'.heap[k]?=w.heap[k]?:=fun k hk hne=>by
   rw[hheap,A5q (by rw[A8z];exact hk),A70,if_neg (fun e=>hne e.symm)]
  have hnew:w'.heap[g]?=some (.cells ((Dw A8 L).flatMap Bu++rest).toArray 79 (0,0)):=by
   rw[hheap,A5q (by rw[A8z];exact hgl),A70,if_pos rfl,hgb];show some (Obj.cells (putCells id 0 _ _) _ _)=_;rw[Wi hpl]
  have hug:u g=none:=(hg.ap g).resolve_right (by rw[Ac];simp);have hpar:=X9 (Dw A8 L);refine⟨_,fun k=>if k<w.heap.size then u k else w'.heap[k]?,m0.upd g (.cells (Az ((Dw A8 L).map An)++rest).toArray 79 (0,0)),rfl,⟨?_,?_,?_,?_⟩,⟨hsz,?_,?_,?_,hos,fun f=>f.elim⟩,rfl,hpar,.inr ⟨g,cap,rest,hm0,rfl,by rw[A0p,hpl],by rw[A0p,hpl];exact hcap,?_,hrest⟩⟩
  ·intro k o hk;simp only at hk;split at hk
   ·rename_i hlt;have hne:k≠g:=fun e=>by subst e;rw[hug]at hk;cases hk
    rw[hold k hlt hne];exact hg.pu k o hk
   ·exact hk
  ·intro k o hk;by_cases e:k=g
   ·subst e;rw[Ac]at hk;cases hk;rw[hnew,N8]
   ·rw[Ad _ _ e]at hk;have:=hg.pm k o (by rw[Ad _ _ e];exact hk);rw[hold k (Bw this) e];exact this
  ·intro k;simp only;by_cases hlt:k<w.heap.size
   ·rw[if_pos hlt];rcases hg.ap k with h|h
    ·exact .inl h
    ·by_cases e:k=g
     ·subst e;rw[Ac]at h;cases h
     ·right;rw[Ad _ _ e]at h⊢;exact h
   ·right;have e:k≠g:=fun e=>oV
    rw[Ad _ _ e];have:=hg.pm.none (g:=k) (by show w.heap.size<=k;omega);rw[Ad _ _ e]at this;exact this
  ·intro k cs t fr j z hk hj;simp only;by_cases hlt:k<w.heap.size
   ·rw[if_pos hlt];by_cases e:k=g
    ·subst e;rw[hnew]at hk;cases hk;exfalso;have hmem:Value.int .u64 z∈(Dw A8 L).flatMap Bu++rest:=by
      rw[A2x]at hj;exact A1b hj
     have hall:∀ x∈(Dw A8 L).flatMap Bu++rest,Be x=true:=fun x hx=>by
      rcases A01.1 hx with h|h
      ·rw[<-N8]at h;exact Ep hpar x h
      ·exact hrest x h
     have:=hall _ hmem;cases this
    ·rw[hold k hlt e]at hk;exact hg.cl k cs t fr j z hk hj
   ·rw[if_neg hlt];exact hk
  ·intro k hk hmk;refine hold k hk fun e=>?_;subst e;simp only at hmk;rw[Ac]at hmk;cases hmk
  ·intro k hk;simp only;exact if_pos hk
  ·intro k hk hmk;by_cases e:k=g
   ·subst e;simp only at hmk;rw[Ac]at hmk;cases hmk
   ·simp only at hmk;rw[Ad _ _ e]at hmk⊢;exact hmk
  ·rw[N8,A0z,D9,hpl];rw[A0z,D9]at hlen;exact hlen
end
section
variable {F:List Ao}{R:List Bk}{T:List (List UInt8×Nat)}{lab:Int}{n:Nat}{u:PH}{v:Value}
def Aar (F:List Ao)(lab:Int)(p:Par):Prop:=(p.1 = -1/\0<=lab/\p.2 = [])\/(∃ (k:Nat) (f:Ao),p.1=(k:Int)/\F[k]?=some f/\(f.2.1=2\/p.2 = []))
theorem Ahy {p:Par}(hX:F1 u v T R F lab)(ok:Bn u T R F lab)(hp:Aar F lab p) :
 Fn0 prog 187 [v,An p] u fun r _=>r=.bool true:=by
 obtain⟨xa,xc,xb,xd,xe,xf,rfl,hTL,hRL,hFL⟩:=hX;have hf8:=ok.f2;refine Fn0.o func187 ?_;rcases hp with ⟨h1,h2,h3⟩|⟨k,f,h1,hf,h3⟩
 ·refine G.eT' p.1 (-1) h1 ?_;refine G.hT' lab 0 h2 ?_;refine G.q p.2 [] h3 ?_;exact G.r (.bool true) ⟨rfl,rfl⟩
 ·obtain⟨p1,p2⟩:=p;simp only at h1 h3;subst h1;have hk:=(A0s.1 hf).1;obtain⟨bb,ob,rfl,eb⟩:=Ab.at' hFL (j:=k) (e:=B6 f) (by simp[hf]);obtain⟨f1,f2,f3⟩:=f;simp only at h3;refine G.eF (k:Int) (-1) ?_;refine G.hF (k:Int) (F.length:Int) ?_;refine G.a bb ob F.length xf k 3 hk ?_;refine G.f 144 bb (ob+k*3) 1 1 ?_;refine G.lU none bb (ob+k*3+1) (.int .i64 (f2:Int)) (eb.fld (j:=1) (xs:=#[.int .i64 (f1:Int),.int .i64 (f2:Int),.int .i64 (f3:Int)]) rfl rfl) ?_;by_cases h2:f2=2
  ·refine G.eT (f2:Int) 2 ?_;exact G.r (.bool true) ⟨rfl,rfl⟩
  ·refine G.eF (f2:Int) 2 ?_;refine G.q p2 [] (h3.resolve_left h2) ?_;exact G.r (.bool true) ⟨rfl,rfl⟩
theorem Akx {u m:PH}{b:Nat}{x:Par×Rat}(hb:ElP m b 0 v)(hX:F1 u v T R F lab)(ok:Bn u T R F lab)(hp:Aar F lab x.1) :
 FnK prog 186 [A5 x,.pointer (some ⟨b,0,none⟩)] u m fun v _=>v=.bool false:=by
 have hbel:=Ahy hX ok hp;obtain⟨xa,xc,xb,xd,xe,xf,rfl,hTL,hRL,hFL⟩:=hX;refine FnK.of func186 kV kV ?_;refine G.lM (some 4) b 0 (.agg #[.slice xa T.length xc,.slice xb R.length xd,.slice xe F.length xf,.int .i64 lab]) hb ?_;refine G.c call187 hbel ?_;rintro v1 u1 l1 rfl;exact G.r (.bool false) ⟨rfl,rfl⟩
theorem Agw {u m:PH}{v cap:Value}{T:List (Par×Rat)}{fid:Nat}(h:Ab u v 3 (T.map A5))(hl:T.length<=1000000)
 (hcall:∀ args w,(callFunc fid args).run prog w=.ok (.enter fid args) w) (hf:∀ p∈T,∀ u',PH.le u u'->FnK prog fid [A5 p,cap] u' m fun v _=>v=.bool false) :
 FnK prog 241 [v,.func (.func fid) #[] #[cap]] u m fun v' _=>v'=.int .i64 (-1):=by
 obtain⟨a,c,rfl⟩:=h.opn;rw[A0p]at h⊢;refine FnK.of func241 kV kV ?_;refine G.l (ι:=Nat) (fun i=>[(0,sV a T.length c),(1,.v (.func (.func fid) #[] #[cap])),(7,iV T.length),(8,iV i)]) (fun _=>[])
  (fun i u' m'=>i<=T.length/\m'=m) (fun i=>T.length-i) 0 ⟨oV,rfl⟩ ?_
 rintro J i hJ u1 m1 l1 ⟨hi,rfl⟩;by_cases hlt:i<T.length
 ·refine G.lT (i:Int) (T.length:Int) ?_;have hTi:T[i]?=some T[i]:=A0n hlt;obtain⟨ba,oa,rfl,ea⟩:=Ab.at' (h.mono l1) (j:=i) (e:=A5 T[i]) (by simp[hTi]);refine G.a ba oa T.length c i 3 oV ?_;refine G.lU (some 3) ba (oa+i*3) (A5 T[i]) ea ?_;refine G.callK fid [A5 T[i],cap] kV hcall (hf T[i] (A04 hlt) u1 l1) ?_;rintro v2 u2 l2 rfl;refine G.i i ?_;exact G.b (hJ (i+1) _ _ _ cV (l1.trans l2) ⟨oV,rfl⟩ oV)
 ·obtain rfl:i=T.length:=oV
  refine G.lF (T.length:Int) (T.length:Int) ?_;exact G.r (.int .i64 (-1)) ⟨rfl,rfl⟩
theorem Z2 {u m:PH}{v cap:Value}{T:List (Par×Rat)}{fid:Nat}(h:Ab u v 3 (T.map A5))(hl:T.length<=1000000)
 (hcall:∀ args w,(callFunc fid args).run prog w=.ok (.enter fid args) w) (hf:∀ p∈T,∀ u',PH.le u u'->FnK prog fid [A5 p,cap] u' m fun v _=>v=.bool false) :
 FnK prog 185 [v,.func (.func fid) #[] #[cap]] u m fun v' _=>v'=.bool false:=by
 obtain⟨a,c,rfl⟩:=h.opn;refine FnK.of func185 kV kV ?_;refine G.callK _ _ kV call241 (Agw h hl hcall hf) ?_;rintro v1 u1 l1 rfl;refine G.hF (-1) 0 ?_;exact G.r (.bool false) ⟨rfl,rfl⟩
def Cv (F:List Ao)(n:Nat):List Nat:=(A1q n).filter fun i=>(F.getD i (0,0,0)).2.1==1
theorem Ae6 {f:Ao}(hf:F[n]?=some f):Cv F (n+1)=if f.2.1=1 then Cv F n++[n] else Cv F n:=by
 unfold Cv;rw[A6y,Baz];have e:(F.getD n (0,0,0))=f:=by simp[A0o,hf]
 by_cases h:f.2.1=1
 ·rw[if_pos h,A9h (by rw[e];simp[h])];rfl
 ·rw[if_neg h,A9i (by rw[e];simp[h])];simp
theorem Y2 (F:List Ao)(n:Nat):(Cv F n).length<=n:=by
 unfold Cv;exact A0q (A92 _ _) mV
theorem S6 {n i:Nat}:i∈Cv F n↔i<n/\(F.getD i (0,0,0)).2.1=1:=by
 unfold Cv;simp[A6v]
theorem Abx (F:List Ao)(n:Nat):(Cv F n).Nodup:=List.nodup_range.filter _
theorem Yc (hX:F1 u v T R F lab)(ok:Bn u T R F lab) :
 Fn0 prog 188 [v] u fun r u'=>Ab u' r 1 (Ag (Cv F F.length)):=by
 have hck:=Abk hX ok;obtain⟨xa,xc,xb,xd,xe,xf,rfl,hTL,hRL,hFL⟩:=hX;have hf8:=ok.f2;refine Fn0.o func188 ?_;refine G.c call129 hck ?_;rintro v1 u1 l1 rfl;refine G.nF 0 0 ?_;refine G.l (ι:=Nat×(Option Addr×Nat)) (fun i=>[(3,sV i.2.1 (Cv F i.1).length i.2.2),(10,sV xe F.length xf),(11,iV F.length),(12,iV i.1)]) (fun _=>[])
  (fun i u' m'=>i.1<=F.length/\Ae PH.mt m' (.slice i.2.1 (Cv F i.1).length i.2.2) 3 1 (Ag (Cv F i.1))) (fun i=>F.length-i.1) (0,(none,0)) ⟨oV,Ae.nil _ _ _⟩ ?_
 rintro J ⟨i,⟨na,nc⟩⟩ hJ u2 m2 l2 ⟨hi,hA⟩;simp only at hi hA hJ;have le2:=l1.trans l2;have hnl:=Y2 F i;by_cases hlt:i<F.length
 ·refine G.lT (i:Int) (F.length:Int) ?_;obtain⟨f,hFi⟩:∃ f,F[i]?=some f:=⟨_,A0n hlt⟩;have hs:=Ae6 hFi;obtain⟨fb,fo,rfl,ef⟩:=Ab.at' (hFL.mono le2) (j:=i) (e:=B6 f) (by simp[hFi]);obtain⟨p1,p2,p3⟩:=f;simp only at hs;refine G.a fb fo F.length xf i 3 hlt ?_;refine G.lU (some 3) fb (fo+i*3) (.agg #[.int .i64 (p1:Int),.int .i64 (p2:Int),.int .i64 (p3:Int)]) ef ?_;by_cases h1:p2=1
  ·rw[if_pos h1]at hs;refine G.eT (p2:Int) 1 ?_;refine G.buildU 3 1 8 (.int .i64 0) (Ag [i]) kV (Ax [i]) rfl oV (by simp[Ag]) (by simp[Ag]) ?_;intro g3 u3 l3 e3;refine G.append 3 1 8 (.int .i64 0) PH.mt (Ag (Cv F i)) (Ag [i]) (.slice na (Cv F i).length nc) g3 0 1 1 kV rfl rfl oV hA e3 (Ax [i]) rfl oV (by simp[Ag];omega) (by simp[Ag];omega) ?_;intro v4 m4 hA4;have e4:Ag (Cv F i)++Ag [i]=Ag (Cv F (i+1)):=by rw[hs];simp[Ag]
   rw[e4]at hA4;obtain⟨a4,c4,rfl⟩:=hA4.shape;have e5:(Ag (Cv F (i+1))).length=(Cv F (i+1)).length:=by simp[Ag]
   rw[e5]at hA4⊢;refine G.i i ?_;exact G.b (hJ (i+1,(a4,c4)) _ _ _ cV (l2.trans l3) ⟨dV,hA4⟩ dV)
  ·rw[if_neg h1]at hs;refine G.eF (p2:Int) 1 ?_;refine G.i i ?_;rw[<-hs]at hA⊢;exact G.b (hJ (i+1,(na,nc)) _ _ _ cV l2 ⟨dV,hA⟩ dV)
 ·obtain rfl:i=F.length:=oV
  refine G.lF (F.length:Int) (F.length:Int) ?_;refine G.give _ _ _ kV hA (fun g=>.inl rfl) ?_;intro u3 l3 hL;exact G.r (.slice na (Cv F F.length).length nc) ⟨rfl,hL⟩
end
section
open Go.RowKit Go.MapKept Go.Sort
variable {A:List (Par×Rat)}{C:CF}{F:List Ao}
def Mi (F:List Ao)(p:Par):Bool:=decide (0<=p.1)&&(F.getD p.1.toNat (0,0,0)).2.1==2
def G2 (F:List Ao)(A:List (Par×Rat))(n:Nat):List Par:=((A.take n).map (·.1)).filter (Mi F)
theorem Ae5 {n:Nat}{x:Par×Rat}(h:A[n]?=some x):G2 F A (n+1)=if Mi F x.1=true then G2 F A n++[x.1] else G2 F A n:=by
 unfold G2;have e:A.take (n+1)=A.take n++[x]:=by rw[A1c,h];rfl
 rw[e,A07,Baz];by_cases hh:Mi F x.1=true
 ·rw[if_pos hh,A1y,A9h hh];rfl
 ·rw[if_neg hh,A1y,A9i hh];simp
theorem Agt (F:List Ao)(A:List (Par×Rat))(n:Nat):(G2 F A n).length<=A.length:=by
 unfold G2;refine A0q (A92 _ _) ?_;rw[A0p,A00];omega
def Iw (i:Nat):Par:=((i:Int),[])
def Hr (F:List Ao):List Par:=(Cv F F.length).map Iw
theorem Gd (p:Par):A3 2 [An p]:=X9 [p]
theorem Zd (hA:(A.map (·.1)).Nodup):(Hr F++G2 F A A.length).Nodup:=by
 refine A3w.2 ⟨?_,?_,?_⟩
 ·unfold Hr;refine List.Pairwise.map _ (fun a b hne e=>?_) (Abx F F.length);unfold Iw at e;simp only[A1r,and_true]at e;exact hne oV
 ·unfold G2;rw[A1k];exact hA.filter _
 ·intro a ha b hb e;subst e;unfold Hr at ha;obtain⟨i,hi,rfl⟩:=A0u.1 ha;unfold G2 at hb;have h2:=(A6v.1 hb).2;unfold Mi Iw at h2;simp only[A05,beq_iff_eq,decide_eq_true_eq,A22]at h2;have h1:=(S6.1 hi).2;omega
theorem Afc (hA:Can A8 C.s A){p:Par}:p∈Hr F++G2 F A A.length↔(∃ (i:Nat) (f:Ao),p=Iw i/\F[i]?=some f/\f.2.1=1)\/(C.s p≠0/\∃ (i:Nat) (f:Ao),p.1=(i:Int)/\F[i]?=some f/\f.2.1=2):=by
 have hmem:p∈A.map (·.1)↔C.s p≠0:=by
  constructor
  ·intro h;obtain⟨x,hx,rfl⟩:=A0u.1 h;obtain⟨h1,h2⟩:=hA.val x hx;rw[<-h1];exact h2
  ·intro h;exact Classical.byContradiction fun hh=>h (hA.out p hh)
 rw[A01];refine or_congr ?_ ?_
 ·unfold Hr;rw[A0u];constructor
  ·rintro⟨i,hi,rfl⟩;obtain⟨h1,h2⟩:=S6.1 hi;refine⟨i,F[i],rfl,A0n h1,?_⟩;rw[A0o,A0n h1,A2y]at h2;exact h2
  ·rintro⟨i,f,rfl,hf,h1⟩;refine⟨i,S6.2 ⟨(A0s.1 hf).1,?_⟩,rfl⟩;rw[A0o,hf,A2y];exact h1
 ·unfold G2;rw[A1k,A6v,hmem];refine and_congr Iff.rfl ?_;unfold Mi;simp only[A05,beq_iff_eq,decide_eq_true_eq];constructor
  ·rintro⟨h1,h2⟩;have hlt:p.1.toNat<F.length:=by
    rcases A11 p.1.toNat F.length with h|h
    ·exact h
    ·rw[A0o,List.getElem?_eq_none h]at h2;simp at h2
   rw[A0o,A0n hlt,A2y]at h2;exact⟨p.1.toNat,F[p.1.toNat],oV,A0n hlt,h2⟩
  ·rintro⟨i,f,h1,hf,h2⟩;refine⟨oV,?_⟩;rw[h1,A22,A0o,hf,A2y];exact h2
abbrev R1 (F:List Ao)(C:CF)(L:List Par):Prop :=
 Ef A8 L/\∀ p,p∈L↔(∃ (i:Nat) (f:Ao),p=Iw i/\F[i]?=some f/\f.2.1=1)\/(C.s p≠0/\∃ (i:Nat) (f:Ao),p.1=(i:Int)/\F[i]?=some f/\f.2.1=2)
theorem R1.eq {L L':List Par}(h:R1 F C L)(h':R1 F C L'):L=L' :=
 Ys Dp h.1 h'.1 fun p=>(h.2 p).trans (h'.2 p).symm
def Anx (u:PH)(r:Value)(F:List Ao)(C:CF):Prop :=
 (r=.tuple #[.slice none 0 0,.int .i64 3]/\∃ L,24<L.length/\R1 F C L)\/∃ (ps:Value) (L:List Par),r=.tuple #[ps,.int .i64 0]/\Ab u ps 2 (L.map An)/\L.length<=24/\R1 F C L
theorem Aba {u:PH}{v w:Value}{T:List (List UInt8×Nat)}{R:List Bk}{lab:Int}{K:Nat}(hX:F1 u v T R F lab)(ok:Bn u T R F lab)(hC:H7 u w C K)(sC:CFS C)(vC:CFV C)(hK:K<=100000)(hb:∀ p,C.s p≠0->Aar F lab p) :
 Fn0 prog 114 [v,w] u fun r u'=>Anx u' r F C:=by
 have hck:=fun (u':PH) (l:PH.le u u')=>Abk (hX.mono l) (ok.mono l);have hvd:=fun (u':PH) (l:PH.le u u')=>Ah4 (hC.mono l) sC vC oV;obtain⟨xa,xc,xb,xd,xe,xf,rfl,hTL,hRL,hFL⟩:=id hX;obtain⟨A,Q,a1,c1,a2,c2,rfl,hA,hQ,cA,cQ,kA,kQ⟩:=hC;have hf8:=ok.f2;refine Fn0.o func114 ?_;refine G.c call129 (hck u (PH.le_refl _)) ?_;rintro v1 u1 l1 rfl;refine G.nF 0 0 ?_;refine G.c call184 (hvd u1 l1) ?_;rintro v2 u2 l2 rfl;have le2:=l1.trans l2;refine G.pub 0 31 [.slice xa T.length xc,.slice xb R.length xd,.slice xe F.length xf,.int .i64 lab] kV kV ?_;intro b hb1 hb2;have hcb:∀ (m':PH),m' b=some (.cells [A06 xa T.length xc,.slice xb R.length xd,.slice xe F.length xf,.int .i64 lab].toArray 31 (0,0))->ElP m' b 0 (.agg #[.slice xa T.length xc,.slice xb R.length xd,.slice xe F.length xf,.int .i64 lab]):=fun m' h=>Aa3 (xs:=[.slice xa T.length xc,.slice xb R.length xd,.slice xe F.length xf,.int .i64 lab]) h rfl;obtain⟨mb,hmb⟩:∃ mb:PH,mb=PH.mt.upd b (.cells [A06 xa T.length xc,.slice xb R.length xd,.slice xe F.length xf,.int .i64 lab].toArray 31 (0,0)):=⟨_,rfl⟩;have hmbb:mb b=some (.cells [A06 xa T.length xc,.slice xb R.length xd,.slice xe F.length xf,.int .i64 lab].toArray 31 (0,0)):=by rw[hmb];exact Ac _ _ _
 rw[<-hmb];refine G.callK _ _ kV call185 (Z2 (cap:=.pointer (some ⟨b,0,none⟩)) (hA.mono le2) oV call186 fun x hx u' l'=>Akx (hcb mb hmbb) (hX.mono (le2.trans l')) (ok.mono (le2.trans l')) (hb x.1 (by obtain⟨q1,q2⟩:=cA.val x hx;rw[<-q1];exact q2))) ?_;rintro v3 u3 l3 rfl;have le3:=le2.trans l3;refine G.lM (some 4) b 0 (.agg #[.slice xa T.length xc,.slice xb R.length xd,.slice xe F.length xf,.int .i64 lab]) (hcb mb hmbb) ?_;refine G.c call188 (Yc (hX.mono le3) (ok.mono le3)) ?_;intro v4 u4 l4 hN;obtain⟨na,nc,rfl⟩:=hN.opn;have hni:(Ag (Cv F F.length)).length=(Cv F F.length).length:=by simp[Ag]
 rw[hni]at hN⊢;have hnl:=Y2 F F.length;have le4:=le3.trans l4;refine G.l (ι:=Nat×(Option Addr×Nat)) (fun i=>[(2,.v (.pointer (some ⟨b,0,none⟩))),(3,.p 1 0),(6,sV i.2.1 ((Cv F F.length).take i.1).length i.2.2),(28,sV na (Cv F F.length).length nc),(29,iV ((Cv F F.length).length)),(30,iV i.1)])
  (fun _=>[(1,⟨37,[tV (Af C.c),sV a1 A.length c1,sV a2 Q.length c2]⟩)])
  (fun i u' m'=>i.1<=(Cv F F.length).length/\Ae mb m' (.slice i.2.1 ((Cv F F.length).take i.1).length i.2.2) 79 2 ((((Cv F F.length).take i.1).map Iw).map An)) (fun i=>(Cv F F.length).length-i.1) (0,(none,0)) ⟨oV,Ae.nil _ _ _⟩ ?_
 rintro J ⟨i,⟨pa,pc⟩⟩ hJ u5 m5 l5 ⟨hi,hP⟩;simp only at hi hP hJ;have le5:=le4.trans l5;by_cases hlt:i<(Cv F F.length).length
 ·refine G.lT (i:Int) ((Cv F F.length).length:Int) ?_;obtain⟨k,hk⟩:∃ k,(Cv F F.length)[i]?=some k:=⟨_,A0n hlt⟩;have htk:(Cv F F.length).take (i+1)=(Cv F F.length).take i++[k]:=by rw[A1c,hk];rfl
  obtain⟨bb,ob,rfl,eb⟩:=Ab.at' (hN.mono l5) (j:=i) (e:=.int .i64 (k:Int)) (by simp[Ag,hk]);have htl:((Cv F F.length).take i).length=i:=by rw[A00];omega
  refine G.a bb ob (Cv F F.length).length nc i 1 hlt ?_;refine G.lU none bb (ob+i*1) (.int .i64 (k:Int)) eb ?_;refine G.B 79 2 24 (.agg #[.int .i64 0,.string (mkS [])]) [.agg #[.int .i64 (k:Int),.string (mkS [])]] (Gd (Iw k)) ?_;intro g6 u6 l6 e6;refine G.k 79 2 24 (.agg #[.int .i64 0,.string (mkS [])]) mb _ [An (Iw k)] _ g6 0 1 1 hP e6 (Gd (Iw k)) ?_;intro v7 m7 hA7;have e7:(((Cv F F.length).take i).map Iw).map An++[An (Iw k)]=(((Cv F F.length).take (i+1)).map Iw).map An:=by rw[htk];simp
  rw[e7]at hA7;obtain⟨a7,c7,rfl⟩:=hA7.shape;rw[A0p,A0p]at hA7⊢;refine G.i i ?_;exact G.b (hJ (i+1,(a7,c7)) _ _ _ cV (l5.trans l6) ⟨dV,hA7⟩ dV)
 obtain rfl:i=(Cv F F.length).length:=oV
 refine G.lF ((Cv F F.length).length:Int) ((Cv F F.length).length:Int) ?_;clear hJ;rw[A1k]at hP⊢;have hP0:Ae mb m5 (.slice pa (Hr F++G2 F A 0).length pc) 79 2 ((Hr F++G2 F A 0).map An):=by
  have e1:G2 F A 0 = []:=rfl;have e2:(Hr F).length=(Cv F F.length).length:=by unfold Hr;simp
  rw[e1,A1i,e2];exact hP
 have e0:(Cv F F.length).length=(Hr F++G2 F A 0).length:=by
  have e1:G2 F A 0 = []:=rfl;have e2:(Hr F).length=(Cv F F.length).length:=by unfold Hr;simp
  rw[e1,A1i,e2]
 rw[e0];have hnp:(Hr F).length<=8:=by unfold Hr;rw[A0p];omega
 refine G.l (ι:=Nat×(Option Addr×Nat)) (fun i=>[(2,.v (.pointer (some ⟨b,0,none⟩))),(6,sV i.2.1 (Hr F++G2 F A i.1).length i.2.2),(41,sV a1 A.length c1),(42,iV A.length),(43,iV i.1)]) (fun _=>[])
  (fun i u' m'=>i.1<=A.length/\Ae mb m' (.slice i.2.1 (Hr F++G2 F A i.1).length i.2.2) 79 2 ((Hr F++G2 F A i.1).map An)) (fun i=>A.length-i.1) (0,(pa,pc)) ⟨oV,hP0⟩ ?_
 clear hP hP0 e0;rintro J ⟨i,⟨pa,pc⟩⟩ hJ u6 m6 l6 ⟨hi,hP⟩;simp only at hi hP hJ;have le6:=le5.trans l6;have hhl:=Agt F A i;by_cases hlt:i<A.length
 ·refine G.lT (i:Int) (A.length:Int) ?_;obtain⟨x,hAi⟩:∃ x,A[i]?=some x:=⟨_,A0n hlt⟩;have hs:=Ae5 (F:=F) hAi;have hbel:Aar F lab x.1:=hb x.1 (by obtain⟨q1,q2⟩:=cA.val x (A1b hAi);rw[<-q1];exact q2);obtain⟨ba,oa,rfl,ea⟩:=Ab.at' (hA.mono le6) (j:=i) (e:=A5 x) (by simp[hAi]);obtain⟨⟨p1,p2⟩,q⟩:=x;simp only at hs hbel;refine G.a ba oa A.length c1 i 3 hlt ?_;refine G.lU (some 3) ba (oa+i*3) (.agg #[.int .i64 p1,.string (mkS p2),.string (mkS (Af q))]) ea ?_;have step:∀ {u7:PH},PH.le u6 u7->Mi F (p1,p2)=false->True:=fun _ _=>trivial;by_cases h0:0<=p1
  ·refine G.hT' p1 0 h0 ?_;obtain⟨k,f,hk1,hkf⟩:∃ (k:Nat) (f:Ao),p1=(k:Int)/\F[k]?=some f:=by
    rcases hbel with ⟨h1,_⟩|⟨k,f,h1,hf,_⟩
    ·simp only at h1;omega
    ·exact⟨k,f,h1,hf⟩
   subst hk1;have hkl:=(A0s.1 hkf).1;have hmb6:m6 b=some (.cells [A06 xa T.length xc,.slice xb R.length xd,.slice xe F.length xf,.int .i64 lab].toArray 31 (0,0)):=hP.see hmbb;refine G.f 31 b 0 2 2 ?_;refine G.lM none b (0+2) (.slice xe F.length xf) ((hcb m6 hmb6).fld (j:=2) (xs:=#[.slice xa T.length xc,.slice xb R.length xd,.slice xe F.length xf,.int .i64 lab]) rfl rfl) ?_;obtain⟨fb,fo,rfl,ef⟩:=Ab.at' (hFL.mono le6) (j:=k) (e:=B6 f) (by simp[hkf]);refine G.a fb fo F.length xf k 3 hkl ?_;obtain⟨f1,f2,f3⟩:=f;refine G.f 144 fb (fo+k*3) 1 1 ?_;refine G.lU none fb (fo+k*3+1) (.int .i64 (f2:Int)) (ef.fld (j:=1) (xs:=#[.int .i64 (f1:Int),.int .i64 (f2:Int),.int .i64 (f3:Int)]) rfl rfl) ?_;have hot:Mi F ((k:Int),p2)=(f2==2):=by
    unfold Mi;simp only[A22,A0o,hkf,A2y];rw[decide_eq_true oV];rfl
   rw[hot]at hs;by_cases h2:f2=2
   ·rw[if_pos (by simpa using h2)]at hs;refine G.eT (f2:Int) 2 ?_;refine G.B 79 2 24 (.agg #[.int .i64 0,.string (mkS [])]) [.agg #[.int .i64 (k:Int),.string (mkS p2)]] (Gd ((k:Int),p2)) ?_;intro g7 u7 l7 e7;refine G.k 79 2 24 (.agg #[.int .i64 0,.string (mkS [])]) mb _ [An ((k:Int),p2)] _ g7 0 1 1 hP e7 (Gd ((k:Int),p2)) ?_;intro v8 m8 hA8;have e8:(Hr F++G2 F A i).map An++[An ((k:Int),p2)]=(Hr F++G2 F A (i+1)).map An:=by rw[hs];simp
    rw[e8]at hA8;obtain⟨a8,c8,rfl⟩:=hA8.shape;rw[A0p]at hA8⊢;refine G.i i ?_;exact G.b (hJ (i+1,(a8,c8)) _ _ _ cV (l6.trans l7) ⟨dV,hA8⟩ dV)
   ·rw[if_neg (by simpa using h2)]at hs;refine G.eF (f2:Int) 2 ?_;refine G.i i ?_;rw[<-hs]at hP⊢;exact G.b (hJ (i+1,(pa,pc)) _ _ _ cV l6 ⟨dV,hP⟩ dV)
  ·refine G.hF' p1 0 h0 ?_;have hot:Mi F (p1,p2)=false:=by
    unfold Mi;rw[decide_eq_false h0];rfl
   rw[hot,if_neg mV]at hs;refine G.i i ?_;rw[<-hs]at hP⊢;exact G.b (hJ (i+1,(pa,pc)) _ _ _ cV l6 ⟨dV,hP⟩ dV)
 obtain rfl:i=A.length:=oV
 refine G.lF (A.length:Int) (A.length:Int) ?_;clear hJ;have hnd:(Hr F++G2 F A A.length).Nodup:=Zd (cA.srt.nodup Dp);have hmm:∀ p,p∈Hr F++G2 F A A.length↔_:=fun p=>Afc (F:=F) cA (p:=p);have hll:(Hr F++G2 F A A.length).length<=1000000:=by rw[A0z];omega
 generalize Hr F++G2 F A A.length=L at hP hnd hmm hll;by_cases h24:24<L.length
 ·refine G.gT (L.length:Int) 24 ?_;refine G.drop PH.mt kV (PH.mt_le _) ?_;exact G.r (.tuple #[.slice none 0 0,.int .i64 3]) ⟨rfl,.inl ⟨rfl,Dw A8 L,by rw[(Gx (c:=A8) L).length_eq];exact h24,P6 Dp hnd,fun p=>(Gx (c:=A8) L).mem_iff.trans (hmm p)⟩⟩
 ·refine G.gF (L.length:Int) 24 ?_;refine G.callA _ _ kV kV call189 (C2 m6).symm (Sj m6) (Ah5 hP hnd hll) ?_;rintro v7 u7 m7 l7 ⟨rfl,hS⟩ _;rw[C2];have hp:=Gx (c:=A8) L;have hsl:(Dw A8 L).length=L.length:=hp.length_eq;refine G.give _ _ _ kV hS (fun g=>.inl rfl) ?_;intro u8 l8 hL8;refine G.drop PH.mt kV (PH.mt_le _) ?_;exact G.r (.tuple #[.slice pa L.length pc,.int .i64 0]) ⟨rfl,.inr ⟨_,Dw A8 L,rfl,hL8,oV,P6 Dp hnd,fun p=>hp.mem_iff.trans (hmm p)⟩⟩
end
section
end
section
variable [Cc] [Dy]
section
variable {P:Program} {id:Nat} {ops:Array Oper} {dr:Bool} {Fin:S->PH->PH->Prop} {c:Cx} {Q:Exit->Act->World->Prop}
theorem Ob.wpAny3 {s0:S}(hL0:La s0)(hE:(A1q ops.size).all (Hq ops)=true)(hF:∀ s u m ρ a w,Fin s u m->Rel c s u m ρ a w->Q .normal a w){p q r:Nat}{post:List Nat}(hpost:∀ y∈post,bef ops ops.size y p=true)(hrq:bef ops ops.size r q=true)(hpq:dir ops p q=false)(hpr:dir ops p r=false) :
 ∀ (n:Nat) (pre:List Nat) (listed:Array Bool) {s:S} {u m:PH} {ρ:Nat->Nat} {a:Act} {w:World},pre.length+(post.length+3)=n->H8 ops listed (pre++p::q::r::post) ->
  (pre++p::post).Pairwise (fun x y=>Eg ops s0 x y=true)->(pre++q::r::post).Pairwise (fun x y=>Eg ops s0 x y=true)->Ei ops s0 s ->
  Ob P id ops true (fun s u m=>Ob P id ops true Fin (p::q::r::post) s u m/\Ob P id ops true (fun s u m=>Ob P id ops true Fin (p::r::post) s u m/\Ob P id ops true Fin (r::p::post) s u m) [q] s u m) pre s u m->Rel c s u m ρ a w->Go.wpAny P .any ops Q n listed a w:=by
 intro n;induction n with
 |zero=>intro pre listed s u m ρ a w hlen;omega
 |succ n ih =>
  intro pre listed s u m ρ a w hlen hLeft hP1 hP2 hag hO hr;refine⟨fun hnil=>?_,fun i hi=>?_⟩
  ·exfalso;cases pre with
   |nil =>
    have:=hLeft.first hE fun x hx=>by
     simp only[A02]at hx;rcases hx with rfl|rfl|hx
     ·exact hpq
     ·exact hpr
     ·exact Dc (A2h hP1 hx)
    rw[hnil]at this;cases this
   |cons t T' =>
    have:=H8.first (t:=t) (T:=T'++p::q::r::post) hLeft hE fun x hx=>by
     simp only[A01,A02]at hx;rcases hx with hx|rfl|rfl|rfl|hx
     ·exact Dc (A2h hP1 (by simp[hx]))
     ·exact Dc (A2h hP1 mV)
     ·exact Dc (A2h hP2 mV)
     ·exact Dc (A2h hP2 mV)
     ·exact Dc (A2h hP1 (by simp[hx]))
    rw[hnil]at this;cases this
  ·obtain⟨h1,h2,o,ho,hpre⟩:=O5.1 hi;have hm:=(hLeft.mem i h1).1 h2;simp only[A01,A02]at hm;rcases hm with hm|hm|hm|hm|hm
   ·obtain⟨A,B,rfl⟩:=List.append_of_mem hm;have hLeft':H8 ops listed (A++i::(B++p::q::r::post)):=by
     rw[A1j]at hLeft;exact hLeft
    have hP1':(A++i::(B++p::post)).Pairwise (fun x y=>Eg ops s0 x y=true):=by
     rw[A1j]at hP1;exact hP1
    have hP2':(A++i::(B++q::r::post)).Pairwise (fun x y=>Eg ops s0 x y=true):=by
     rw[A1j]at hP2;exact hP2
    have hsw:=hLeft'.swaps (A:=A) (s0:=s0) (fun x hx=>by simp[hx]) ho hpre fun x hx=>(A3a.1 hP1').2.2 x hx i mV;have hO':=Ob.bubble hL0 A hsw hr.lv hag hO;refine wpOp_mono (fun a' w' ⟨s',u',m',ρ',r1,ra,r2⟩=>?_) (hO'.step (Q:=Q) hr);refine ih (A++B) _ (by simp at hlen⊢;omega) (by rw[A1j];exact hLeft'.next ho hpre) ?_ ?_ (hag.trans ra) r2 r1
    ·rw[A1j];exact hP1'.sublist (A36 (A4d i _) A)
    ·rw[A1j];exact hP2'.sublist (A36 (A4d i _) A)
   ·subst hm;have hsw:=hLeft.swaps (A:=pre) (s0:=s0) (fun x hx=>by simp[hx]) ho hpre fun x hx=>(A3a.1 hP1).2.2 x hx i mV;have hO':=Ob.bubble hL0 pre hsw hr.lv hag (Ob.append (l2:=i::q::r::post) (hO.fin fun s u m h=>h.1));refine wpOp_mono (fun a' w' ⟨s',u',m',ρ',r1,ra,r2⟩=>?_) (hO'.step (Q:=Q) hr);exact (hLeft.next ho hpre).any hL0 hE hF gV hP2 (hag.trans ra) r2 r1
   ·subst hm;have hLeft':H8 ops listed (pre++i::p::r::post):=hLeft.perm ((List.Perm.swap i p (r::post)).append_left pre);have hsw:=hLeft'.swaps (A:=pre) (s0:=s0) (fun x hx=>by simp[hx]) ho hpre fun x hx=>(A3a.1 hP2).2.2 x hx i mV;have hO':=Ob.bubble (B:=[]) hL0 pre hsw hr.lv hag (Ob.append (l2:=[i]) (hO.fin fun s u m h=>h.2));refine wpOp_mono (fun a' w' ⟨s',u',m',ρ',r1,ra,r2⟩=>?_) (hO'.step (Q:=Q) hr);rw[A1i]at r2;exact Ob.wpAny2 hL0 hE hF hpost hpr n pre _ oV (hLeft'.next ho hpre) hP1 (hP2.sublist (A36 (A4d i _) pre)) (hag.trans ra) r2 r1
   ·exfalso;subst hm;exact hLeft.no (x:=q) mV (Aqq hLeft.cl ops.size i (fun o' ho'=>by rw[ho]at ho';obtain rfl:=A2d ho';exact hpre) hrq)
   ·exfalso;exact hLeft.no (x:=p) mV (Aqq hLeft.cl ops.size i (fun o' ho'=>by rw[ho]at ho';obtain rfl:=A2d ho';exact hpre) (hpost i hm))
def Ag2 (ops:Array Oper)(s:S)(pre:List Nat)(p q r:Nat)(post:List Nat):Bool :=
 A17 (pre.length+(post.length+3)) ops.size&&(A1q ops.size).all (fun i=>(pre++p::q::r::post).contains i)&&(pre++p::q::r::post).all (fun i=>Nat.blt i ops.size)&&Lk ops s (pre++p::post)&&Lk ops s (pre++q::r::post) &&
  (A1q ops.size).all (Hq ops)&&post.all (fun y=>bef ops ops.size y p) && !dir ops p q && !dir ops p r && !A17 p q && !A17 p r&&bef ops ops.size r q
end
section
variable {P:Program} {fn:Func} {Post:B0}
theorem Sym.reg_three (hm:P.follows .mixedOrders=true){id:Nat}{ops:Array Oper}{pre post:List Nat}{p q r:Nat}{s:S}(hB:Ag2 ops s pre p q r post=true){k:List KI}{u m:PH}
 (h:Ob P id ops true (fun s u m=>Ob P id ops true (Oq P fn Post k) (p::q::r::post) s u m/\Ob P id ops true (fun s u m=>Ob P id ops true (Oq P fn Post k) (p::r::post) s u m/\Ob P id ops true (Oq P fn Post k) (r::p::post) s u m) [q] s u m) pre s u m):Oq P fn Post (.code (.region id ops true)::k) s u m:=by
 intro c ρ a w hm0 hr;simp only[Hs,Exit.then];unfold Ag2 at hB;simp only[A05,Bool.not_eq_true']at hB;obtain⟨⟨⟨⟨⟨⟨⟨⟨⟨⟨⟨b1,b2⟩,b3⟩,b4⟩,b5⟩,b6⟩,b7⟩,b8⟩,b9⟩,b10⟩,b11⟩,b12⟩:=hB;have b1:=Nat.eq_of_beq_eq_true b1;rw[List.all_eq_true]at b2 b3 b7;have P1:=D4 b4;have P2:=D4 b5;have n1:=Fb P1;have n2:=Fb P2;have hne:p≠q:=fun e=>by rw[e]at b10;simp at b10
 have hne2:p≠r:=fun e=>by rw[e]at b11;simp at b11
 refine wp_region_any hm ?_;refine Ob.wpAny3 (c:=c) hr.lv b6 (fun s u m ρ a w hf hr=>hf c ρ a w hm0 hr) b7 b12 b8 b9 _ pre _ b1 ⟨mV,fun i hi=>?_,fun i hi=>Nat.blt_eq▸b3 i hi,?_,fun i hi=>?_⟩ P1 P2 (Ei.refl _ _) h hr.drew
 ·have:=b2 i (by simpa using hi);rw[List.contains_iff_mem]at this;simp only[A1f,Array.getElem?_replicate,hi,if_true,A2y];exact⟨fun _=>this,fun _=>trivial⟩
 ·rw[A3w]at n1 n2⊢;simp only[List.nodup_cons,A02]at n1 n2⊢;obtain⟨a1,⟨a2,a3⟩,a4⟩:=n1;obtain⟨c1,c2,c4⟩:=n2;refine⟨a1,⟨fun e=>?_,c2⟩,fun x hx y hy=>?_⟩
  ·rcases e with e|e|e
   ·exact hne e
   ·exact hne2 e
   ·exact a2 e
  ·rcases hy with rfl|hy
   ·exact a4 x hx _ (.inl rfl)
   ·exact c4 x hx _ hy
 ·exfalso;simp only[A1f]at hi;by_cases hlt:i<ops.size
  ·simp[hlt]at hi
  ·rw[Array.getElem?_eq_none gV]at hi;simp at hi
def Ahj (P:Program)(pre:List Nat)(p q r:Nat)(post:List Nat)(st:List KI×S):Bool:=match st with
 |(.code (.region id ops true)::k,s)=>Ag2 ops s pre p q r post&&(Qi P id ops pre s).isSome
 |_=>false
end
section rules
variable {P:Program} [Ba P] {fn:Func} {Post:B0} {st:List KI×S} {u m:PH}
theorem Aag (e:TypeId)(sz bt:Nat)(z:Value)(es:List Value)(ho:A3 sz es)(hzs:z.cells.size=sz)(hsz:0<sz)(hn0:0<es.length)(hb:es.length*sz<=16777216)(env:Operand->Value)(o:Oper)(hview:A7 P env o.op=.buildS (some (e,sz,bt,z)) es.length (es.zipIdx.map fun p=>(p.2,p.1)))(w:World)(hgd:Bx u m w) :
 D3 P env o w fun v' w'=>∃ u' m',Bx u' m' w'/\Bz u m w u' m' w'/\(m'=m/\∃ g,v'=.slice (some ⟨g,0,none⟩) es.length es.length/\El u' g 0 sz es):=by
 obtain⟨t,qs,e1,e2,hi⟩:=E1 hview;obtain⟨dst,opp,type,pos,after,guard⟩:=o;simp only at e1;subst e1;obtain⟨hu,i,hi1,hi2,rfl,rfl⟩:=Df hi;obtain⟨g1,g2,g3,g4⟩:=hgd.newU (.cells (Az es).toArray e (0,0));have hfl:=A2 ho;have hne:es.length*i.size≠0:=by have:=A5h hn0 hsz;omega
 have hfill:=Oz es 0 ((A6d (es.length*i.size)).map (z.cells[· % z.cells.size]!)) ho mV;have e0:((A6d (es.length*i.size)).map (z.cells[· % z.cells.size]!)).toList.drop (es.length*i.size) = []:=by
  apply List.drop_eq_nil_of_le;simp
 simp only[A4p,List.take_zero,List.nil_append,A2b,e0,A1i]at hfill;refine Bq (w':=w.alloc (.cells (Az es).toArray e (0,0))) (v:=.slice (some ⟨w.heap.size,0,none⟩) es.length es.length) ?_ ⟨_,m,g1,g2,rfl,_,rfl,?_⟩
 ·simp only[execOp,e2];simp[Instr.buildSlice,run_underlying hu,sizeOf,typeInfo,zeroValue,hi1,hi2,hne,hfill,newRow,show ¬ 16777216<es.length*i.size by omega]
 ·intro j x hj ii y hy;refine⟨_,_,_,Ac _ _ _,?_⟩;rw[A2x,A2b];exact Gm ho hj hy
theorem G.three (pre:List Nat)(p q r:Nat)(post:List Nat)(e:TypeId)(sz bt:Nat)(z:Value)(es:List Value)(h:Ahj P pre p q r post (adv P st)=true)(hq:Al P (Kz P pre (q::p::r::post) (adv P st))=.buildS (some (e,sz,bt,z)) es.length (es.zipIdx.map fun p=>(p.2,p.1)))(ho:A3 sz es)(hzs:z.cells.size=sz)(hsz:0<sz)(hn0:0<es.length)(hb:es.length*sz<=16777216)
 (k1:G P fn Post (Kz P pre (p::q::r::post) (adv P st)) u m)
 (k2:∀ g u',PH.le u u'->El u' g 0 sz es->G P fn Post (nx (Kz P pre (q::p::r::post) (adv P st)) (.slice (some ⟨g,0,none⟩) es.length es.length)) u' m/\G P fn Post (nx (Kz P pre (q::r::p::post) (adv P st)) (.slice (some ⟨g,0,none⟩) es.length es.length)) u' m):G P fn Post st u m:=by
 refine G.stp ⟨?_⟩;generalize adv P st=st' at h hq k1 k2;unfold Ahj at h;split at h
 ·rename_i id ops k s;rw[A05]at h;obtain⟨h1,h2⟩:=h;obtain⟨s',hs'⟩:=Option.isSome_iff_exists.1 h2;have e0:∀ l,Kz P pre l (.code (.region id ops true)::k,s)=(.reg id ops true l::k,s'):=fun l=>by unfold Kz;simp only[hs']
  rw[e0]at k1 hq;rw[e0,e0]at k2;obtain⟨id',ops',dr',i',l',kk',s'',o,e1,ho',hg,hd,hv,hs,hview,hnx⟩:=Ho hq mV;simp only[A1r,List.cons.injEq,KI.reg.injEq]at e1;obtain⟨⟨⟨rfl,rfl,rfl,rfl,rfl⟩,rfl⟩,rfl⟩:=e1;refine Sym.reg_three Ba.mx h1 (Ob.autos hs' ⟨k1.out,?_⟩);refine Ob.big (K:=fun v' u' m'=>m'=m/\∃ g,v'=.slice (some ⟨g,0,none⟩) es.length es.length/\El u' g 0 sz es) ho' hg hd hv hs (by
   obtain⟨t,qs,e2,_⟩:=E1 hview;rw[e2];rfl) (fun v u' m' hK=>.inl (by rw[hK.1];exact PH.le_refl _)) (fun w hgd=>Aag e sz bt z es ho hzs hsz hn0 hb _ o hview w hgd) (fun v u' m' hle hK=>?_)
  obtain⟨rfl,g,rfl,hE⟩:=hK;obtain⟨c1,c2⟩:=k2 g u' hle hE;have n1:nx (.reg id ops true (q::p::r::post)::k,s') (.slice (some ⟨g,0,none⟩) es.length es.length)=(.reg id ops true (p::r::post)::k,s'.put o.dst (.v (.slice (some ⟨g,0,none⟩) es.length es.length))):=by
   unfold nx;simp only[ho']
  have n2:nx (.reg id ops true (q::r::p::post)::k,s') (.slice (some ⟨g,0,none⟩) es.length es.length)=(.reg id ops true (r::p::post)::k,s'.put o.dst (.v (.slice (some ⟨g,0,none⟩) es.length es.length))):=by
   unfold nx;simp only[ho']
  rw[n1]at c1;rw[n2]at c2;exact .nil ⟨c1.out,c2.out⟩
 ·cases h
end rules
end
section
variable {M:List (Par×Rat)}{P:List Par}{m0:Rat}{u:PH}{v:Value}{x:Par×Rat}
structure Ar9 (u:PH)(v:Value)(m0:Rat)(M:List (Par×Rat)):Prop where
 val:∃ a c,v=.agg #[.string (mkS (Af m0)),.slice a M.length c]/\Ab u (.slice a M.length c) 3 (M.map A5)
theorem Ar9.mono {u u':PH}{v:Value}{m0:Rat}{M:List (Par×Rat)}(h:Ar9 u v m0 M)(hl:PH.le u u'):Ar9 u' v m0 M:=by
 obtain⟨a,c,e,h1⟩:=h.val;exact⟨a,c,e,h1.mono hl⟩
structure Ew (P:List Par)(m0:Rat)(M:List (Par×Rat)):Prop where
 c:Tx m0
 t:∀ x∈M,Tx x.2
 srt:Ef A8 (M.map (·.1))
 sub:∀ x∈M,x.1∈P
 len:M.length<=P.length
def cfE (m0:Rat)(M:List (Par×Rat)):Option Par->Rat
 |none=>m0
 |some p=>Bi p M
theorem Wq (hP:Ab u v 2 (P.map An))(hs:Ef A8 P)(hl:P.length<=1000000) :
 Fn0 prog 131 [v] u fun r _=>r=.bool true:=by
 obtain⟨pa,pc,rfl⟩:=hP.opn;rw[A0p]at hP⊢;refine Fn0.o func131 ?_;refine G.l (ι:=Nat) (fun i=>[(0,sV pa P.length pc),(3,iV i)]) (fun _=>[])
  (fun i u' m'=>1<=i/\m'=PH.mt) (fun i=>P.length-i) 1 ⟨oV,rfl⟩ ?_
 rintro J i hJ u2 m2 l2 ⟨hi,rfl⟩;by_cases hlt:i<P.length
 ·refine G.lT (i:Int) (P.length:Int) ?_;have hP2:=hP.mono l2;have hPi:P[i]?=some P[i]:=A0n hlt;have hPj:P[i-1]?=some (P[i-1]'oV):=A0n oV;have hcm:A8 (P[i-1]'oV) P[i]<0:=List.pairwise_iff_getElem.1 hs (i-1) i oV hlt oV;obtain⟨ba,oa,e0,ea⟩:=Ab.at' hP2 (j:=i) (e:=An P[i]) (by simp[hPi]);obtain⟨ba',oa',e0',eb⟩:=Ab.at' hP2 (j:=i-1) (e:=An (P[i-1]'oV)) (by simp[hPj]);rw[e0]at e0';cases e0';subst e0;refine G.s (i:Int) 1 ((i-1:Nat):Int) ?_;refine G.a ba oa P.length pc (i-1) 2 oV ?_;refine G.lU (some 2) ba (oa+(i-1)*2) (An (P[i-1]'oV)) eb ?_;refine G.a ba oa P.length pc i 2 hlt ?_;refine G.lU (some 2) ba (oa+i*2) (An P[i]) ea ?_;refine G.c call206 (U5 _ _ true (decide_eq_true hcm)) ?_;rintro v3 u3 l3 rfl;refine G.i i ?_;exact G.b (hJ (i+1) _ _ _ cV (l2.trans l3) ⟨oV,rfl⟩ oV)
 ·refine G.lF (i:Int) (P.length:Int) ?_;exact G.r (.bool true) ⟨rfl,rfl⟩
theorem Sd (h:Ar9 u v m0 M)(hl:M.length<=100000) :
 Fn0 prog 128 [v] u fun r u'=>Ab u' r 2 ((M.map (·.1)).map An):=by
 obtain⟨a,c,rfl,hM⟩:=h.val;refine Fn0.o func128 ?_;refine G.l (ι:=Nat×(Option Addr×Nat)) (fun i=>[(3,sV i.2.1 (M.take i.1).length i.2.2),(7,sV a M.length c),(8,iV M.length),(9,iV i.1)]) (fun _=>[])
  (fun i u' m'=>i.1<=M.length/\Ae PH.mt m' (.slice i.2.1 (M.take i.1).length i.2.2) 79 2 (((M.take i.1).map (·.1)).map An)) (fun i=>M.length-i.1) (0,(none,0)) ⟨oV,Ae.nil _ _ _⟩ ?_
 rintro J ⟨i,⟨pa,pc⟩⟩ hJ u2 m2 l2 ⟨hi,hA⟩;simp only at hi hA hJ;by_cases hlt:i<M.length
 ·refine G.lT (i:Int) (M.length:Int) ?_;obtain⟨x,hMi⟩:∃ x,M[i]?=some x:=⟨_,A0n hlt⟩;have htk:=E6 hMi;have htl:(M.take i).length=i:=by rw[A00];omega
  obtain⟨ba,oa,rfl,ea⟩:=Ab.at' (hM.mono l2) (j:=i) (e:=A5 x) (by simp[hMi]);refine G.a ba oa M.length c i 3 hlt ?_;refine G.lU (some 3) ba (oa+i*3) (.agg #[.int .i64 x.1.1,.string (mkS x.1.2),.string (mkS (Af x.2))]) ea ?_;refine G.B 79 2 24 (.agg #[.int .i64 0,.string (mkS [])]) [.agg #[.int .i64 x.1.1,.string (mkS x.1.2)]] (Gd x.1) ?_;intro g6 u6 l6 e6;refine G.k 79 2 24 (.agg #[.int .i64 0,.string (mkS [])]) PH.mt (((M.take i).map (·.1)).map An) [An x.1] _ g6 0 1 1 hA e6 (Gd x.1) ?_;intro v7 m7 hA7;rw[show ((M.take i).map (·.1)).map An++[An x.1]=((M.take (i+1)).map (·.1)).map An by rw[htk];simp]at hA7;obtain⟨a7,c7,rfl⟩:=hA7.shape;rw[A0p,A0p]at hA7⊢;refine G.i i ?_;exact G.b (hJ (i+1,(a7,c7)) _ _ _ cV (l2.trans l6) ⟨dV,hA7⟩ dV)
 ·obtain rfl:i=M.length:=oV
  refine G.lF (M.length:Int) (M.length:Int) ?_;rw[A1k]at hA⊢;refine G.give _ _ _ kV hA (fun g=>.inl rfl) ?_;intro u3 l3 hL;exact G.r (.slice pa M.length pc) ⟨rfl,hL⟩
theorem Aic (h:Tx x.2):Fn0 prog 205 [A5 x] u fun r _=>r=.bool false:=by
 refine Fn0.o func205 ?_;refine G.c call154 (Aqm h) ?_;rintro v1 u1 l1 rfl;exact G.r (.bool false) ⟨rfl,rfl⟩
theorem Qa (h:Ar9 u v m0 M)(hl:M.length<=100000)(h0:Tx m0)(ht:∀ x∈M,Tx x.2) :
 Fn0 prog 130 [v] u fun r _=>r=.bool true:=by
 obtain⟨a,c,rfl,hM⟩:=h.val;refine Fn0.o func130 ?_;refine G.c call154 (Aqm h0) ?_;rintro v1 u1 l1 rfl;refine G.c call185 (T0 (hM.mono l1) oV call205 fun x hx u' _=>Aic (ht x hx)) ?_;rintro v2 u2 l2 rfl;exact G.r (.bool true) ⟨rfl,rfl⟩
def cfL (m0:Rat)(P:List Par)(L:List (Par×Rat)):List (List UInt8):=Af m0::P.map fun p=>Af (Bi p L)
theorem Adi (m0:Rat)(P:List Par)(L:List (Par×Rat)):(cfL m0 P L).length=P.length+1:=by unfold cfL;simp
theorem Ajk {L:List (Par×Rat)}{k:Nat}(hk:P[k]?=some x.1)(hn:P.Nodup)(hx:x.1∉L.map (·.1)):(cfL m0 P L).set (k+1) (Af x.2)=cfL m0 P (L++[x]):=by
 have:=Ae7 hk hn hx;unfold Ab9 at this;rw[A2c]at this;unfold cfL;rw[A2c,(A8w this).2]
theorem Ak5 (m0:Rat)(P:List Par)(M:List (Par×Rat)):cfL m0 P M=((Ak P).map (cfE m0 M)).map Af:=by
 unfold cfL Ak;rw[A1y,A1y,A9e,A9e];rfl
theorem Ew.tx (h:Ew P m0 M):Tx m0/\∀ x∈M,Tx x.2:=⟨h.c,h.t⟩
theorem Aj9 {pv v:Value}(hP:Ab u pv 2 (P.map An))(hs:Ef A8 P)(hl:P.length<=10000)(h:Ar9 u v m0 M)(ok:Ew P m0 M) :
 Fn0 prog 116 [pv,v] u fun r u'=>∃ lv,r=.tuple #[lv,.int .i64 0]/\Fe u' lv (((Ak P).map (cfE m0 M)).map Af):=by
 have hMl:=ok.len;have hasc:=fun (u':PH) (l:PH.le u u')=>Wq (hP.mono l) hs oV;have hnum:=fun (u':PH) (l:PH.le u u')=>Qa (h.mono l) oV ok.tx.1 ok.tx.2;have hpar:=fun (u':PH) (l:PH.le u u')=>Sd (h.mono l) oV;have hnd:=hs.nodup Dp;have hMn:=ok.srt.nodup Dp;obtain⟨pa,pc,rfl⟩:=hP.opn;obtain⟨a,c,rfl,hM⟩:=h.val;rw[A0p]at hP hasc⊢;refine Fn0.o func116 ?_;refine G.c call131 (hasc u (PH.le_refl _)) ?_;rintro v1 u1 l1 rfl;refine G.c call130 (hnum u1 l1) ?_;rintro v2 u2 l2 rfl;have le2:=l1.trans l2;refine G.c call128 (hpar u2 le2) ?_;intro v3 u3 l3 k3;obtain⟨a3,c3,rfl⟩:=Ab.opn k3;refine G.c call131 (Wq k3 ok.srt (by rw[A0p];omega)) ?_;rintro v4 u4 l4 rfl;have le4:=(le2.trans l3).trans l4;have hd0:(cfL m0 P []).map nmV = [Baq (mkS (Af m0))]++A0x P.length (Baq (mkS [48])):=by
  have:=Agp P;unfold Ab9 at this;unfold cfL;rw[(A8w this).2,A1y,List.map_replicate];rfl
 have hcl:((cfL m0 P []).map nmV).length=P.length+1:=by rw[A0p,Adi]
 have hne:(cfL m0 P []).map nmV≠[]:=by unfold cfL;simp
 refine G.joinF (ι:=Nat×Nat) (fun st=>Xy prog (Kz prog [0,1,4,5] [2,3,6,7,8] (adv prog st)) [undef,undef,undef,undef]) (fun i=>[(0,sV pa P.length pc),(3,.p 0 0),(6,sV (some ⟨i.1,0,none⟩) (P.length+1) i.2)]) (fun _=>[(0,⟨42,[tV (Af m0),sV a M.length c]⟩)])
  (fun i u' m'=>Ae PH.mt m' (.slice (some ⟨i.1,0,none⟩) (P.length+1) i.2) 33 1 ((cfL m0 P []).map nmV)) (fun _=>kV) kV ?tail ?way
 case way =>
  intro hjoin;refine G.three [0,1,4,5] 2 3 6 [7,8] 33 1 16 (.string (mkS [])) [.string (mkS [48])] kV kV (Cu [[48]]) rfl oV mV mV ?_ ?_
  ·refine G.buildM 33 1 16 (.string (mkS [])) [.string (mkS (Af m0))] kV (Cu [Af m0]) rfl oV mV mV ?_;intro g5 m5 hA5;refine G.B 33 1 16 (.string (mkS [])) [.string (mkS [48])] (Cu [[48]]) ?_;intro g6 u6 l6 e6;refine G.c call191 (Re (n:=P.length) e6.listP (Cu [[48]]) oV) ?_;intro v7 u7 l7 k7;obtain⟨a7,c7,rfl⟩:=Ab.opn k7;refine G.appendL 33 1 16 (.string (mkS [])) PH.mt [.string (mkS (Af m0))] (A0x P.length (.string (mkS [48]))) _ a7 _ c7 kV rfl rfl oV hA5 k7 ((Cu [[48]]).replicate _) gV gV ?_;intro v8 m8 hA8;rw[<-hd0]at hA8;obtain⟨b8,c8,rfl⟩:=hA8.ptr hne;rw[hcl]at hA8⊢;exact hjoin (b8,c8) _ _ _ kV cV (l6.trans l7) hA8
  ·intro g6 u6 l6 e6;refine⟨?_,?_⟩
   ·refine G.buildM 33 1 16 (.string (mkS [])) [.string (mkS (Af m0))] kV (Cu [Af m0]) rfl oV mV mV ?_;intro g5 m5 hA5;refine G.c call191 (Re (n:=P.length) e6.listP (Cu [[48]]) oV) ?_;intro v7 u7 l7 k7;obtain⟨a7,c7,rfl⟩:=Ab.opn k7;refine G.appendL 33 1 16 (.string (mkS [])) PH.mt [.string (mkS (Af m0))] (A0x P.length (.string (mkS [48]))) _ a7 _ c7 kV rfl rfl oV hA5 k7 ((Cu [[48]]).replicate _) gV gV ?_;intro v8 m8 hA8;rw[<-hd0]at hA8;obtain⟨b8,c8,rfl⟩:=hA8.ptr hne;rw[hcl]at hA8⊢;exact hjoin (b8,c8) _ _ _ kV cV (l6.trans l7) hA8
   ·refine G.c call191 (Re (n:=P.length) e6.listP (Cu [[48]]) oV) ?_;intro v7 u7 l7 k7;obtain⟨a7,c7,rfl⟩:=Ab.opn k7;refine G.buildM 33 1 16 (.string (mkS [])) [.string (mkS (Af m0))] kV (Cu [Af m0]) rfl oV mV mV ?_;intro g5 m5 hA5;refine G.appendL 33 1 16 (.string (mkS [])) PH.mt [.string (mkS (Af m0))] (A0x P.length (.string (mkS [48]))) _ a7 _ c7 kV rfl rfl oV hA5 k7 ((Cu [[48]]).replicate _) gV gV ?_;intro v8 m8 hA8;rw[<-hd0]at hA8;obtain⟨b8,c8,rfl⟩:=hA8.ptr hne;rw[hcl]at hA8⊢;exact hjoin (b8,c8) _ _ _ kV cV (l6.trans l7) hA8
 rintro⟨b8,c8⟩ u7 m8 l7 hA8;simp only at hA8;have le7:=le4.trans l7;refine G.l (ι:=Nat) (fun i=>[(0,sV pa P.length pc),(6,sV (some ⟨b8,0,none⟩) (P.length+1) c8),(32,sV a M.length c),(33,iV M.length),(34,iV i)]) (fun _=>[])
  (fun i u' m'=>i<=M.length/\Ae PH.mt m' (.slice (some ⟨b8,0,none⟩) (P.length+1) c8) 33 1 ((cfL m0 P (M.take i)).map nmV)) (fun i=>M.length-i) 0 ⟨oV,hA8⟩ ?_
 rintro J i hJ u9 m9 l9 ⟨hi,hA⟩;have le9:=le7.trans l9;by_cases hlt:i<M.length
 ·refine G.lT (i:Int) (M.length:Int) ?_;obtain⟨x,hMi⟩:∃ x,M[i]?=some x:=⟨_,A0n hlt⟩;have hxm:=A1b hMi;have htk:=E6 hMi;obtain⟨k,hk,hkx⟩:=A19 (ok.sub x hxm);have hkx':P[k]?=some x.1:=by rw[A0n hk,hkx]
  have hnew:x.1∉(M.take i).map (·.1):=by
   intro hm;obtain⟨y,hy,hye⟩:=A0u.1 hm;obtain⟨j,hj,rfl⟩:=A19 hy;rw[A00]at hj;have:=Og hMn (i:=j) (j:=i) (x:=x.1) (by rw[A0v,A0n oV];simp only[A3h];rw[<-hye,List.getElem_take]) (by rw[A0v,hMi];rfl);omega
  obtain⟨ba,oa,rfl,ea⟩:=Ab.at' (hM.mono le9) (j:=i) (e:=A5 x) (by simp[hMi]);refine G.a ba oa M.length c i 3 hlt ?_;refine G.lU (some 3) ba (oa+i*3) (.agg #[.int .i64 x.1.1,.string (mkS x.1.2),.string (mkS (Af x.2))]) ea ?_;refine G.c call192 (Ame (p:=x.1) (hP.mono le9) hkx' (fun j hj e=>by have:=Og hnd e hkx';omega) oV) ?_;rintro v10 u10 l10 rfl;refine G.hT (k:Int) 0 ?_;refine G.i k ?_;refine G.a b8 0 (P.length+1) c8 (k+1) 1 oV ?_;refine G.storeA 1 PH.mt _ b8 (P.length+1) c8 (k+1) (.string (mkS (Af x.2))) kV hA (by rw[A0p,Adi];omega) rfl (by simp[A1e,Be]) ?_;intro m11 hA11;have e11:((cfL m0 P (M.take i)).map nmV).set (k+1) (.string (mkS (Af x.2)))=(cfL m0 P (M.take (i+1))).map nmV:=by
   rw[htk,<-Ajk hkx' hnd hnew,List.map_set];rfl
  rw[e11]at hA11;refine G.i i ?_;exact G.b (hJ (i+1) _ _ _ cV (l9.trans l10) ⟨oV,hA11⟩ oV)
 ·obtain rfl:i=M.length:=oV
  refine G.lF (M.length:Int) (M.length:Int) ?_;rw[A1k]at hA;refine G.give _ _ _ kV hA (fun g=>.inl rfl) ?_;intro u10 l10 hL;have hL2:Fe u10 (.slice (some ⟨b8,0,none⟩) (P.length+1) c8) (((Ak P).map (cfE m0 M)).map Af):=by
   rw[<-Ak5];exact hL
  exact G.r (.tuple #[.slice (some ⟨b8,0,none⟩) (P.length+1) c8,.int .i64 0]) ⟨rfl,_,rfl,hL2⟩
end
section
variable {F:List Ao}{R:List Bk}{T:List (List UInt8×Nat)}{lab:Int}{p:Par}{u:PH}{v:Value}
def Adv (F:List Ao)(p:Par):Prop:=∃ (k:Nat) (f:Ao),p.1=(k:Int)/\F[k]?=some f/\(p.2 = []\/(f.2.1=2/\Gw p.2=true))
theorem Ae4 (hX:F1 u v T R F lab)(ok:Bn u T R F lab)(hp:Adv F p) :
 Fn0 prog 134 [v,An p] u fun r _=>r=.bool true:=by
 obtain⟨xa,xc,xb,xd,xe,xf,rfl,hTL,hRL,hFL⟩:=hX;have hf8:=ok.f2;obtain⟨k,f,h1,hf,h3⟩:=hp;obtain⟨p1,p2⟩:=p;simp only at h1 h3;subst h1;have hk:=(A0s.1 hf).1;obtain⟨bb,ob,rfl,eb⟩:=Ab.at' hFL (j:=k) (e:=B6 f) (by simp[hf]);obtain⟨f1,f2,f3⟩:=f;simp only at h3;refine Fn0.o func134 ?_;refine G.lF (k:Int) 0 ?_;refine G.hF (k:Int) (F.length:Int) ?_;by_cases hc:p2 = []
 ·refine G.q p2 [] hc ?_;exact G.r (.bool true) ⟨rfl,rfl⟩
 ·obtain⟨h2,hw⟩:=h3.resolve_left hc;refine G.w p2 [] hc ?_;refine G.a bb ob F.length xf k 3 hk ?_;refine G.f 144 bb (ob+k*3) 1 1 ?_;refine G.lU none bb (ob+k*3+1) (.int .i64 (f2:Int)) (eb.fld (j:=1) (xs:=#[.int .i64 (f1:Int),.int .i64 (f2:Int),.int .i64 (f3:Int)]) rfl rfl) ?_;refine G.eT (f2:Int) 2 ?_;refine G.c call208 (Ajx hw) ?_;rintro v1 u1 l1 rfl;exact G.r (.bool true) ⟨rfl,rfl⟩
theorem Ams {u m:PH}{b:Nat}(hb:ElP m b 0 v)(hX:F1 u v T R F lab)(ok:Bn u T R F lab)(hp:Adv F p) :
 FnK prog 133 [An p,.pointer (some ⟨b,0,none⟩)] u m fun v _=>v=.bool false:=by
 have hbel:=Ae4 hX ok hp;obtain⟨xa,xc,xb,xd,xe,xf,rfl,hTL,hRL,hFL⟩:=hX;refine FnK.of func133 kV kV ?_;refine G.lM (some 4) b 0 (.agg #[.slice xa T.length xc,.slice xb R.length xd,.slice xe F.length xf,.int .i64 lab]) hb ?_;refine G.c call134 hbel ?_;rintro v1 u1 l1 rfl;exact G.r (.bool false) ⟨rfl,rfl⟩
theorem Agy {u m:PH}{v cap:Value}{P:List Par}{fid:Nat}(h:Ab u v 2 (P.map An))(hl:P.length<=1000000)
 (hcall:∀ args w,(callFunc fid args).run prog w=.ok (.enter fid args) w) (hf:∀ p∈P,∀ u',PH.le u u'->FnK prog fid [An p,cap] u' m fun v _=>v=.bool false) :
 FnK prog 207 [v,.func (.func fid) #[] #[cap]] u m fun v' _=>v'=.int .i64 (-1):=by
 obtain⟨a,c,rfl⟩:=h.opn;rw[A0p]at h⊢;refine FnK.of func207 kV kV ?_;refine G.l (ι:=Nat) (fun i=>[(0,sV a P.length c),(1,.v (.func (.func fid) #[] #[cap])),(7,iV P.length),(8,iV i)]) (fun _=>[])
  (fun i u' m'=>i<=P.length/\m'=m) (fun i=>P.length-i) 0 ⟨oV,rfl⟩ ?_
 rintro J i hJ u1 m1 l1 ⟨hi,rfl⟩;by_cases hlt:i<P.length
 ·refine G.lT (i:Int) (P.length:Int) ?_;have hPi:P[i]?=some P[i]:=A0n hlt;obtain⟨ba,oa,rfl,ea⟩:=Ab.at' (h.mono l1) (j:=i) (e:=An P[i]) (by simp[hPi]);refine G.a ba oa P.length c i 2 oV ?_;refine G.lU (some 2) ba (oa+i*2) (An P[i]) ea ?_;refine G.callK fid [An P[i],cap] kV hcall (hf P[i] (A04 hlt) u1 l1) ?_;rintro v2 u2 l2 rfl;refine G.i i ?_;exact G.b (hJ (i+1) _ _ _ cV (l1.trans l2) ⟨oV,rfl⟩ oV)
 ·obtain rfl:i=P.length:=oV
  refine G.lF (P.length:Int) (P.length:Int) ?_;exact G.r (.int .i64 (-1)) ⟨rfl,rfl⟩
theorem Y8 {u m:PH}{v cap:Value}{P:List Par}{fid:Nat}(h:Ab u v 2 (P.map An))(hl:P.length<=1000000)
 (hcall:∀ args w,(callFunc fid args).run prog w=.ok (.enter fid args) w) (hf:∀ p∈P,∀ u',PH.le u u'->FnK prog fid [An p,cap] u' m fun v _=>v=.bool false) :
 FnK prog 132 [v,.func (.func fid) #[] #[cap]] u m fun v' _=>v'=.bool false:=by
 obtain⟨a,c,rfl⟩:=h.opn;refine FnK.of func132 kV kV ?_;refine G.callK _ _ kV call207 (Agy h hl hcall hf) ?_;rintro v1 u1 l1 rfl;refine G.hF (-1) 0 ?_;exact G.r (.bool false) ⟨rfl,rfl⟩
theorem Agi {v mv:Value}{P:List Par}{m0:Rat}{M:List (Par×Rat)}(hX:F1 u v T R F lab)(ok:Bn u T R F lab)(h:Ar9 u mv m0 M)(hm:Ew P m0 M)(hP:P.length<=10000)(hpar:∀ p∈P,Adv F p) :
 Fn0 prog 61 [v,mv] u fun r _=>r=.bool true:=by
 have hMl:=hm.len;have hck:=fun (u':PH) (l:PH.le u u')=>Abk (hX.mono l) (ok.mono l);have hnum:=fun (u':PH) (l:PH.le u u')=>Qa (h.mono l) oV hm.tx.1 hm.tx.2;have hprm:=fun (u':PH) (l:PH.le u u')=>Sd (h.mono l) oV;obtain⟨xa,xc,xb,xd,xe,xf,rfl,hTL,hRL,hFL⟩:=id hX;obtain⟨a,c,rfl,hM⟩:=h.val;refine Fn0.o func61 ?_;refine G.c call128 (hprm u (PH.le_refl _)) ?_;intro v1 u1 l1 k1;obtain⟨a1,c1,rfl⟩:=Ab.opn k1;refine G.pub 0 31 [.slice xa T.length xc,.slice xb R.length xd,.slice xe F.length xf,.int .i64 lab] kV kV ?_;intro b hb1 hb2;have hcb:ElP (PH.mt.upd b (.cells [A06 xa T.length xc,.slice xb R.length xd,.slice xe F.length xf,.int .i64 lab].toArray 31 (0,0))) b 0 (.agg #[.slice xa T.length xc,.slice xb R.length xd,.slice xe F.length xf,.int .i64 lab]):=Aa3 (xs:=[.slice xa T.length xc,.slice xb R.length xd,.slice xe F.length xf,.int .i64 lab]) (Ac _ _ _) rfl;refine G.lM (some 4) b 0 (.agg #[.slice xa T.length xc,.slice xb R.length xd,.slice xe F.length xf,.int .i64 lab]) hcb ?_;refine G.c call129 (hck u1 l1) ?_;rintro v2 u2 l2 rfl;refine G.eT' 0 0 rfl ?_;refine G.c call130 (hnum u2 (l1.trans l2)) ?_;rintro v3 u3 l3 rfl;refine G.c call131 (Wq ((k1.mono l2).mono l3) hm.srt (by rw[A0p];omega)) ?_;rintro v4 u4 l4 rfl;have le4:=((l1.trans l2).trans l3).trans l4;refine G.callK _ _ kV call132 (Y8 (cap:=.pointer (some ⟨b,0,none⟩)) (((k1.mono l2).mono l3).mono l4) (by rw[A0p];omega) call133 fun p hp u' l'=>Ams hcb (hX.mono (le4.trans l')) (ok.mono (le4.trans l')) (hpar p (by
  obtain⟨x,hx,rfl⟩:=A0u.1 hp;exact hm.sub x hx))) ?_
 rintro v5 u5 l5 rfl;refine G.drop PH.mt kV (PH.mt_le _) ?_;exact G.r (.bool true) ⟨rfl,rfl⟩
end
section
variable {q:Rat}
theorem Aqa {q n d j:Rat}(h2:q=n*j)(hi:d*j=1):q*d=n:=by rw[h2];grind
theorem Dn.smr (h:SmR q):Dn 1 108 q:=by
 obtain⟨k,hk⟩:=h.den;refine⟨q.num*(k:Int),?_,?_⟩
 ·have h1:q*(q.den:Rat)=(q.num:Rat):=by
   have h2:q=(q.num:Rat)/(((q.den:Int)):Rat):=by rw[<-A4h,Rat.num_divInt_den]
   have hi:=Rat.mul_inv_cancel _ (Pr q.den_pos);rw[A2j,Rat.div_def]at h2;exact Aqa h2 hi
  show q*((12^1:Nat):Rat)=_;rw[show (12^1:Nat)=12 from rfl,hk,A6b,A23,A2j,<-h1];grind
 ·rw[A30,Int.natAbs_natCast];have h1:=h.num;have h2:k<=12:=by
   have:=h.le;have:0<q.den:=q.den_pos;rcases A1p k with h0|h0
   ·omega
   ·exact Nat.le_of_dvd oV ⟨q.den,by rw[A10];exact hk⟩
  exact Nat.mul_le_mul h1 h2
theorem W4:Tx 0:=(show SmR 0 from⟨jV,jV⟩).tx
theorem Rw {P:List Par}{m0:Rat}{M:List (Par×Rat)}(h:Ew P m0 M):∀ e,Tx (cfE m0 M e)
 |none=>h.c
 |some p=>by
  show Tx (Bi p M);by_cases hp:p∈M.map (·.1)
  ·obtain⟨x,hx,rfl⟩:=A0u.1 hp;have e:Bi x.1 M=x.2:=F9 (h.srt.nodup Dp) hx;rw[e];exact h.t x hx
  ·rw[Kc hp];exact W4
end
section
variable {F:List Ao}{lab:Int}{p:Par}
theorem Ad0 {p:Par}:∀ (L:List LF) (C:CF),(Gr C L).s p≠0->C.s p≠0\/∃ q,some (some (p,q))∈L
 |[],C,h=>.inl h
 |x::L,C,h=>by
  rcases Ad0 L (C.mul x.cf) h with h1|⟨q,hq⟩
  ·rcases Ez (a:=x.cf.s p*C.c) (b:=C.s p*x.cf.c) h1 with h2|h2
   ·right;have h3:=(B8 h2).1
    match x,h3 with
    |none,h3=>exact absurd rfl h3
    |some none,h3=>exact absurd rfl h3
    |some (some (p',q)),h3 =>
     have h4:(if p=p' then q else 0)≠0:=h3;by_cases e:p=p'
     ·subst e;exact⟨q,A3r ..⟩
     ·rw[if_neg e]at h4;exact absurd rfl h4
   ·exact .inl (B8 h2).1
  ·exact .inr ⟨q,A1w _ hq⟩
theorem Acc {ss:List (List UInt8)}(h:(cfT F lab ss).s p≠0):Aar F lab p/\∃ (a:Nat) (q:Rat),(Em F lab ss)[a]?=some (some (some (p,q)))/\∀ (i:Nat) (f:Ao),p.1=(i:Int)->F[i]?=some f->f.2.1=2->q=1:=by
 rcases Ad0 _ _ h with h|⟨q,hq⟩
 ·exact absurd rfl h
 obtain⟨a,ha,hae⟩:=A19 hq;have hla:a<ss.length:=by rw[F3]at ha;exact ha
 have e:=Gq (F:=F) (lab:=lab) (w:=ss[a]) (A0n hla);have e2:Fg F lab a ss[a]=some (some (p,q)):=by
  rw[A0n ha,hae]at e;exact (A2d e).symm
 have e3:(Em F lab ss)[a]?=some (some (some (p,q))):=by rw[e,e2]
 generalize ss[a]=w at e2;by_cases hl:(a:Int)=lab
 ·have e4:Fg F lab a w=O7 w:=by unfold Fg;rw[if_pos hl]
  rw[e4]at e2;unfold O7 at e2;split at e2
  ·cases e2
  ·simp only[A0t,A1r]at e2;obtain⟨rfl,_⟩:=e2;exact⟨.inl ⟨rfl,oV,rfl⟩,a,q,e3,fun i f h1=>by simp only at h1;omega⟩
 ·rcases Ga (F:=F) (w:=w) hl with h1|⟨i,f,hf,hfa,h1⟩
  ·rw[h1]at e2;cases e2
  ·rw[h1]at e2;unfold Jk at e2;by_cases h2:f.2.1=2
   ·rw[if_pos h2]at e2;simp only[A0t,A1r]at e2;obtain⟨rfl,rfl⟩:=e2;exact⟨.inr ⟨i,f,rfl,hf,.inl h2⟩,a,_,e3,fun _ _ _ _ _=>rfl⟩
   ·rw[if_neg h2]at e2;split at e2
    ·split at e2<;>cases e2
    ·simp only[A0t,A1r]at e2;obtain⟨rfl,_⟩:=e2;refine⟨.inr ⟨i,f,rfl,hf,.inr rfl⟩,a,q,e3,fun j g h3 h4 h5=>?_⟩;simp only at h3;obtain rfl:i=j:=oV
     rw[hf]at h4;cases h4;exact absurd h5 h2
theorem Adn :∀ {L:List E7},(C8 F lab L).s p≠0->∃ y∈L,(cfT F lab y.1).s p≠0:=by
 intro L;induction L using Iv with
 |h0=>exact fun h=>absurd rfl h
 |h1 L y ih =>
  intro h;rw[F5]at h;rcases Ez (a:=(C8 F lab L).s p) (b:=(cfT F lab y.1).s p*(y.2.1:Rat)) h with h1|h1
  ·obtain⟨z,hz,h2⟩:=ih h1;exact⟨z,A24 _ hz,h2⟩
  ·exact⟨y,mV,(B8 h1).1⟩
end
section
variable {C:CF}{P:List Par}{b:Option Par->Rat}
theorem Aau (P:List Par)(C:CF)(h:∀ e,b e=0):Bm b P C=0:=by
 unfold Bm;exact Bv fun e _=>Bv fun f _=>by rw[h e];grind
theorem Ans:Yg (CF.num 0):=⟨rfl,fun _=>rfl,fun _=>rfl⟩
def Atc (m0:Rat)(M:List (Par×Rat))(V:List (Par×Rat)):Rat:=m0+Au (fun t=>t.2*Bi t.1 M) V
theorem QOK.biasS (h:QOK b C)(hP:P.length<=60):Sz (Kf b P C) 1000000 :=
 (Ie (show Sz (C.s Aq) 1000 from h.r none) (h.bs (Ak P) (by rw[Bo];omega))).mono oV
theorem QOK.sqS (h:QOK b C)(hP:P.length<=60):Sz (sqC b P C) 30000000 :=
 (Ie (Ly (h.nm hP) h.l) (Agv (h.rs (Ak P) (by rw[Bo];omega)))).mono oV
end
section
variable {f:Nat->Rat}{n:Nat}
def Dm (n:Nat)(f:Nat->Rat):Rat:=Au f (A1q n)
theorem F0 (n:Nat)(f:Nat->Rat):Dm (n+1) f=Dm n f+f n:=by unfold Dm;rw[A6y,Iu]
theorem Pb (f:Nat->Rat):Dm 0 f=0:=rfl
theorem Er {f g:Nat->Rat}(h:∀ i,i<n->f i=g i):Dm n f=Dm n g:=Bb fun i hi=>h i (List.mem_range.1 hi)
theorem Ri (n:Nat)(f g:Nat->Rat):Dm n (fun i=>f i-g i)=Dm n f-Dm n g:=by
 induction n with
 |zero=>show (0:Rat)=0-0;decide +kernel
 |succ n ih=>rw[F0,F0,F0,ih];grind
theorem Nr (k:Rat)(n:Nat)(f:Nat->Rat):Dm n (fun i=>k*f i)=k*Dm n f:=Dr k _
theorem Ai5:∀ (B:Nat) (f:Nat->Nat),(∀ k,k<=B->f k<B)->∃ i j,i<j/\j<=B/\f i=f j
 |0,f,h=>absurd (h 0 (A0w _)) oV
 |B+1,f,h=>by
  by_cases he:∃ i,i<=B/\f i=f (B+1)
  ·obtain⟨i,hi,e⟩:=he;exact⟨i,B+1,oV,A0w _,e⟩
  ·have h1:∀ k,k<=B->f k≠f (B+1):=fun k hk e=>he ⟨k,hk,e⟩;have ht:=h (B+1) (A0w _);obtain⟨i,j,hij,hj,e⟩:=Ai5 B (fun k=>if f k<f (B+1) then f k else f k-1) fun k hk=>by
    have a1:=h k oV;have a2:=h1 k hk;split<;>omega
   refine⟨i,j,hij,oV,?_⟩;have a2:=h1 i oV;have a4:=h1 j hj;split at e<;>split at e<;>omega
def Qw (m:Nat)(f:Nat->Nat):Nat->Nat
 |0=>0
 |n+1=>Qw m f n*m+f n
theorem Ad9 {m:Nat}{f:Nat->Nat}:∀ n,(∀ i,i<n->f i<m)->Qw m f n<m^n
 |0,_=>by simp[Qw]
 |n+1,h=>by
  have h1:=Ad9 n fun i hi=>h i oV;have h2:=h n oV;have h3:(Qw m f n+1)*m<=m^n*m:=A12 m h1;rw[A1o]at h3;show Qw m f n*m+f n<m^n*m;omega
theorem Aah {m:Nat}{f g:Nat->Nat}:∀ n,(∀ i,i<n->f i<m)->(∀ i,i<n->g i<m)->Qw m f n=Qw m g n->∀ i,i<n->f i=g i
 |0,_,_,_,i,hi=>oV
 |n+1,hf,hg,e,i,hi=>by
  have e':Qw m f n*m+f n=Qw m g n*m+g n:=e;have a:=hf n oV;have b:=hg n oV;have q:Qw m f n=Qw m g n:=by
   have h1:=congrArg (· / m) e';simpa[A10 _ m,Nat.mul_add_div (show 0<m by omega),A4a a,A4a b] using h1
  rcases A11 i n with h|h
  ·exact Aah n (fun i hi=>hf i oV) (fun i hi=>hg i oV) q i h
  ·rw[q]at e';rw[show i=n by omega];omega
theorem Aip {M:Nat}(h:∀ i,i<n->-(M:Rat)<=f i/\f i<=M):-((n*M:Nat):Rat)<=Dm n f/\Dm n f<=((n*M:Nat):Rat):=by
 induction n with
 |zero=>rw[Pb,A4p];constructor<;>decide +kernel
 |succ n ih =>
  have h1:=ih fun i hi=>h i oV;have h2:=h n oV;have e:(((n+1)*M:Nat):Rat)=((n*M:Nat):Rat)+(M:Rat):=by rw[A1o,A3d,A60]
  rw[F0,e];constructor<;>grind
def frc (q:Rat):Rat:=q-(q.floor:Rat)
theorem Aop (q:Rat):0<=frc q/\frc q<=1:=by
 have h1:=Rat.floor_le q;have h2:=Rat.lt_floor_add_one q;unfold frc;constructor<;>grind
theorem Akr {n M:Nat}{A:Nat->Nat->Int}{x:Nat->Rat}(hA:∀ i j,i<n->j<n->(A i j).natAbs<=M)(hx:∀ i,i<n->∃ z:Int,Dm n (fun j=>(A i j:Rat)*x j)=z)
 (hinj:∀ h:Rat->Rat,(∀ i,i<n->Dm n (fun j=>(A i j:Rat)*h (x j))=0)->∀ j,j<n->h (x j)=0) :
 ∃ D:Nat,0<D/\D<=(2*(n*M)+1)^n/\∀ j,j<n->∃ k:Int,x j*(D:Rat)=k:=by
 have him:∀ (k:Nat) i,i<n->∃ z:Int,Dm n (fun j=>(A i j:Rat)*frc ((k:Rat)*x j))=z:=by
  intro k i hi;obtain⟨z,hz⟩:=hx i hi;have:∀ m,∃ w:Int,Dm m (fun j=>(A i j:Rat)*(((k:Rat)*x j).floor:Rat))=w:=by
   intro m;induction m with
   |zero=>exact⟨0,rfl⟩
   |succ m ih =>
    obtain⟨w,hw⟩:=ih;exact⟨w+A i m*((k:Rat)*x m).floor,by rw[F0,hw,A48,A23]⟩
  obtain⟨w,hw⟩:=this n;refine⟨k*z-w,?_⟩;have e:(fun j=>(A i j:Rat)*frc ((k:Rat)*x j))=fun j=>(k:Rat)*((A i j:Rat)*x j)-(A i j:Rat)*(((k:Rat)*x j).floor:Rat):=by
   funext j;unfold frc;grind
  rw[e,Ri,Nr,hz,hw,Bbw,A23,A2j]
 have hch:∀ k i,∃ z:Int,i<n->Dm n (fun j=>(A i j:Rat)*frc ((k:Nat)*x j))=z:=fun k i=>by
  by_cases hi:i<n
  ·obtain⟨z,hz⟩:=him k i hi;exact⟨z,fun _=>hz⟩
  ·exact⟨0,fun h=>absurd h hi⟩
 have hbd:∀ (k:Nat) i (z:Int),i<n->Dm n (fun j=>(A i j:Rat)*frc ((k:Rat)*x j))=z->-((n*M:Nat):Int)<=z/\z<=((n*M:Nat):Int):=by
  intro k i z hi hz;have:=Aip (n:=n) (f:=fun j=>(A i j:Rat)*frc ((k:Rat)*x j)) (M:=M) fun j hj=>by
   have h1:=Aop ((k:Rat)*x j);generalize frc ((k:Rat)*x j)=f at h1;have h2:=hA i j hi hj;have h3:(A i j:Rat)<=((M:Int):Rat):=A3t.2 oV;have h4:((-(M:Int):Int):Rat)<=(A i j:Rat):=A3t.2 oV;rw[A6x]at h4;rw[A2j]at h3 h4;generalize (A i j:Rat)=a at h3 h4;have hM:(0:Rat)<=(M:Rat):=by grind
   generalize (M:Rat)=m at h3 h4 hM;constructor
   ·show -m<=a*f;have p1:0<=(a+m)*f:=A2f (by grind) h1.1;have p2:0<=m*(1-f):=A2f hM (by grind);grind
   ·show a*f<=m;have p1:0<=(m-a)*f:=A2f (by grind) h1.1;have p2:0<=m*(1-f):=A2f hM (by grind);grind
  rw[hz,<-A2j,<-A6x]at this;exact⟨A3t.1 this.1,A3t.1 this.2⟩
 have hz:=fun k i=>(hch k i).choose_spec;generalize hzz:(fun (k i:Nat)=>(hch k i).choose)=Z at hz;have hz:∀ k i,i<n->Dm n (fun j=>(A i j:Rat)*frc ((k:Nat)*x j))=Z k i:=fun k i hi=>by rw[<-hzz];exact (hch k i).choose_spec hi
 have hd:∀ k i,i<n->(Z k i+((n*M:Nat):Int)).toNat<2*(n*M)+1:=fun k i hi=>by
  have:=hbd k i _ hi (hz k i hi);omega
 obtain⟨k,l,hkl,hl,e⟩:=Ai5 ((2*(n*M)+1)^n) (fun k=>Qw (2*(n*M)+1) (fun i=>(Z k i+((n*M:Nat):Int)).toNat) n) fun k _=>Ad9 n (hd k);have he:=Aah n (hd k) (hd l) e;have hq:=hinj (fun t=>frc ((l:Rat)*t)-frc ((k:Rat)*t)) fun i hi=>by
  have a:=hbd k i _ hi (hz k i hi);have b:=hbd l i _ hi (hz l i hi);have h1:Z k i=Z l i:=by have:=he i hi;omega
  have e:(fun j=>(A i j:Rat)*(frc ((l:Rat)*x j)-frc ((k:Rat)*x j)))=fun j=>(A i j:Rat)*frc ((l:Rat)*x j)-(A i j:Rat)*frc ((k:Rat)*x j):=by funext j;grind
  rw[e,Ri,hz l i hi,hz k i hi,h1];grind
 refine⟨l-k,oV,oV,fun j hj=>⟨((l:Rat)*x j).floor-((k:Rat)*x j).floor,?_⟩⟩;have h:=hq j hj;unfold frc at h;have c:((l-k:Nat):Rat)=(l:Rat)-(k:Rat):=by
  have:(l:Rat)=((l-k:Nat):Rat)+(k:Rat):=by rw[<-A60];congr 1;omega
  grind
 rw[c,Bbw];grind
end
section
theorem Uv {α β:Type}(f:α->β->Rat):∀ (l:List α) (k:List β),Au (fun a=>Au (fun b=>f a b) k) l=Au (fun b=>Au (fun a=>f a b) l) k
 |[],k=>(Bv fun _ _=>rfl).symm
 |a::l,k=>by
  show Au (fun b=>f a b) k+Au (fun a=>Au (fun b=>f a b) k) l=Au (fun b=>f a b+Au (fun a=>f a b) l) k;rw[Uv f l k,D1]
theorem V6 {α:Type}{f:α->Rat}:∀ {l:List α},(∀ a∈l,0<=f a)->0<=Au f l
 |[],_=>Bbd
 |a::l,h=>by
  have h1:=h a (A3r ..);have h2:=V6 fun x hx=>h x (A1w _ hx);show 0<=f a+Au f l;grind
theorem Z5 {α:Type}{f:α->Rat}:∀ {l:List α},(∀ a∈l,0<=f a)->Au f l=0->∀ a∈l,f a=0
 |[],_,_,a,ha=>by cases ha
 |x::l,h,e,a,ha=>by
  have h1:=h x (A3r ..);have h2:=V6 fun y hy=>h y (A1w _ hy);have e':f x+Au f l=0:=e;rcases A02.1 ha with rfl|ha
  ·grind
  ·exact Z5 (fun y hy=>h y (A1w _ hy)) (by grind) a ha
theorem Abo (C:CF)(e f:Option Par):As C e f=As C f e:=by
 cases e<;>cases f<;>simp only[As]<;>rw[Ta]
section
variable {P:List Par} {C:CF} {b d z:Option Par->Rat} {k:Rat}
def Kp (k:Rat)(b:Option Par->Rat):Option Par->Rat
 |none=>0
 |some p=>k*b (some p)
def Fv (P:List Par)(C:CF)(k:Rat)(b:Option Par->Rat):Prop:=∀ e∈Ak P,Au (fun f=>As C e f*b f) (Ak P)+Kp k b e=Ay C e
def G9 (P:List Par)(b:Option Par->Rat):Rat:=Au (fun p=>b (some p)*b (some p)) P
def Mz (z b:Option Par->Rat)(P:List Par)(C:CF):Rat:=Au (fun e=>z e*Au (fun f=>As C e f*b f) (Ak P)) (Ak P)
theorem I5 (b:Option Par->Rat):Bm b P C=Mz b b P C:=by
 unfold Bm Mz;exact Bb fun e _=>by rw[<-Dr];exact Bb fun f _=>by grind
theorem Sv (z b:Option Par->Rat):Mz z b P C=Mz b z P C:=by
 unfold Mz;rw[Bb (g:=fun e=>Au (fun f=>z e*(As C e f*b f)) (Ak P)) fun e _=>(Dr _ _).symm,Uv];exact Bb fun f _=>by rw[<-Dr];exact Bb fun e _=>by rw[Abo C e f];grind
theorem Xm (z w b:Option Par->Rat):Mz (fun e=>z e+w e) b P C=Mz z b P C+Mz w b P C:=by
 unfold Mz;rw[<-D1];exact Bb fun e _=>by grind
theorem Ahc (z b:Option Par->Rat):Bm (fun e=>z e+b e) P C=Bm z P C+2*Mz z b P C+Bm b P C:=by
 rw[I5,I5,I5,Xm,Sv z,Sv b,Xm,Xm,Sv b z];grind
theorem Gf (f:Option Par->Rat):Au f (Ak P)=f none+Au (fun p=>f (some p)) P:=by
 unfold Ak;show f none+_=_;rw[On]
theorem Fv.bil (h:Fv P C k b)(z:Option Par->Rat):Mz z b P C=Au (fun e=>z e*Ay C e) (Ak P)-k*Au (fun p=>z (some p)*b (some p)) P:=by
 have:Mz z b P C=Au (fun e=>z e*Ay C e + -(z e*Kp k b e)) (Ak P):=Bb fun e he=>by rw[<-h e he];grind
 rw[this,D1];have e2:Au (fun e=>-(z e*Kp k b e)) (Ak P) = -(k*Au (fun p=>z (some p)*b (some p)) P):=by
  rw[Gf,<-Dr];have:Au (fun p=>-(z (some p)*Kp k b (some p))) P=Au (fun p=>(-1)*(k*(z (some p)*b (some p)))) P:=Bb fun p _=>by unfold Kp;grind
  rw[this,Dr];unfold Kp;grind
 rw[e2];grind
theorem Fv.loss (h:Fv P C k b)(z:Option Par->Rat):sqC (fun e=>z e+b e) P C+k*G9 P (fun e=>z e+b e)=sqC b P C+k*G9 P b+(Bm z P C+k*G9 P z):=by
 have h1:=h.bil z;have h2:Au (fun e=>(z e+b e)*Ay C e) (Ak P)=Au (fun e=>z e*Ay C e) (Ak P)+Au (fun e=>b e*Ay C e) (Ak P):=by
  rw[<-D1];exact Bb fun e _=>by grind
 have h3:G9 P (fun e=>z e+b e)=G9 P z+(Au (fun p=>z (some p)*b (some p)) P*2+G9 P b):=by
  unfold G9;rw[<-Ej,<-D1,<-D1];exact Bb fun p _=>by grind
 unfold sqC;rw[Ahc,h2,h3,h1];grind
theorem Rn (P:List Par)(b:Option Par->Rat):0<=G9 P b:=V6 fun p _=>by
 rcases A8c (a:=0) (b:=b (some p)) with h|h
 ·exact A2f h h
 ·have:=A2f (a:=-b (some p)) (b:=-b (some p)) (by grind) (by grind);grind
theorem Fv.least (h:Fv P C k b)(hk:0<=k)(hp:∀ z,0<=Bm z P C)(d:Option Par->Rat):sqC b P C+k*G9 P b<=sqC d P C+k*G9 P d:=by
 have h1:=h.loss fun e=>d e-b e;have e:(fun e=>d e-b e+b e)=d:=funext fun e=>by grind
 rw[e]at h1;have h2:=hp fun e=>d e-b e;have h3:=A2f hk (Rn P fun e=>d e-b e);grind
theorem Aji (hk:0<k)(hc:0<C.c)(hp:∀ z,0<=Bm z P C)(hz:∀ e∈Ak P,Au (fun f=>As C e f*z f) (Ak P)+Kp k z e=0):∀ e∈Ak P,z e=0:=by
 have h1:Mz z z P C+k*G9 P z=0:=by
  have:Mz z z P C=Au (fun e=>(-1)*(z e*Kp k z e)) (Ak P):=Bb fun e he=>by have:=hz e he;grind
  rw[this,Dr,Gf];have e2:Au (fun p=>z (some p)*Kp k z (some p)) P=k*G9 P z:=by unfold G9;rw[<-Dr];exact Bb fun p _=>by unfold Kp;grind
  rw[e2];unfold Kp;grind
 rw[<-I5]at h1;have h2:=hp z;have h3:=Rn P z;have h4:=A2f (Rat.le_of_lt hk) h3;have h5:G9 P z=0:=by
  have:k*G9 P z=0:=by grind
  rcases A6c.1 this with e|e
  ·rw[e]at hk;exact absurd hk jV
  ·exact e
 have h6:∀ p∈P,z (some p)=0:=fun p hp=>by
  have:=Z5 (fun q _=>by
   rcases A8c (a:=0) (b:=z (some q)) with h|h
   ·exact A2f h h
   ·have:=A2f (a:=-z (some q)) (b:=-z (some q)) (by grind) (by grind);grind) h5 p hp
  rcases A6c.1 this with e|e<;>exact e
 have h7:z none=0:=by
  have:=hz none (by unfold Ak;simp);rw[Gf,Bv fun p hp=>by rw[h6 p hp,Rat.mul_zero]]at this;have e:C.c*z none=0:=by
   have e1:As C none none=C.c:=rfl;rw[e1]at this;unfold Kp at this;grind
  rcases A6c.1 e with e|e
  ·rw[e]at hc;exact absurd hc jV
  ·exact e
 intro e he;unfold Ak at he;rcases A02.1 he with rfl|he
 ·exact h7
 ·obtain⟨p,hp,rfl⟩:=A0u.1 he;exact h6 p hp
end
theorem Ahu {T:List (List UInt8×Nat)}{F:List Ao}{lab:Int}(hF:Dk T F lab)(h1:-1<=lab)(h2:∀ l:Nat,lab=(l:Int)->l<T.length)(z:Option Par->Rat)(P:List Par):∀ {L:List E7},(∀ y∈L,Cr T y.1)->0<=Bm z P (C8 F lab L):=by
 intro L;induction L using Iv with
 |h0=>exact fun _=>by show 0<=Bm z P (CF.num 0);rw[Ans.norm z P];exact Bbd
 |h1 L y ih =>
  intro h;have i1:=ih fun z hz=>h z (A24 _ hz);have hy:=h y mV;have hlen:=hy.len;rw[F5,Uu];rcases L9 hF hy h1 (fun l hl=>by have:=h2 l hl;omega) with ⟨_,o⟩|⟨_,o⟩
  ·rw[o.norm];generalize Ua z P (cfT F lab y.1).s=v;have hw:(0:Rat)<=(y.2.1:Rat):=by
    have:((0:Nat):Rat)<=(y.2.1:Rat):=Rat.natCast_le_natCast.2 (A1m _);exact this
   have hv:0<=v*v:=by
    rcases A8c (a:=0) (b:=v) with h|h
    ·exact A2f h h
    ·have:=A2f (a:=-v) (b:=-v) (by grind) (by grind);grind
   have:=A2f hv hw;grind
  ·rw[o.norm];grind
end
section
variable {F:List Ao}{n:Nat}
section
variable {P:Program} [Ba P] {fn:Func} {Post:B0} {st:List KI×S} {u m:PH}
theorem G.storeE {t:TypeId}(sz i:Nat)(m0:PH)(es:List Value)(g n c j:Nat)(e e' x:Value)(h:Al P (adv P st)=.store (some 1) (.pointer (some ⟨g,0+j*sz+i,none⟩)) x)(ha:Ae m0 m (.slice (some ⟨g,0,none⟩) n c) t sz es)(hj:es[j]?=some e)(hi:i<sz)(he:e'.cells.toList=e.cells.toList.set i x)(hx:x.cells = #[x])(hxo:Be x=true)
 (k:∀ m',Ae m0 m' (.slice (some ⟨g,0,none⟩) n c) t sz (es.set j e')->G P fn Post (nx (adv P st) undef) u m'):G P fn Post st u m:=by
 obtain⟨hok,hh⟩:=ha;obtain⟨hjl,rfl⟩:=A0s.1 hj;rcases hh with ⟨hn,_,_⟩|⟨g',cap,rest,h0,rfl,hv,hc,hl,hr⟩
 ·cases hn
 ·simp only[Value.slice.injEq,A0t,Addr.mk.injEq]at hv;obtain⟨⟨rfl,_⟩,rfl,rfl⟩:=hv;have hsz:=(hok _ (A04 hjl)).1;have hco:=(hok _ (A04 hjl)).2;have hfl:=A2 hok;have hle:j*sz+sz<=es.length*sz:=by
   have:=A12 sz hjl;rw[Nat.succ_mul]at this;exact this
  have hes':e'.cells.size=sz:=by
   rw[<-A29,he,A3u,A29];exact hsz
  have hok':A3 sz (es.set j e'):=hok.set ⟨hes',fun y hy=>by
   rw[he]at hy;rcases List.mem_or_eq_of_mem_set hy with hy|rfl
   ·exact hco y hy
   ·exact hxo⟩
  refine G.storeM 1 g (0+j*sz+i) t (Az es++rest) x h (Ac _ _ _) (fun y hy=>?_) (by rw[A0z,hfl];omega) (by rw[hx];rfl) (by rw[hx];simp[hxo]) ?_
  ·rcases A01.1 hy with hy|hy
   ·exact Ep hok y hy
   ·exact hr y hy
  ·rw[Dh];have e1:(Az es++rest).take (0+j*sz+i)++x.cells.toList++(Az es++rest).drop (0+j*sz+i+1)=Az (es.set j e')++rest:=by
    have h1:Az (es.set j e')=(Az es).set (j*sz+i) x:=by
     have q1:=Nv (e:=e') hok hes' hjl;have q2:=Nv (e:=es[j]) hok hsz hjl;rw[List.set_getElem_self]at q2;rw[q1,he]
     conv=>rhs;rw[q2]
     have hlt:((Az es).take (j*sz)).length=j*sz:=by rw[A00,hfl];omega
     have hle2:es[j].cells.toList.length=sz:=by simpa using hsz
     rw[A1j,A1j,List.set_append_right _ _ oV,hlt,Nat.add_sub_cancel_left,A78 _ _ oV]
    have h2:(Az es++rest).set (j*sz+i) x=(Az es).set (j*sz+i) x++rest:=A78 _ _ oV;rw[h1,<-h2,List.set_eq_take_append_cons_drop,if_pos (by rw[A0z];omega),hx,A2b];simp
   rw[e1];refine k _ ⟨hok',.inr ⟨g,c,rest,h0,rfl,by rw[A3u],by rw[A3u];exact hc,?_,hr⟩⟩;rw[A0z,A2 hok',A3u,<-hfl,<-A0z];exact hl
end
theorem Aps {u:PH}{v:Value}{a:Nat}(h:Ab u v 3 (F.map B6))(hl:F.length<=1000000):Fn0 prog 101 [v,.int .i64 (a:Int)] u fun r _=>r=.bool (F.any fun f=>f.1==a):=by
 obtain⟨xa,xc,rfl⟩:=h.opn;rw[A0p]at h⊢;refine Fn0.o func101 ?_;refine G.l (ι:=Nat) (fun i=>[(1,iV a),(7,sV xa F.length xc),(8,iV F.length),(9,iV i)]) (fun _=>[])
  (fun i u' m'=>i<=F.length/\(∀ j f,j<i->F[j]?=some f->f.1≠a)/\m'=PH.mt) (fun i=>F.length-i) 0 ⟨oV,fun j f hj=>oV,rfl⟩ ?_
 rintro J i hJ u2 m2 l2 ⟨hi,h0,rfl⟩;by_cases hlt:i<F.length
 ·refine G.lT (i:Int) (F.length:Int) ?_;obtain⟨f,hFi⟩:∃ f,F[i]?=some f:=⟨_,A0n hlt⟩;obtain⟨fb,fo,rfl,ef⟩:=Ab.at' (h.mono l2) (j:=i) (e:=B6 f) (by simp[hFi]);obtain⟨p1,p2,p3⟩:=f;refine G.a fb fo F.length xc i 3 hlt ?_;refine G.lU (some 3) fb (fo+i*3) (.agg #[.int .i64 (p1:Int),.int .i64 (p2:Int),.int .i64 (p3:Int)]) ef ?_;by_cases he:p1=a
  ·refine G.eT (p1:Int) (a:Int) ?_;exact G.r (.bool true) ⟨rfl,by
    rw[List.any_eq_true.2 ⟨_,A1b hFi,by simpa using he⟩]⟩
  ·refine G.eF (p1:Int) (a:Int) ?_;refine G.i i ?_;exact G.b (hJ (i+1) _ _ _ cV l2 ⟨oV,fun j g hj hg=>by
    rcases (by omega:j<i\/j=i) with e|rfl
    ·exact h0 j g e hg
    ·rw[hFi]at hg;cases hg;exact he,rfl⟩ oV)
 ·obtain rfl:i=F.length:=oV
  refine G.lF (F.length:Int) (F.length:Int) ?_;exact G.r (.bool false) ⟨rfl,by
   rw[List.any_eq_false.2 fun f hf=>by
    obtain⟨j,hj,rfl⟩:=A19 hf;simpa using h0 j _ hj (A0n hj)]⟩
def nmB (j:Nat):List UInt8:=[98]++[Uj j]
theorem Ajn {j:Nat}(h:j<26):Gw (nmB j)=true:=by
 have h2:∀ n:Fin 26,Gw (nmB n.val)=true:=jV
 exact h2 ⟨j,h⟩
theorem Alq {l:List Nat}(h1:∀ a∈l,a<n)(h2:∀ (k:Nat) x y,l[k]?=some x->l[k+1]?=some y->x<y):l.length<=n:=by
 have h:∀ k (hk:k<l.length),k<=l[k]:=by
  intro k;induction k with
  |zero=>intro _;omega
  |succ k ih =>
   intro hk;have:=ih oV;have:=h2 k _ _ (A0n oV) (A0n hk);omega
 rcases A1p l.length with e|e
 ·omega
 ·have h3:=h (l.length-1) oV;have h4:=h1 _ (A04 (show l.length-1<l.length by omega));omega
theorem Ahn {u u':PH}{R0:List Bk}{r:Bk}{a':Option Addr}{c':Nat}(h:Mh u n (R0++[r]))(hl:PH.le u u')(hn:n<=900)(hL:Ab u' (.slice a' (r.2.1++[n]).length c') 1 (Ag (r.2.1++[n]))):Mh u' (n+1) (R0++[(r.1,r.2.1++[n],(a',c'))]):=by
 have hr:r∈R0++[r]:=mV
 have h0:∀ x∈R0,x∈R0++[r]:=fun x hx=>A24 _ hx;have split:∀ x,x∈R0++[(r.1,r.2.1++[n],(a',c'))]->x∈R0\/x=(r.1,r.2.1++[n],(a',c')):=fun x hx=>by
  rcases A01.1 hx with hx|hx
  ·exact .inl hx
  ·exact .inr (by simpa using hx)
 refine⟨?_,?_,?_,?_,?_,?_,?_⟩
 ·have:=h.names;rw[A07]at this⊢;exact this
 ·intro x hx;rcases split x hx with hx|rfl
  ·exact h.ne x (h0 x hx)
  ·simp
 ·intro x hx a ha;rcases split x hx with hx|rfl
  ·have:=h.lt x (h0 x hx) a ha;omega
  ·rcases A01.1 ha with ha|ha
   ·have:=h.lt r hr a ha;omega
   ·simp at ha;omega
 ·intro x hx;rcases split x hx with hx|rfl
  ·exact h.len x (h0 x hx)
  ·have:=Alq (h.lt r hr) (h.asc r hr);simp only[A0z,A2o];omega
 ·intro x hx k a b ha hb;rcases split x hx with hx|rfl
  ·exact h.asc x (h0 x hx) k a b ha hb
  ·simp only at ha hb;rcases A11 (k+1) r.2.1.length with hk|hk
   ·rw[A1d oV]at ha hb;exact h.asc r hr k a b ha hb
   ·rw[A1s hk]at hb;have hk0:k+1-r.2.1.length=0:=by
     obtain⟨q,_⟩:=A0s.1 hb;simp at q;omega
    rw[hk0]at hb;simp at hb;subst hb;rw[A1d oV]at ha;exact h.lt r hr a (A1b ha)
 ·intro a ha;by_cases e:a=n
  ·subst e;exact⟨_,by simp;right;rfl,mV⟩
  ·obtain⟨x,hx,hax⟩:=h.all a oV;rcases A01.1 hx with hx|hx
   ·exact⟨x,A24 _ hx,hax⟩
   ·simp at hx;subst hx;exact⟨_,by simp;right;rfl,A24 _ hax⟩
 ·intro x hx;rcases split x hx with hx|rfl
  ·exact (h.at' x (h0 x hx)).mono hl
  ·exact hL
theorem Ag5 {u u':PH}{T:List (List UInt8×Nat)}{R R':List Bk}{lab:Int}(ok:Bn u T R F lab)(hT:T.length<=11)(hn:∀ a∈T,a.1≠nmB T.length)(hR:Mh u' (T.length+1) R')(hRl:R'.length=R.length):Bn u' (T++[(nmB T.length,2)]) R' F lab:=by
 have hw:=Ajn (j:=T.length) oV;refine⟨⟨⟨?_,?_⟩,?_⟩,?_,⟨?_,ok.feat.nodup⟩,?_,?_,?_,?_,ok.f2,ok.l1,?_⟩
 ·intro s hs;rw[A07]at hs;rcases A01.1 hs with hs|hs
  ·exact ok.att.names.word s hs
  ·simp at hs;subst hs;exact hw
 ·rw[A07,A3w];refine⟨ok.att.names.nodup,mV,fun a ha b hb e=>?_⟩;simp at hb;obtain⟨x,hx,rfl⟩:=A0u.1 ha;exact hn x hx (e.trans hb)
 ·intro a ha;rcases A01.1 ha with ha|ha
  ·exact ok.att.kind a ha
  ·simp at ha;subst ha;exact⟨mV,mV⟩
 ·rw[A0z];exact hR
 ·intro f hf;obtain⟨n,k,h1,h2⟩:=ok.feat.ok f hf;exact⟨n,k,by rw[A1d (A0s.1 h1).1];exact h1,h2⟩
 ·rw[A0z];simp
 ·rw[A0z];simp;omega
 ·rw[hRl];exact ok.r1
 ·rw[hRl];exact ok.r2
 ·intro l hl;obtain⟨n,h1⟩:=ok.l2 l hl;exact⟨n,by rw[A1d (A0s.1 h1).1];exact h1⟩
end
end Go.Proofs.YtanfagpabkdmiaaGreatDoor
