/- Parts of one proof, joined by a program. -/
import Derived.Test.YtnafchoihfnkeaaGreatDoorS03
import Derived.Lib.ItoaNum
set_option linter.defProp false
set_option linter.unusedVariables false
set_option linter.unusedSimpArgs false
set_option linter.unusedSectionVars false
set_option maxHeartbeats 16000000
namespace Go.Proofs.YtnafchoihfnkeaaGreatDoor
open Go.Proofs.Tryz
open Go.RowKit
open Int renaming ediv_le_self -> A03, ediv_nonneg -> Az6, lt_or_le -> Axn, lt_trichotomy -> Awd, natAbs_neg -> Avp, natCast_ediv -> Axi, natCast_mul -> Aws, neg_tdiv -> Azb, neg_tmod -> A3t, tdiv_eq_ediv_of_nonneg -> Awj, tdiv_neg -> A3s
open Lib renaming decDigits -> Au9, decDigits_length -> Awb, decDigits_one -> Axw, itoa -> Atn, nDigits -> Aua, nDigits_small -> Axe
open List renaming drop_of_length_le -> Aue, drop_zero -> Aw4, eq_nil_of_length_eq_zero -> Auo, ext_getElem? -> Awe, getD_eq_getElem?_getD -> As7, getElem?_eq_getElem -> As5, getElem?_eq_none -> Att, getElem?_map -> Aty, getElem?_reverse -> A1o, getElem?_set -> Au5, getElem?_set_self -> Awv, length -> Av5, length_append -> Atg, length_cons -> Auh, length_nil -> Av1, length_replicate -> Aur, length_set -> Avx, length_singleton -> Aux, length_take -> Atm, map_set -> Axb, replicate -> As6, take_of_length_le -> Atp, take_zero -> Ayo
open Nat renaming add_assoc -> Avl, add_mul -> At2, add_sub_cancel -> Avv, add_zero -> Avb, div_add_mod -> Avf, div_div_eq_div_mul -> Awy, div_le_self -> Awa, div_lt_iff_lt_mul -> Au4, div_mul_le_self -> Ay7, eq_zero_or_pos -> At5, gcd -> Auw, gcd_comm -> A01, le_div_iff_mul_le -> Awn, le_refl -> Atb, le_trans -> As9, lt_of_le_of_lt -> Aum, lt_of_lt_of_le -> Auf, lt_or_ge -> At8, min_eq_left -> Av6, mod_eq_of_lt -> Axg, mod_lt -> Au3, mul_add -> Aui, mul_assoc -> Atz, mul_comm -> At7, mul_div_le -> A1n, mul_le_mul -> Aut, mul_le_mul_left -> Aul, mul_le_mul_right -> Ats, mul_zero -> Avw, pow_add -> Aww, pow_le_pow_right -> Atq, pow_pos -> Aym, pow_succ -> Auc, strongRecOn -> Ay8, zero_mul -> Ax5
open Option renaming some.injEq -> Atd
open Rat renaming divInt -> Au0
open UInt8 renaming ofNat -> Ay3, toNat_inj -> Az8
open Value renaming slice.injEq -> Atr
section
variable {a:Option Addr}{c n:Nat}{l:List Nat}{u:PH}{x:Value}{z:Int}
def Dj (u:PH)(v:Value)(z:Int):Prop:=∃ a n c,v=.agg #[.bool (decide (z<0)),.slice a n c]/\Cb u (.slice a n c) (Aa z.natAbs)
theorem Dj.mono {u u':PH}{v:Value}{z:Int}(h:Dj u v z)(hl:PH.le u u'):Dj u' v z:=by
 obtain⟨a,n,c,h1,h2⟩:=h;exact⟨a,n,c,h1,h2.mono hl⟩
theorem Dj.opn {v:Value}(h:Dj u v z):∃ b a n c,v=.agg #[.bool b,.slice a n c]/\b=decide (z<0)/\Cb u (.slice a n c) (Aa z.natAbs):=by
 obtain⟨a,n,c,rfl,h2⟩:=h;exact⟨_,a,n,c,rfl,rfl,h2⟩
theorem Ajo (hl:Low l):0<Bl l l.length↔0<val l:=by
 have:=H6 hl;rw[<-Cm (n:=val l),this,Atm];have:=Jl l l.length;omega
theorem Zt (b:Bool)(h:Cb u (.slice a n c) l)(hl:Low l):Dj u (.agg #[.bool (b&&decide (0<Bl l l.length)),.slice a (Bl l l.length) c]) (Bt b (val l)):=by
 refine⟨a,Bl l l.length,c,?_,?_⟩
 ·rw[Va,decide_eq_decide.2 (Ajo hl)]
 ·rw[Iz,H6 hl];exact h.take _ (Jl _ _)
theorem Dm {b:Bool}(h:Cb u (.slice a n c) l)(hl:Low l)(hs:l.length<=1000000000000000000) :
 Fn0 prog 130 [.agg #[.bool b,.slice a n c]] u fun v u'=>Dj u' v (Bt b (val l)):=by
 intro w hg;refine Calls.mono (Alt (b:=b) h hs w hg) fun e w' he=>?_;obtain⟨v,u',m',e1,e2,e3,e4,rfl⟩:=he;exact⟨_,u',m',e1,e2,e3,e4,Zt b (h.mono (e3.le hg.pu)) hl⟩
theorem Wg (h:Dj u x z)(hs:nl z.natAbs<=1000000000000000000):Fn0 prog 129 [x] u fun v u'=>Dj u' v (-z):=by
 obtain⟨b,a,n,c,rfl,hb,hi⟩:=h.opn;obtain⟨rfl,hc⟩:=hi.len;have hs':(Aa z.natAbs).length<=1000000000000000000:=hs;refine Fn0.o func129 ?_;have hp:=Cm (n:=z.natAbs);have fin:∀ b':Bool,b'=decide (-z<0)->Dj u (.agg #[.bool b',.slice a (Aa z.natAbs).length c]) (-z):=fun b' hb'=>⟨a,(Aa z.natAbs).length,c,by rw[hb'],by rw[Avp];exact hi⟩;cases b
 ·have hz:0<=z:=by simpa using hb.symm
  by_cases h0:0<(Aa z.natAbs).length
  ·refine G.gT ((Aa z.natAbs).length:Int) 0 ?_;exact G.r (.agg #[.bool true,.slice a (Aa z.natAbs).length c]) ⟨rfl,fin true (by have:=hp.1 h0;simp;omega)⟩
  ·refine G.gF ((Aa z.natAbs).length:Int) 0 ?_;exact G.r (.agg #[.bool false,.slice a (Aa z.natAbs).length c]) ⟨rfl,fin false (by have:¬ 0<z.natAbs:=fun h=>h0 (hp.2 h);simp;omega)⟩
 ·have hz:z<0:=by simpa using hb.symm
  exact G.r (.agg #[.bool false,.slice a (Aa z.natAbs).length c]) ⟨rfl,fin false gV⟩
theorem Em {m n:Nat}(h:n<=m):(Aa n).length<=(Aa m).length:=Ct h
theorem An2 {x x':Value}{y z:Int}(hx:Dj u x y)(hx':Dj u x' z)(sy:nl y.natAbs<=1000000000000)(sz:nl z.natAbs<=1000000000000):Fn0 prog 63 [x,x'] u fun v u'=>Dj u' v (y+z):=by
 obtain⟨b,a,n,c,rfl,hb,hi⟩:=hx.opn;obtain⟨b',a',n',c',rfl,hb',hi'⟩:=hx'.opn;have sy':(Aa y.natAbs).length<=1000000000000:=sy;have sz':(Aa z.natAbs).length<=1000000000000:=sz;refine Fn0.o func63 ?_;refine G.eqB b b' kV ?_;by_cases hbb:b=b'
 ·have hs:=Aak (y:=y) (z:=z) (by rw[<-hb,<-hb',hbb]);rw[<-hb]at hs;rw[show (b==b')=true by rw[hbb];simp];refine G.c call131 (Amt hi hi' (Am _) (Am _) sy' sz') ?_;rintro v1 u1 l1 ⟨l,h1,h2,h3,h4⟩;obtain⟨a1,c1,rfl,hc1⟩:=h1.opn;refine G.c call130 (Dm (b:=b) h1 h2 oV) ?_;intro v2 u2 l2 h5;rw[h3,Ai,Ai,hs]at h5;obtain⟨b5,a5,n5,c5,rfl,_,_⟩:=h5.opn;exact G.r (.agg #[.bool b5,.slice a5 n5 c5]) ⟨rfl,h5⟩
 ·rw[show (b==b')=false by simpa using hbb];have hne:decide (y<0)≠decide (z<0):=by rw[<-hb,<-hb'];exact hbb
  refine G.c call132 (Kd hi hi' oV oV) ?_;rintro v1 u1 l1 rfl;by_cases hle:z.natAbs<=y.natAbs
  ·have hs:=Wj (y:=y) (z:=z) hne hle;rw[<-hb]at hs;refine G.hT' (sgn ((y.natAbs:Int)-z.natAbs)) 0 (by rcases Awd ((y.natAbs:Int)-z.natAbs) 0 with h|h|h<;>first|omega|(rw[h];decide)|(rw[Cf h];decide)) ?_
   refine G.c call133 (J8 (hi.mono l1) (hi'.mono l1) (Am _) (Am _) sy' (Em hle) (by rw[Ai,Ai];exact hle)) ?_;rintro v1 u2 l2 ⟨l,h1,h2,h3,h4⟩;obtain⟨a1,c1,rfl,hc1⟩:=h1.opn;refine G.c call130 (Dm (b:=b) h1 h2 oV) ?_;intro v2 u2 l2 h5;rw[h3,Ai,Ai,hs]at h5;obtain⟨b5,a5,n5,c5,rfl,_,_⟩:=h5.opn;exact G.r (.agg #[.bool b5,.slice a5 n5 c5]) ⟨rfl,h5⟩
  ·have hs:=Xb (y:=y) (z:=z) hne oV;rw[<-hb']at hs;refine G.hF' (sgn ((y.natAbs:Int)-z.natAbs)) 0 (by rw[Dc oV];decide) ?_;refine G.c call133 (J8 (hi'.mono l1) (hi.mono l1) (Am _) (Am _) sz' (Em oV) (by rw[Ai,Ai];omega)) ?_;rintro v1 u2 l2 ⟨l,h1,h2,h3,h4⟩;obtain⟨a1,c1,rfl,hc1⟩:=h1.opn;refine G.c call130 (Dm (b:=b') h1 h2 oV) ?_;intro v2 u2 l2 h5;rw[h3,Ai,Ai,hs]at h5;obtain⟨b5,a5,n5,c5,rfl,_,_⟩:=h5.opn;exact G.r (.agg #[.bool b5,.slice a5 n5 c5]) ⟨rfl,h5⟩
end
section
variable {j:Nat}{l:List Nat}
theorem Kb (l:List Nat)(j n:Nat):(Ah l).set j (.int .i64 (n:Int))=Ah (l.set j n):=by simp[Ah,Axb]
theorem V4 (h:j<l.length):(Ah l)[j]?=some (.int .i64 (l.getD j 0:Nat)):=by simp[Ah,h]
theorem Ra (n:Nat):As6 n (Value.int .i64 0)=Ah (As6 n 0):=by simp[Ah]
theorem Aaz (h:j<l.length)(r:List Nat):(l++r).getD j 0=l.getD j 0:=by
 rw[As7,As7,List.getElem?_append_left h]
theorem Afl (h:j<l.length)(r:List Nat)(d:Nat):(l++r).set j d=l.set j d++r:=List.set_append_left _ _ h
theorem Ale (h:j<l.length)(h0:l.getD j 0=0):l.set j 0=l:=by
 refine Awe fun i=>?_;by_cases hi:j=i
 ·subst hi;rw[Awv h,As5 h];rw[As7,As5 h]at h0;simpa using h0.symm
 ·rw[List.getElem?_set_ne hi]
def Aso (la lb:List Nat)(i k:Nat)(o:List Nat)(c:Nat):Prop:=(k<=lb.length/\Fo la lb i k o c)\/(k=lb.length+1/\c=0/\Fo la lb (i+1) 0 o 0)
theorem Oo {u:PH}{x x':Value}{y z:Int}(hx:Dj u x y)(hx':Dj u x' z)(sy:nl y.natAbs<=1000000000000)(sz:nl z.natAbs<=1000000000000):Fn0 prog 62 [x,x'] u fun v u'=>Dj u' v (y*z):=by
 obtain⟨b,a,n,c,rfl,hb,hi⟩:=hx.opn;obtain⟨b',a',n',c',rfl,hb',hi'⟩:=hx'.opn;obtain⟨rfl,_⟩:=hi.len;obtain⟨rfl,_⟩:=hi'.len;have hll:=Am y.natAbs;have hll':=Am z.natAbs;have sy':(Aa y.natAbs).length<=1000000000000:=sy;have sz':(Aa z.natAbs).length<=1000000000000:=sz;have hfin:∀ l:List Nat,Low l->val l=y.natAbs*z.natAbs->Bt (!(b==b')) (val l)=y*z:=by
  intro l _ hv;rw[hv,hb,hb'];exact Ab2 y z
 have hvy:=Ai y.natAbs;have hvz:=Ai z.natAbs;rw[<-hvy,<-hvz]at hfin;generalize Aa y.natAbs=la at *
 generalize Aa z.natAbs=lb at *
 refine Fn0.o func62 ?_;refine G.p (la.length:Int) (lb.length:Int) ((la.length+lb.length:Nat):Int) ?_;refine G.p ((la.length+lb.length:Nat):Int) 1 ((la.length+lb.length+1:Nat):Int) ?_;refine G.make 3 1 8 (.int .i64 0) (la.length+lb.length+1) kV rfl rfl oV oV oV ?_;intro vo m1 hA _;rw[Ra]at hA;obtain⟨bo,co,rfl⟩:=hA.ptr (by intro e;have:=congrArg Av5 e;rw[Ag,Aur,Av1]at this;omega);rw[Ag,Aur]at hA⊢;rw[show As6 (la.length+lb.length+1) 0=As6 (la.length+lb.length) 0++[0] from List.replicate_succ' ..]at hA;refine G.l (ι:=Nat×List Nat) (fun i=>[(2,.p 0 0),(3,.p 1 0),(4,.p 2 0),(5,sV (some ⟨bo,0,none⟩) (la.length+lb.length+1) co),(6,iV i.1)])
  (fun _=>[(0,⟨55,[bV b,sV a la.length c]⟩),(1,⟨55,[bV b',sV a' lb.length c']⟩),(2,⟨55,[bV false,sV none 0 0]⟩)])
  (fun i _ m'=>i.1<=la.length/\Fo la lb i.1 0 i.2 0/\Ae PH.mt m' (.slice (some ⟨bo,0,none⟩) (la.length+lb.length+1) co) 3 1 (Ah (i.2++[0]))) (fun i=>la.length-i.1) (0,As6 (la.length+lb.length) 0)
  ⟨mV,Fo.start _ _,hA⟩ ?_
 clear hA m1;rintro J ⟨i,o⟩ hJ u' m' hle ⟨hk,hst,hA⟩;simp only at hk hst hA hJ;by_cases hlt:i<la.length
 ·refine G.lT (i:Int) (la.length:Int) ?_;obtain⟨ba,oa,rfl,ea⟩:=(hi.mono hle).at (j:=i) hlt;have hal:=hll.getD i;refine G.l (ι:=Nat×List Nat×Nat) (fun q=>[(2,.p 0 0),(3,.p 1 0),(4,.p 2 0),(5,sV (some ⟨bo,0,none⟩) (la.length+lb.length+1) co),(6,iV i),(7,iV q.2.2),(8,iV q.1)])
   (fun _=>[(0,⟨55,[bV b,sV (some ⟨ba,oa,none⟩) la.length c]⟩),(1,⟨55,[bV b',sV a' lb.length c']⟩),(2,⟨55,[bV false,sV none 0 0]⟩)])
   (fun q _ m'=>Aso la lb i q.1 q.2.1 q.2.2/\Ae PH.mt m' (.slice (some ⟨bo,0,none⟩) (la.length+lb.length+1) co) 3 1 (Ah (q.2.1++[0]))) (fun q=>lb.length+1-q.1) (0,o,0)
   ⟨.inl ⟨mV,hst⟩,hA⟩ ?_
  clear hA hst m';rintro J2 ⟨k,o,cc⟩ hJ2 u2 m' hle2 ⟨hin,hA⟩;simp only at hin hA hJ2;have hlo:o.length=la.length+lb.length:=by rcases hin with ⟨_,h⟩|⟨_,_,h⟩<;>exact h.len
  have hcc:cc<1000000000:=by rcases hin with ⟨_,h⟩|⟨_,h,_⟩;exact h.carry;omega
  have hol:=(show Low o by rcases hin with ⟨_,h⟩|⟨_,_,h⟩<;>exact h.low).getD (i+k)
  by_cases hkb:k<lb.length
  ·have hst:Fo la lb i k o cc:=by rcases hin with ⟨_,h⟩|⟨h,_⟩;exact h;omega
   obtain⟨bb,ob,rfl,eb⟩:=(hi'.mono (hle.trans hle2)).at (j:=k) hkb;have hbl:=hll'.getD k;have hikl:i+k<(o++[0]).length:=gV
   refine G.lT (k:Int) (lb.length:Int) ?_;refine G.p (i:Int) (k:Int) ((i+k:Nat):Int) ?_;refine G.a bo 0 (la.length+lb.length+1) co (i+k) 1 oV ?_;refine G.lM none bo (0+(i+k)*1) (.int .i64 ((o++[0]).getD (i+k) 0:Nat)) (hA.el (V4 hikl)) ?_;rw[Aaz oV];refine G.p (cc:Int) (o.getD (i+k) 0:Nat) ((cc+o.getD (i+k) 0:Nat):Int) ?_;refine G.lT (k:Int) (lb.length:Int) ?_;refine G.a ba oa la.length c i 1 hlt ?_;refine G.lU none ba (oa+i*1) (.int .i64 (la.getD i 0:Nat)) (ea.mono hle2) ?_;refine G.a bb ob lb.length c' k 1 hkb ?_;refine G.lU none bb (ob+k*1) (.int .i64 (lb.getD k 0:Nat)) eb ?_;have hp:la.getD i 0*lb.getD k 0<=999999999*999999999:=Aut oV oV;refine G.mul (la.getD i 0:Nat) (lb.getD k 0:Nat) ((la.getD i 0*lb.getD k 0:Nat):Int) kV (Aws _ _).symm oV oV ?_;obtain⟨t,ht⟩:∃ t,t=o.getD (i+k) 0+la.getD i 0*lb.getD k 0+cc:=⟨_,rfl⟩;refine G.p ((cc+o.getD (i+k) 0:Nat):Int) ((la.getD i 0*lb.getD k 0:Nat):Int) (t:Int) ?_;refine G.p (i:Int) (k:Int) ((i+k:Nat):Int) ?_;refine G.rem (t:Int) 1000000000 ((t%1000000000:Nat):Int) kV oV oV oV oV ?_;refine G.a bo 0 (la.length+lb.length+1) co (i+k) 1 oV ?_;refine G.storeA 1 PH.mt _ bo (la.length+lb.length+1) co (i+k) (.int .i64 ((t%1000000000:Nat):Int)) kV hA (by rw[Ag];exact hikl) rfl rfl ?_;intro m2 hA2;rw[Kb,Afl oV]at hA2;refine G.quo (t:Int) 1000000000 ((t/1000000000:Nat):Int) kV oV oV oV oV ?_;refine G.i k ?_;exact G.b (hJ2 (k+1,o.set (i+k) (t%1000000000),t/1000000000) _ _ _ cV hle2 ⟨.inl ⟨oV,hst.step hll hll' hkb hlt rfl rfl rfl ht⟩,hA2⟩ dV)
  ·refine G.lF (k:Int) (lb.length:Int) ?_;by_cases hc0:0<cc
   ·have hst:Fo la lb i lb.length o cc/\k=lb.length:=by
     rcases hin with ⟨h1,h⟩|⟨_,h,_⟩
     ·obtain rfl:k=lb.length:=oV
      exact⟨h,rfl⟩
     ·omega
    obtain⟨hst,rfl⟩:=hst;obtain⟨hz0,hnext⟩:=hst.next hlt;have hikl:i+lb.length<(o++[0]).length:=gV
    refine G.gT (cc:Int) 0 ?_;refine G.p (i:Int) (lb.length:Int) ((i+lb.length:Nat):Int) ?_;refine G.a bo 0 (la.length+lb.length+1) co (i+lb.length) 1 oV ?_;refine G.lM none bo (0+(i+lb.length)*1) (.int .i64 ((o++[0]).getD (i+lb.length) 0:Nat)) (hA.el (V4 hikl)) ?_;rw[Aaz oV];refine G.p (cc:Int) (o.getD (i+lb.length) 0:Nat) (cc:Int) ?_;refine G.lF (lb.length:Int) (lb.length:Int) ?_;refine G.p (i:Int) (lb.length:Int) ((i+lb.length:Nat):Int) ?_;refine G.rem (cc:Int) 1000000000 (cc:Int) kV oV oV oV oV ?_;refine G.a bo 0 (la.length+lb.length+1) co (i+lb.length) 1 oV ?_;refine G.storeA 1 PH.mt _ bo (la.length+lb.length+1) co (i+lb.length) (.int .i64 (cc:Int)) kV hA (by rw[Ag];exact hikl) rfl rfl ?_;intro m2 hA2;rw[Kb,Afl oV]at hA2;refine G.quo (cc:Int) 1000000000 0 kV oV oV oV oV ?_;refine G.p (lb.length:Int) 1 ((lb.length+1:Nat):Int) ?_;exact G.b (hJ2 (lb.length+1,o.set (i+lb.length) cc,0) _ _ _ cV hle2 ⟨.inr ⟨rfl,rfl,hnext⟩,hA2⟩ dV)
   ·refine G.gF (cc:Int) 0 ?_;have hst:Fo la lb (i+1) 0 o 0:=by
     rcases hin with ⟨h1,h⟩|⟨_,_,h⟩
     ·obtain rfl:k=lb.length:=oV
      obtain rfl:cc=0:=oV
      obtain⟨hz0,hnext⟩:=h.next hlt;rw[Ale oV hz0]at hnext;exact hnext
     ·exact h
    refine G.i i ?_;exact G.b (hJ (i+1,o) _ _ _ cV (hle.trans hle2) ⟨oV,hst,hA⟩ dV)
 ·obtain rfl:i=la.length:=oV
  refine G.lF (la.length:Int) (la.length:Int) ?_;refine G.give PH.mt (Ah (o++[0])) _ kV hA (fun _=>.inl rfl) ?_;intro u1 l1 hL;have hlow:Low (o++[0]):=hst.low.append (Low.cons oV Low.nil);have hval:val (o++[0])=val la*val lb:=by rw[H8,Avw,Avb];exact hst.done
  have hlo:=hst.len;refine G.neB b b' kV ?_;refine G.c call130 (Dm (b:=!(b==b')) hL hlow gV) ?_;intro v2 u2 l2 h5;rw[hfin _ hlow hval]at h5;obtain⟨b5,a5,n5,c5,rfl,_,_⟩:=h5.opn;exact G.r (.agg #[.bool b5,.slice a5 n5 c5]) ⟨rfl,h5⟩
end
section
variable {R Y c k n:Nat}{a ys:List Nat}
structure Hp (a:List Nat)(n k:Nat)(ys:List Nat)(c:Nat):Prop where
 len:ys.length=k
 low:Low ys
 carry:c<1000000000
 sum:val ys+1000000000^k*c=val (a.take k)*n
theorem Hp.start (a:List Nat)(n:Nat):Hp a n 0 [] 0:=⟨rfl,Low.nil,oV,by simp[val]⟩
theorem Hp.step {n k c t:Nat}(h:Hp a n k ys c)(ha:Low a)(hn:n<1000000000)(ht:t=c+a.getD k 0*n):Hp a n (k+1) (ys++[t%1000000000]) (t/1000000000):=by
 have h1:=ha.getD k;have h2:=h.carry;have hp:a.getD k 0*n<=999999999*999999999:=Aut oV oV;refine⟨by simp[h.len],h.low.append (Low.cons oV Low.nil),oV,?_⟩;rw[H8,Av,h.len,Auc,Avl,Ha,At2];have:=h.sum;rw[ht,Aui,<-Avl,this,Atz]
theorem Hp.over (h:Hp a n k ys c)(hk:¬ k<a.length)(hc:c=0):val ys=val a*n:=by
 have:=h.sum;rw[Atp oV,hc]at this;simpa using this
structure Q7 (lx:List Nat)(Y k:Nat)(qs:List Nat)(R:Nat):Prop where
 len:qs.length=lx.length
 low:Low qs
 quo:val (qs.drop k)=val (lx.drop k)/Y
 rest:R=val (lx.drop k)%Y
theorem Q7.start (lx:List Nat)(Y:Nat):Q7 lx Y lx.length (As6 lx.length 0) 0:=by
 refine⟨mV,Low.zeros _,?_,?_⟩
 ·rw[Aue mV,Aue oV];simp[val]
 ·rw[Aue oV];simp[val]
theorem Wt {R Y x:Nat}(hR:R<Y)(hx:x<1000000000):(x+1000000000*R)/Y<1000000000:=by
 rw[Au4 oV];have:1000000000*(R+1)<=1000000000*Y:=Aul _ hR;omega
theorem Q7.step {lx qs:List Nat}(h:Q7 lx Y (k+1) qs R)(hx:Low lx)(hk:k<lx.length)(hY:0<Y) :
 Q7 lx Y k (qs.set k ((lx.getD k 0+1000000000*R)/Y)) ((lx.getD k 0+1000000000*R)%Y):=by
 have hR:R<Y:=by rw[h.rest];exact Au3 _ hY
 have hl:=h.len;have e1:(qs.set k ((lx.getD k 0+1000000000*R)/Y)).drop k=(lx.getD k 0+1000000000*R)/Y::qs.drop (k+1):=by
  rw[B5 _ k gV,List.drop_set_of_lt oV]
  congr 1
  rw[As7,Awv oV];rfl
 have e2:=B5 lx k hk;have e3:val (lx.drop k)=lx.getD k 0+1000000000*R+Y*(1000000000*(val (lx.drop (k+1))/Y)):=by
  rw[e2];simp only[val];have:=Avf (val (lx.drop (k+1))) Y;rw[<-h.rest]at this;have e4:1000000000*val (lx.drop (k+1))=1000000000*(Y*(val (lx.drop (k+1))/Y))+1000000000*R:=by rw[<-Aui,this]
  rw[e4,Nat.mul_left_comm Y 1000000000];omega
 refine⟨by simpa using hl,h.low.set _ (Wt hR (hx.getD k)),?_,?_⟩
 ·rw[e1,e3,Nat.add_mul_div_left _ _ hY];simp only[val];rw[h.quo]
 ·rw[e3,Nat.add_mul_mod_self_left]
theorem Anz {Y R y1 p yl top rl:Nat}(hY:Y=y1*p+yl)(hyl:yl<p)(hy1:0<y1)(hR:R=top*p+rl)(hrl:rl<p):top/(y1+1)<=R/Y/\R/Y<=top/y1:=by
 have hp:0<p:=oV
 have hY0:0<Y:=by have:=Nat.mul_pos hy1 hp;omega
 constructor
 ·rw[Awn hY0];have h1:Y<=(y1+1)*p:=by rw[At2];omega
  have h2:top/(y1+1)*(y1+1)<=top:=Ay7 _ _
  calc top/(y1+1)*Y<=top/(y1+1)*((y1+1)*p):=Aul _ h1
   _=top/(y1+1)*(y1+1)*p:=by rw[Atz]
   _<=top*p:=Ats _ h2
   _<=R:=oV
 ·rw[Awn hy1];have h1:R/Y*Y<=R:=Ay7 _ _;have h2:R/Y*(y1*p)<=R/Y*Y:=Aul _ oV;have h3:R/Y*y1*p<(top+1)*p:=by rw[Atz,At2];omega
  exact Nat.le_of_lt_succ (Nat.lt_of_mul_lt_mul_right h3)
theorem Aqj (R n:Nat)(hn:0<n)(hl:(Aa R).length<=n+1)(hl2:n<=(Aa R).length) :
 ∃ rl,R=((Aa R).getD (n-1) 0+(Aa R).getD n 0*1000000000)*1000000000^(n-1)+rl/\rl<1000000000^(n-1):=by
 refine⟨val ((Aa R).take (n-1)),?_,?_⟩
 ·have h:=Fj (Aa R) (n-1) oV;rw[Ai]at h;have hd:=B5 (Aa R) (n-1) oV;rw[show n-1+1=n by omega]at hd;rcases At8 n (Aa R).length with h1|h1
  ·have hd2:=B5 (Aa R) n h1;rw[Aue (show (Aa R).length<=n+1 by omega)]at hd2;rw[hd,hd2]at h;simp only[val,Avw,Avb]at h;rw[At7 _ (1000000000^(n-1)),At7 ((Aa R).getD n 0)];omega
  ·rw[Aue h1]at hd;rw[hd]at h;simp only[val]at h;have h0:(Aa R).getD n 0=0:=by rw[As7,Att h1];rfl
   rw[h0,At7 _ (1000000000^(n-1))];simp only[Ax5,Avw,Avb]at h⊢;omega
 ·have:=I8 ((Am R).take (n-1));rwa[Atm,Av6 oV]at this
end
section
variable {n:Nat}{u:PH}
theorem Dj.lim {b:Bool}{a:Option Addr}{n c k:Nat}(h:Dj u (.agg #[.bool b,.slice a n c]) (Bt false k)):Cb u (.slice a n c) (Aa k):=by
 obtain⟨_,_,_,h1,h2⟩:=h;simp only[Value.agg.injEq,Array.mk.injEq,List.cons.injEq,Value.bool.injEq,Atr,and_true]at h1;obtain⟨_,rfl,rfl,rfl⟩:=h1;rw[Iz]at h2;exact h2
theorem Hu {va:Value}{la:List Nat}(ha:Cb u va la)(lla:Low la)(sa:la.length<=1000000000000)(hn:n<1000000000) :
 Fn0 prog 187 [va,.int .i64 (n:Int)] u fun v u'=>Cb u' v (Aa (val la*n)):=by
 obtain⟨a,ca,rfl,hca⟩:=ha.opn;refine Fn0.o func187 ?_;refine G.l (ι:=Nat×List Nat×Nat×Value) (fun i=>[(0,sV a la.length ca),(1,iV n),(5,.v i.2.2.2),(6,iV i.2.2.1),(7,iV i.1)]) (fun _=>[])
  (fun i _ m'=>(i.1<=la.length+1/\(la.length+1<=i.1->i.2.2.1=0))/\Ae PH.mt m' i.2.2.2 3 1 (Ah i.2.1)/\Hp la n i.1 i.2.1 i.2.2.1) (fun i=>la.length+2-i.1) (0,[],0,.slice none 0 0)
  ⟨⟨mV,fun _=>rfl⟩,Ae.nil _ _ _,Hp.start _ _⟩ ?_
 rintro J ⟨k,ys,c,vo⟩ hJ u' m' hle ⟨hk,hA,hst⟩;simp only at hk hA hst hJ;have hc1:=hst.carry;have hal:=lla.getD k;have hp:la.getD k 0*n<=999999999*999999999:=Aut oV oV;obtain⟨ao,co,rfl⟩:=hA.shape;obtain⟨vo,hvo⟩:∃ vo,vo=Value.slice ao (Ah ys).length co:=⟨_,rfl⟩;rw[<-hvo]at hA⊢;obtain⟨t,ht⟩:∃ t,t=c+la.getD k 0*n:=⟨_,rfl⟩;have hstep:=hst.step lla hn ht;by_cases hka:k<la.length
 ·refine G.lT (k:Int) (la.length:Int) ?_;refine G.lT (k:Int) (la.length:Int) ?_;obtain⟨ba,oa,rfl,ea⟩:=(ha.mono hle).at (j:=k) hka;refine G.a ba oa la.length ca k 1 hka ?_;refine G.lU none ba (oa+k*1) (.int .i64 (la.getD k 0:Nat)) ea ?_;refine G.mul (la.getD k 0:Nat) (n:Int) ((la.getD k 0*n:Nat):Int) kV (Aws _ _).symm oV oV ?_;refine G.p (c:Int) ((la.getD k 0*n:Nat):Int) (t:Int) ?_;refine G.rem (t:Int) 1000000000 ((t%1000000000:Nat):Int) kV oV oV oV oV ?_;refine G.B 3 1 8 (.int .i64 0) [.int .i64 ((t%1000000000:Nat):Int)] (Az [t%1000000000]) ?_;intro g u1 l1 e1;refine G.append 3 1 8 (.int .i64 0) PH.mt (Ah ys) [.int .i64 ((t%1000000000:Nat):Int)] vo g 0 1 1 kV rfl rfl oV hA e1 (Az [t%1000000000]) rfl oV (by rw[Ag,hst.len];omega) (by rw[Ag,hst.len];omega) ?_;intro v2 m2 hA2;rw[Cq]at hA2;refine G.quo (t:Int) 1000000000 ((t/1000000000:Nat):Int) kV oV oV oV oV ?_;refine G.i k ?_;exact G.b (hJ (k+1,ys++[t%1000000000],t/1000000000,v2) _ _ _ cV (hle.trans l1) ⟨⟨oV,dV⟩,hA2,hstep⟩ dV)
 ·have hz:=H2 hka;rw[hz,Ax5,Avb]at ht;subst ht;refine G.lF (k:Int) (la.length:Int) ?_;by_cases hc0:0<t
  ·refine G.gT (t:Int) 0 ?_;refine G.lF (k:Int) (la.length:Int) ?_;refine G.rem (t:Int) 1000000000 ((t%1000000000:Nat):Int) kV oV oV oV oV ?_;refine G.B 3 1 8 (.int .i64 0) [.int .i64 ((t%1000000000:Nat):Int)] (Az [t%1000000000]) ?_;intro g u1 l1 e1;refine G.append 3 1 8 (.int .i64 0) PH.mt (Ah ys) [.int .i64 ((t%1000000000:Nat):Int)] vo g 0 1 1 kV rfl rfl oV hA e1 (Az [t%1000000000]) rfl oV (by rw[Ag,hst.len];omega) (by rw[Ag,hst.len];omega) ?_;intro v2 m2 hA2;rw[Cq]at hA2;refine G.quo (t:Int) 1000000000 ((t/1000000000:Nat):Int) kV oV oV oV oV ?_;refine G.i k ?_;exact G.b (hJ (k+1,ys++[t%1000000000],t/1000000000,v2) _ _ _ cV (hle.trans l1) ⟨⟨oV,dV⟩,hA2,hstep⟩ dV)
  ·refine G.gF (t:Int) 0 ?_;refine G.give PH.mt (Ah ys) vo kV hA (fun _=>.inl rfl) ?_;intro u1 l1 hL;have hyl:=hst.len;subst hvo;refine G.c call130 (Dm (b:=false) hL hst.low oV) ?_;intro v2 u2 l2 h5;rw[hst.over hka oV]at h5;obtain⟨b5,a5,n5,c5,rfl,_,_⟩:=h5.opn;exact G.r (.slice a5 n5 c5) ⟨rfl,h5.lim⟩
end
section
variable {R Y hi lo mid:Nat}{z:Int}
theorem Ma (m n:Nat):((m:Int)).tdiv n=((m/n:Nat):Int):=rfl
theorem Ot (m n:Nat):((m:Int)).tmod n=((m%n:Nat):Int):=rfl
theorem Ag3 (y z:Int):Bt (!(decide (y<0)==decide (z<0))) (y.natAbs/z.natAbs)=y.tdiv z:=by
 unfold Bt;rcases Axn y 0 with hy|hy<;>rcases Axn z 0 with hz|hz
 ·rw[decide_eq_true hy,decide_eq_true hz];obtain⟨m,rfl⟩:∃ m:Nat,y = -(m:Int):=⟨y.natAbs,oV⟩;obtain⟨n,rfl⟩:∃ n:Nat,z = -(n:Int):=⟨z.natAbs,oV⟩;rw[Azb,A3s,Int.neg_neg,Ma,Avp,Avp];rfl
 ·rw[decide_eq_true hy,decide_eq_false (show ¬ z<0 by omega)];obtain⟨m,rfl⟩:∃ m:Nat,y = -(m:Int):=⟨y.natAbs,oV⟩;obtain⟨n,rfl⟩:∃ n:Nat,z=(n:Int):=⟨z.natAbs,oV⟩;rw[Azb,Ma,Avp];rfl
 ·rw[decide_eq_false (show ¬ y<0 by omega),decide_eq_true hz];obtain⟨m,rfl⟩:∃ m:Nat,y=(m:Int):=⟨y.natAbs,oV⟩;obtain⟨n,rfl⟩:∃ n:Nat,z = -(n:Int):=⟨z.natAbs,oV⟩;rw[A3s,Ma,Avp];rfl
 ·grind
theorem Ahw (y z:Int):Bt (decide (y<0)) (y.natAbs%z.natAbs)=y.tmod z:=by
 unfold Bt;have hn:∀ m:Nat,((m:Int)).tmod z=((m%z.natAbs:Nat):Int):=by
  intro m;rcases Axn z 0 with hz|hz
  ·obtain⟨n,rfl⟩:∃ n:Nat,z = -(n:Int):=⟨z.natAbs,oV⟩;rw[Int.tmod_neg,Ot,Avp];rfl
  ·grind
 rcases Axn y 0 with hy|hy
 ·rw[decide_eq_true hy];obtain⟨m,rfl⟩:∃ m:Nat,y = -(m:Int):=⟨y.natAbs,oV⟩;rw[A3t,hn,Avp];rfl
 ·grind
theorem Aqc {n:Nat}(h:n≠0):0<(Aa n).getD ((Aa n).length-1) 0:=by
 have h1:=H6 (Am n);rw[Ai]at h1;have h2:=congrArg Av5 h1;rw[Atm]at h2;have hp:0<(Aa n).length:=Cm.2 oV;have h3:=Jl (Aa n) (Aa n).length;have h4:=Q1 (Aa n) (Aa n).length oV;rw[show Bl (Aa n) (Aa n).length=(Aa n).length by omega]at h4;omega
theorem Ad9 (h:z<=0):sgn z<=0:=by
 rcases Awd z 0 with h1|h1|h1
 ·rw[Dc h1];decide
 ·rw[h1];decide
 ·omega
theorem Ajf (h:0<=z):0<=sgn z:=by
 rcases Awd z 0 with h1|h1|h1
 ·omega
 ·rw[h1];decide
 ·rw[Cf h1];decide
theorem Aor (g:Nat)(u:PH)(x:Nat)(e:Eu u g 0 1 [.int .i64 (x:Int)]):Ad u (.slice (some ⟨g,0,none⟩) 1 1) 1 (Ah [x]):=⟨_,1,rfl,by simp[Ah],fun j v hj=>⟨g,0,rfl,e j v hj⟩⟩
theorem Acu (x:Nat)(l:List Nat):Ah [x]++Ah l=Ah (x::l):=rfl
structure Uj (Y R lo hi:Nat):Prop where
 a:lo<=R/Y
 b:R/Y<=hi
 c:hi<=999999999
theorem Uj.up (h:Uj Y R lo hi)(hY:0<Y)(hm:Y*mid<=R):Uj Y R mid hi:=⟨by rw[Awn hY,At7];exact hm,h.b,h.c⟩
theorem Uj.down (h:Uj Y R lo hi)(hY:0<Y)(hm:¬ Y*mid<=R)(h0:0<mid)(hc:mid<=hi):Uj Y R lo (mid-1):=by
 have:R/Y<mid:=by rw[Au4 hY,At7];omega
 exact⟨h.a,oV,by have:=h.c;omega⟩
theorem Yn {u:PH}{x x':Value}{y z:Int}(hx:Dj u x y)(hx':Dj u x' z)(sy:nl y.natAbs<=100000000000)(sz:nl z.natAbs<=100000000000)(hz0:z≠0) :
 Fn0 prog 128 [x,x'] u fun v u'=>∃ a b,v=.tuple #[a,b]/\Dj u' a (y.tdiv z)/\Dj u' b (y.tmod z):=by
 obtain⟨b,a,n,c,rfl,hb,hi⟩:=hx.opn;obtain⟨b',a',n',c',rfl,hb',hi'⟩:=hx'.opn;obtain⟨rfl,_⟩:=hi.len;obtain⟨rfl,_⟩:=hi'.len;have hll:=Am y.natAbs;have sy':(Aa y.natAbs).length<=100000000000:=sy;have sz':(Aa z.natAbs).length<=100000000000:=sz;have hYp:0<z.natAbs:=oV
 have hn1:0<(Aa z.natAbs).length:=Cm.2 hYp;have hquo:Bt (!(b==b')) (y.natAbs/z.natAbs)=y.tdiv z:=by rw[hb,hb'];exact Ag3 y z
 have hrem:Bt b (y.natAbs%z.natAbs)=y.tmod z:=by rw[hb];exact Ahw y z
 have hvy:=Ai y.natAbs;rw[<-hvy]at hquo hrem;generalize Aa y.natAbs=lx at *
 have hY:=Ai z.natAbs;have hly:=Am z.natAbs;have htop:=Aqc (n:=z.natAbs) oV;generalize z.natAbs=Y at *
 clear hb hb' hx hx' sy sz;refine Fn0.o func128 ?_;refine G.make 3 1 8 (.int .i64 0) lx.length kV rfl rfl oV oV oV ?_;rintro vq m1 hA ⟨aq,rfl⟩;rw[Ra]at hA;refine G.sub (lx.length:Int) 1 ((lx.length:Int)-1) kV rfl oV oV ?_;refine G.l (ι:=Int×Nat×List Nat×Value) (fun i=>[(2,.p 0 0),(3,.p 1 0),(4,.p 2 0),(5,.p 3 0),(6,.v i.2.2.2),(7,sV (some aq) lx.length lx.length),(8,iV i.1)])
  (fun _=>[(0,⟨55,[bV b,sV a lx.length c]⟩),(1,⟨55,[bV b',sV a' (Aa Y).length c']⟩),(2,⟨55,[bV false,sV none 0 0]⟩),(3,⟨55,[bV false,sV none 0 0]⟩)])
  (fun i u' m'=>(-1<=i.1/\i.1<lx.length)/\Q7 lx Y (i.1+1).toNat i.2.2.1 i.2.1/\Cb u' i.2.2.2 (Aa i.2.1)/\Ae PH.mt m' (.slice (some aq) lx.length lx.length) 3 1 (Ah i.2.2.1)) (fun i=>(i.1+1).toNat) ((lx.length:Int)-1,0,As6 lx.length 0,.slice none 0 0)
  ⟨⟨gV,gV⟩,by rw[show (((lx.length:Int)-1)+1).toNat=lx.length by omega];exact Q7.start _ _,by rw[Bb];exact Ad.nil _ _ _ _,hA⟩ ?_
 clear hA m1;rintro J ⟨zi,R,qs,vr⟩ hJ u' m' hle ⟨hzi,hst,hR,hA⟩;simp only at hzi hst hR hA hJ;obtain⟨ar,cr,rfl,hcr⟩:=hR.opn;by_cases hneg:0<=zi
 ·obtain⟨k,rfl⟩:=Int.eq_ofNat_of_zero_le hneg;rw[show ((k:Int)+1).toNat=k+1 by omega]at hst;have hk:k<lx.length:=oV
  have hRY:R<Y:=by rw[hst.rest];exact Au3 _ hYp
  have hxk:=hll.getD k;have hstep:=hst.step hll hk hYp;have hdig:=Wt hRY hxk;obtain⟨baq,caq,e⟩:=hA.ptr (by intro e;have:=congrArg Av5 e;rw[Ag,hst.len,Av1]at this;omega);simp only[Atr,Atd]at e;obtain⟨rfl,_,_⟩:=e;obtain⟨ba,oa,rfl,ea⟩:=(hi.mono hle).at (j:=k) hk;refine G.hT (k:Int) 0 ?_;refine G.a ba oa lx.length c k 1 hk ?_;refine G.lU none ba (oa+k*1) (.int .i64 (lx.getD k 0:Nat)) ea ?_;refine G.B 3 1 8 (.int .i64 0) [.int .i64 (lx.getD k 0:Nat)] (Az [lx.getD k 0]) ?_;intro g u1 l1 e1;have hRlen:(Aa R).length<=(Aa Y).length:=Em oV;refine G.appendV 3 1 8 (.int .i64 0) (Ah [lx.getD k 0]) (Ah (Aa R)) (some ⟨g,0,none⟩) 1 ar (Aa R).length cr kV oV (Aor g u1 _ e1) (Az _) (hR.mono l1) (Az _) (by rw[Ag,Ag];simp;omega) (by rw[Ag,Ag];simp;omega) ?_;intro v2 u2 l2 h2;rw[Acu]at h2;obtain⟨a2,c2,rfl,hc2⟩:=Cb.opn h2;refine G.c call130 (Dm (b:=false) (l:=lx.getD k 0::Aa R) h2 (Low.cons hxk (Am R)) gV) ?_;intro v3 u3 l3 h3;rw[show val (lx.getD k 0::Aa R)=lx.getD k 0+1000000000*R by simp only[val];rw[Ai]]at h3;generalize lx.getD k 0+1000000000*R=R' at *
  obtain⟨b3,a3,n3,c3,rfl,_,_⟩:=h3.opn;have hR':=h3.lim;obtain⟨rfl,hc3⟩:=hR'.len;have hR'len:(Aa R').length<=(Aa Y).length+1:=by
   have h5:=hdig;rw[Au4 hYp]at h5;refine A0 ?_;have h6:=Ck Y;rw[Auc];have h7:1000000000*Y<1000000000*1000000000^nl Y:=Nat.mul_lt_mul_of_pos_left h6 oV;have h8:(1000000000:Nat)^(Aa Y).length=1000000000^nl Y:=rfl;rw[h8,At7 (1000000000^nl Y)];omega
  have hiy:=hi'.mono (((hle.trans l1).trans l2).trans l3);refine G.c call132 (Kd hR' hiy (by show (Aa R').length<=_;omega) (by show (Aa Y).length<=_;omega)) ?_;rintro v4 u4 l4 rfl;have hR4:=hR'.mono l4;have hiy4:=hiy.mono l4;have hle4:PH.le u u4:=(((hle.trans l1).trans l2).trans l3).trans l4;by_cases hge:Y<=R'
  ·refine G.hT' (sgn ((R':Int)-Y)) 0 (Ajf oV) ?_;have hlen2:(Aa Y).length<=(Aa R').length:=Em hge;obtain⟨rl,hr1,hr2⟩:=Aqj R' (Aa Y).length hn1 hR'len hlen2;obtain⟨br,orr,rfl,er⟩:=hR4.at (j:=(Aa Y).length-1) oV;have hr1l:=(Am R').getD ((Aa Y).length-1);have hr2l:=(Am R').getD (Aa Y).length;have hy1l:=hly.getD ((Aa Y).length-1);obtain⟨by_,oy,rfl,ey⟩:=hiy4.at (j:=(Aa Y).length-1) oV;have hYsplit:Y=(Aa Y).getD ((Aa Y).length-1) 0*1000000000^((Aa Y).length-1)+val ((Aa Y).take ((Aa Y).length-1)):=by
    have h5:=Fj (Aa Y) ((Aa Y).length-1) oV;rw[hY,B5 _ _ (show (Aa Y).length-1<(Aa Y).length by omega),Aue oV]at h5;simp only[val,Avw,Avb]at h5;rw[At7];omega
   have hyl:val ((Aa Y).take ((Aa Y).length-1))<1000000000^((Aa Y).length-1):=by
    have:=I8 (hly.take ((Aa Y).length-1));rwa[Atm,Av6 oV]at this
   have hest:=Anz hYsplit hyl htop hr1 hr2;refine G.s ((Aa Y).length:Int) 1 (((Aa Y).length-1:Nat):Int) ?_;refine G.a br orr (Aa R').length c3 ((Aa Y).length-1) 1 oV ?_;refine G.lU none br (orr+((Aa Y).length-1)*1) (.int .i64 ((Aa R').getD ((Aa Y).length-1) 0:Nat)) er ?_;obtain⟨top,htp⟩:∃ top,top=(Aa R').getD ((Aa Y).length-1) 0+(Aa R').getD (Aa Y).length 0*1000000000:=⟨_,rfl⟩;rw[<-htp]at hest;have hmm:∀ k:Nat,((min (999999999:Int) (k:Int)))=((min 999999999 k:Nat):Int):=fun k=>oV
   obtain⟨h1,hh1⟩:∃ h1,h1=min 999999999 (top/(Aa Y).getD ((Aa Y).length-1) 0):=⟨_,rfl⟩;obtain⟨l0,hl0⟩:∃ l0,l0=min h1 (top/((Aa Y).getD ((Aa Y).length-1) 0+1)):=⟨_,rfl⟩;have hfind:Uj Y R' l0 h1:=⟨oV,oV,oV⟩;by_cases hlong:(Aa Y).length<(Aa R').length
   ·refine G.gT ((Aa R').length:Int) ((Aa Y).length:Int) ?_;obtain⟨_,_,e9,er2⟩:=hR4.at (j:=(Aa Y).length) hlong;simp only[Atd,Addr.mk.injEq,and_true]at e9;obtain⟨rfl,rfl⟩:=e9;refine G.a br orr (Aa R').length c3 (Aa Y).length 1 hlong ?_;refine G.lU none br (orr+(Aa Y).length*1) (.int .i64 ((Aa R').getD (Aa Y).length 0:Nat)) er2 ?_;refine G.mul ((Aa R').getD (Aa Y).length 0:Nat) 1000000000 (((Aa R').getD (Aa Y).length 0*1000000000:Nat):Int) kV oV oV oV ?_;refine G.p ((Aa R').getD ((Aa Y).length-1) 0:Nat) (((Aa R').getD (Aa Y).length 0*1000000000:Nat):Int) (top:Int) ?_;obtain⟨y1,hy1e⟩:∃ y1,y1=(Aa Y).getD ((Aa Y).length-1) 0:=⟨_,rfl⟩;rw[<-hy1e]at ey hh1 hl0 htop hy1l;refine G.s ((Aa Y).length:Int) 1 (((Aa Y).length-1:Nat):Int) ?_;refine G.a by_ oy (Aa Y).length c' ((Aa Y).length-1) 1 oV ?_;refine G.lU none by_ (oy+((Aa Y).length-1)*1) (.int .i64 (y1:Nat)) ey ?_;refine G.quo (top:Int) (y1:Int) ((top/y1:Nat):Int) kV oV oV oV (Axi _ _).symm ?_;refine G.minI [3,3] 999999999 ((top/y1:Nat):Int) (h1:Int) kV (by rw[hmm,hh1]) ?_;refine G.s ((Aa Y).length:Int) 1 (((Aa Y).length-1:Nat):Int) ?_;refine G.a by_ oy (Aa Y).length c' ((Aa Y).length-1) 1 oV ?_;refine G.lU none by_ (oy+((Aa Y).length-1)*1) (.int .i64 (y1:Nat)) ey ?_;refine G.i y1 ?_;refine G.quo (top:Int) ((y1+1:Nat):Int) ((top/(y1+1):Nat):Int) kV oV oV oV (Axi _ _).symm ?_;refine G.minI [3,3] (h1:Int) ((top/(y1+1):Nat):Int) (l0:Int) kV (by rw[hl0];omega) ?_;refine G.l (ι:=Nat×Nat) (fun i=>[(2,.p 0 0),(3,.p 1 0),(4,.p 2 0),(5,.p 3 0),(6,sV (some ⟨br,orr,none⟩) (Aa R').length c3),(7,sV (some ⟨baq,0,none⟩) lx.length lx.length),(8,iV k),(9,iV i.1),(10,iV i.2)])
     (fun _=>[(0,⟨55,[bV b,sV (some ⟨ba,oa,none⟩) lx.length c]⟩),(1,⟨55,[bV b',sV (some ⟨by_,oy,none⟩) (Aa Y).length c']⟩),(2,⟨55,[bV false,sV none 0 0]⟩),(3,⟨55,[bV false,sV none 0 0]⟩)])
     (fun i _ m'=>Uj Y R' i.1 i.2/\Ae PH.mt m' (.slice (some ⟨baq,0,none⟩) lx.length lx.length) 3 1 (Ah qs)) (fun i=>i.2-i.1) (l0,h1) ⟨hfind,hA⟩ ?_
    clear hfind hA hl0 hh1;rintro J2 ⟨lo,hi2⟩ hJ2 u5 m' hle5 ⟨hf,hA⟩;simp only at hf hA hJ2;have hf1:=hf.a;have hf2:=hf.b;have hf3:=hf.c;by_cases hlt:lo<hi2
    ·refine G.lT (lo:Int) (hi2:Int) ?_;refine G.p (lo:Int) (hi2:Int) ((lo+hi2:Nat):Int) ?_;refine G.p ((lo+hi2:Nat):Int) 1 ((lo+hi2+1:Nat):Int) ?_;obtain⟨mid,hmid⟩:∃ mid,mid=(lo+hi2+1)/2:=⟨_,rfl⟩;refine G.quo ((lo+hi2+1:Nat):Int) 2 (mid:Int) kV oV oV oV oV ?_;refine G.c call187 (Hu (n:=mid) (hiy4.mono hle5) hly oV oV) ?_;intro v6 u6 l6 h6;rw[hY]at h6;obtain⟨a6,c6,rfl,hc6⟩:=h6.opn;have hs6:(Aa (Y*mid)).length<=200000000002:=by
      have h5:=Fu Y mid;have h7:nl mid<=1:=A0 oV;have h8:nl Y=(Aa Y).length:=rfl;have h9:nl (Y*mid)=(Aa (Y*mid)).length:=rfl;omega
     refine G.c call132 (Kd h6 ((hR4.mono hle5).mono l6) (by show (Aa (Y*mid)).length<=_;omega) (by show (Aa R').length<=_;omega)) ?_;rintro v7 u7 l7 rfl;by_cases hle7:Y*mid<=R'
     ·refine G.kT' (sgn (((Y*mid:Nat):Int)-R')) 0 (Ad9 oV) ?_;exact G.b (hJ2 (mid,hi2) _ _ _ cV ((hle5.trans l6).trans l7) ⟨hf.up hYp hle7,hA⟩ dV)
     ·refine G.kF' (sgn (((Y*mid:Nat):Int)-R')) 0 (by rw[Cf oV];decide) ?_;refine G.s (mid:Int) 1 ((mid-1:Nat):Int) ?_;exact G.b (hJ2 (lo,mid-1) _ _ _ cV ((hle5.trans l6).trans l7) ⟨hf.down hYp hle7 oV oV,hA⟩ dV)
    ·obtain rfl:lo=R' / Y:=oV
     refine G.lF ((R' / Y:Nat):Int) (hi2:Int) ?_;refine G.a baq 0 lx.length lx.length k 1 hk ?_;refine G.storeA 1 PH.mt _ baq lx.length lx.length k (.int .i64 ((R' / Y:Nat):Int)) kV hA (by rw[Ag,hst.len];exact hk) rfl rfl ?_;intro m2 hA2;rw[Kb]at hA2;by_cases hq0:0<R' / Y
     ·refine G.gT ((R' / Y:Nat):Int) 0 ?_;refine G.c call187 (Hu (n:=R' / Y) (hiy4.mono hle5) hly oV oV) ?_;intro v6 u6 l6 h6;rw[hY]at h6;have hmul:Y*(R' / Y)<=R':=A1n R' Y;obtain⟨a6,c6,rfl,hc6⟩:=h6.opn;refine G.c call133 (J8 ((hR4.mono hle5).mono l6) h6 (Am _) (Am _) oV (Em hmul) (by rw[Ai,Ai];exact hmul)) ?_;rintro v7 u7 l7 ⟨l,g1,g2,g3,g4⟩;obtain⟨a7,c7,rfl,hc7⟩:=g1.opn;refine G.c call130 (Dm (b:=false) g1 g2 oV) ?_;intro v8 u8 l8 h8;rw[g3,Ai,Ai,show R' - Y*(R' / Y)=R' % Y by have:=Avf R' Y;omega]at h8;obtain⟨b8,a8,n8,c8,rfl,_,_⟩:=h8.opn;refine G.sub (k:Int) 1 ((k:Int)-1) kV rfl oV oV ?_;refine G.b (hJ ((k:Int)-1,R' % Y,qs.set k (R' / Y),.slice a8 n8 c8) _ _ _ cV ((((hle4.trans hle5).trans l6).trans l7).trans l8) ⟨⟨dV,dV⟩,?_,h8.lim,hA2⟩ dV);rw[show (((k:Int)-1)+1).toNat=k by omega];exact hstep
     ·refine G.gF ((R' / Y:Nat):Int) 0 ?_;refine G.sub (k:Int) 1 ((k:Int)-1) kV rfl oV oV ?_;have hm0:R' % Y=R':=by have:=Avf R' Y;rw[show R' / Y=0 by omega,Avw]at this;omega
      rw[hm0]at hstep;refine G.b (hJ ((k:Int)-1,R',qs.set k (R' / Y),.slice (some ⟨br,orr,none⟩) (Aa R').length c3) _ _ _ cV (hle4.trans hle5) ⟨⟨dV,dV⟩,?_,hR4.mono hle5,hA2⟩ dV);rw[show (((k:Int)-1)+1).toNat=k by omega];exact hstep
   ·refine G.gF ((Aa R').length:Int) ((Aa Y).length:Int) ?_;have h0:=H2 (l:=Aa R') (k:=(Aa Y).length) oV;rw[h0,Ax5,Avb]at htp;rw[<-htp];obtain⟨y1,hy1e⟩:∃ y1,y1=(Aa Y).getD ((Aa Y).length-1) 0:=⟨_,rfl⟩;rw[<-hy1e]at ey hh1 hl0 htop hy1l;refine G.s ((Aa Y).length:Int) 1 (((Aa Y).length-1:Nat):Int) ?_;refine G.a by_ oy (Aa Y).length c' ((Aa Y).length-1) 1 oV ?_;refine G.lU none by_ (oy+((Aa Y).length-1)*1) (.int .i64 (y1:Nat)) ey ?_;refine G.quo (top:Int) (y1:Int) ((top/y1:Nat):Int) kV oV oV oV (Axi _ _).symm ?_;refine G.minI [3,3] 999999999 ((top/y1:Nat):Int) (h1:Int) kV (by rw[hmm,hh1]) ?_;refine G.s ((Aa Y).length:Int) 1 (((Aa Y).length-1:Nat):Int) ?_;refine G.a by_ oy (Aa Y).length c' ((Aa Y).length-1) 1 oV ?_;refine G.lU none by_ (oy+((Aa Y).length-1)*1) (.int .i64 (y1:Nat)) ey ?_;refine G.i y1 ?_;refine G.quo (top:Int) ((y1+1:Nat):Int) ((top/(y1+1):Nat):Int) kV oV oV oV (Axi _ _).symm ?_;refine G.minI [3,3] (h1:Int) ((top/(y1+1):Nat):Int) (l0:Int) kV (by rw[hl0];omega) ?_;refine G.l (ι:=Nat×Nat) (fun i=>[(2,.p 0 0),(3,.p 1 0),(4,.p 2 0),(5,.p 3 0),(6,sV (some ⟨br,orr,none⟩) (Aa R').length c3),(7,sV (some ⟨baq,0,none⟩) lx.length lx.length),(8,iV k),(9,iV i.1),(10,iV i.2)])
     (fun _=>[(0,⟨55,[bV b,sV (some ⟨ba,oa,none⟩) lx.length c]⟩),(1,⟨55,[bV b',sV (some ⟨by_,oy,none⟩) (Aa Y).length c']⟩),(2,⟨55,[bV false,sV none 0 0]⟩),(3,⟨55,[bV false,sV none 0 0]⟩)])
     (fun i _ m'=>Uj Y R' i.1 i.2/\Ae PH.mt m' (.slice (some ⟨baq,0,none⟩) lx.length lx.length) 3 1 (Ah qs)) (fun i=>i.2-i.1) (l0,h1) ⟨hfind,hA⟩ ?_
    clear hfind hA hl0 hh1;rintro J2 ⟨lo,hi2⟩ hJ2 u5 m' hle5 ⟨hf,hA⟩;simp only at hf hA hJ2;have hf1:=hf.a;have hf2:=hf.b;have hf3:=hf.c;by_cases hlt:lo<hi2
    ·refine G.lT (lo:Int) (hi2:Int) ?_;refine G.p (lo:Int) (hi2:Int) ((lo+hi2:Nat):Int) ?_;refine G.p ((lo+hi2:Nat):Int) 1 ((lo+hi2+1:Nat):Int) ?_;obtain⟨mid,hmid⟩:∃ mid,mid=(lo+hi2+1)/2:=⟨_,rfl⟩;refine G.quo ((lo+hi2+1:Nat):Int) 2 (mid:Int) kV oV oV oV oV ?_;refine G.c call187 (Hu (n:=mid) (hiy4.mono hle5) hly oV oV) ?_;intro v6 u6 l6 h6;rw[hY]at h6;obtain⟨a6,c6,rfl,hc6⟩:=h6.opn;have hs6:(Aa (Y*mid)).length<=200000000002:=by
      have h5:=Fu Y mid;have h7:nl mid<=1:=A0 oV;have h8:nl Y=(Aa Y).length:=rfl;have h9:nl (Y*mid)=(Aa (Y*mid)).length:=rfl;omega
     refine G.c call132 (Kd h6 ((hR4.mono hle5).mono l6) (by show (Aa (Y*mid)).length<=_;omega) (by show (Aa R').length<=_;omega)) ?_;rintro v7 u7 l7 rfl;by_cases hle7:Y*mid<=R'
     ·refine G.kT' (sgn (((Y*mid:Nat):Int)-R')) 0 (Ad9 oV) ?_;exact G.b (hJ2 (mid,hi2) _ _ _ cV ((hle5.trans l6).trans l7) ⟨hf.up hYp hle7,hA⟩ dV)
     ·refine G.kF' (sgn (((Y*mid:Nat):Int)-R')) 0 (by rw[Cf oV];decide) ?_;refine G.s (mid:Int) 1 ((mid-1:Nat):Int) ?_;exact G.b (hJ2 (lo,mid-1) _ _ _ cV ((hle5.trans l6).trans l7) ⟨hf.down hYp hle7 oV oV,hA⟩ dV)
    ·obtain rfl:lo=R' / Y:=oV
     refine G.lF ((R' / Y:Nat):Int) (hi2:Int) ?_;refine G.a baq 0 lx.length lx.length k 1 hk ?_;refine G.storeA 1 PH.mt _ baq lx.length lx.length k (.int .i64 ((R' / Y:Nat):Int)) kV hA (by rw[Ag,hst.len];exact hk) rfl rfl ?_;intro m2 hA2;rw[Kb]at hA2;by_cases hq0:0<R' / Y
     ·refine G.gT ((R' / Y:Nat):Int) 0 ?_;refine G.c call187 (Hu (n:=R' / Y) (hiy4.mono hle5) hly oV oV) ?_;intro v6 u6 l6 h6;rw[hY]at h6;have hmul:Y*(R' / Y)<=R':=A1n R' Y;obtain⟨a6,c6,rfl,hc6⟩:=h6.opn;refine G.c call133 (J8 ((hR4.mono hle5).mono l6) h6 (Am _) (Am _) oV (Em hmul) (by rw[Ai,Ai];exact hmul)) ?_;rintro v7 u7 l7 ⟨l,g1,g2,g3,g4⟩;obtain⟨a7,c7,rfl,hc7⟩:=g1.opn;refine G.c call130 (Dm (b:=false) g1 g2 oV) ?_;intro v8 u8 l8 h8;rw[g3,Ai,Ai,show R' - Y*(R' / Y)=R' % Y by have:=Avf R' Y;omega]at h8;obtain⟨b8,a8,n8,c8,rfl,_,_⟩:=h8.opn;refine G.sub (k:Int) 1 ((k:Int)-1) kV rfl oV oV ?_;refine G.b (hJ ((k:Int)-1,R' % Y,qs.set k (R' / Y),.slice a8 n8 c8) _ _ _ cV ((((hle4.trans hle5).trans l6).trans l7).trans l8) ⟨⟨dV,dV⟩,?_,h8.lim,hA2⟩ dV);rw[show (((k:Int)-1)+1).toNat=k by omega];exact hstep
     ·refine G.gF ((R' / Y:Nat):Int) 0 ?_;refine G.sub (k:Int) 1 ((k:Int)-1) kV rfl oV oV ?_;have hm0:R' % Y=R':=by have:=Avf R' Y;rw[show R' / Y=0 by omega,Avw]at this;omega
      rw[hm0]at hstep;refine G.b (hJ ((k:Int)-1,R',qs.set k (R' / Y),.slice (some ⟨br,orr,none⟩) (Aa R').length c3) _ _ _ cV (hle4.trans hle5) ⟨⟨dV,dV⟩,?_,hR4.mono hle5,hA2⟩ dV);rw[show (((k:Int)-1)+1).toNat=k by omega];exact hstep
  ·refine G.hF' (sgn ((R':Int)-Y)) 0 (by rw[Dc oV];decide) ?_;obtain⟨l0,hl0⟩:∃ l0:Nat,l0=0:=⟨_,rfl⟩;obtain⟨h1,hh1⟩:∃ h1:Nat,h1=0:=⟨_,rfl⟩;have hfind:Uj Y R' 0 0:=by
    have:R' / Y=0:=Nat.div_eq_of_lt oV;exact⟨oV,oV,oV⟩
   refine G.l (ι:=Nat×Nat) (fun i=>[(2,.p 0 0),(3,.p 1 0),(4,.p 2 0),(5,.p 3 0),(6,sV a3 (Aa R').length c3),(7,sV (some ⟨baq,0,none⟩) lx.length lx.length),(8,iV k),(9,iV i.1),(10,iV i.2)])
    (fun _=>[(0,⟨55,[bV b,sV (some ⟨ba,oa,none⟩) lx.length c]⟩),(1,⟨55,[bV b',sV a' (Aa Y).length c']⟩),(2,⟨55,[bV false,sV none 0 0]⟩),(3,⟨55,[bV false,sV none 0 0]⟩)])
    (fun i _ m'=>Uj Y R' i.1 i.2/\Ae PH.mt m' (.slice (some ⟨baq,0,none⟩) lx.length lx.length) 3 1 (Ah qs)) (fun i=>i.2-i.1) (0,0) ⟨hfind,hA⟩ ?_
   clear hfind hA hl0 hh1;rintro J2 ⟨lo,hi2⟩ hJ2 u5 m' hle5 ⟨hf,hA⟩;simp only at hf hA hJ2;have hf1:=hf.a;have hf2:=hf.b;have hf3:=hf.c;by_cases hlt:lo<hi2
   ·refine G.lT (lo:Int) (hi2:Int) ?_;refine G.p (lo:Int) (hi2:Int) ((lo+hi2:Nat):Int) ?_;refine G.p ((lo+hi2:Nat):Int) 1 ((lo+hi2+1:Nat):Int) ?_;obtain⟨mid,hmid⟩:∃ mid,mid=(lo+hi2+1)/2:=⟨_,rfl⟩;refine G.quo ((lo+hi2+1:Nat):Int) 2 (mid:Int) kV oV oV oV oV ?_;refine G.c call187 (Hu (n:=mid) (hiy4.mono hle5) hly oV oV) ?_;intro v6 u6 l6 h6;rw[hY]at h6;obtain⟨a6,c6,rfl,hc6⟩:=h6.opn;have hs6:(Aa (Y*mid)).length<=200000000002:=by
     have h5:=Fu Y mid;have h7:nl mid<=1:=A0 oV;have h8:nl Y=(Aa Y).length:=rfl;have h9:nl (Y*mid)=(Aa (Y*mid)).length:=rfl;omega
    refine G.c call132 (Kd h6 ((hR4.mono hle5).mono l6) (by show (Aa (Y*mid)).length<=_;omega) (by show (Aa R').length<=_;omega)) ?_;rintro v7 u7 l7 rfl;by_cases hle7:Y*mid<=R'
    ·refine G.kT' (sgn (((Y*mid:Nat):Int)-R')) 0 (Ad9 oV) ?_;exact G.b (hJ2 (mid,hi2) _ _ _ cV ((hle5.trans l6).trans l7) ⟨hf.up hYp hle7,hA⟩ dV)
    ·refine G.kF' (sgn (((Y*mid:Nat):Int)-R')) 0 (by rw[Cf oV];decide) ?_;refine G.s (mid:Int) 1 ((mid-1:Nat):Int) ?_;exact G.b (hJ2 (lo,mid-1) _ _ _ cV ((hle5.trans l6).trans l7) ⟨hf.down hYp hle7 oV oV,hA⟩ dV)
   ·obtain rfl:lo=R' / Y:=oV
    refine G.lF ((R' / Y:Nat):Int) (hi2:Int) ?_;refine G.a baq 0 lx.length lx.length k 1 hk ?_;refine G.storeA 1 PH.mt _ baq lx.length lx.length k (.int .i64 ((R' / Y:Nat):Int)) kV hA (by rw[Ag,hst.len];exact hk) rfl rfl ?_;intro m2 hA2;rw[Kb]at hA2;by_cases hq0:0<R' / Y
    ·refine G.gT ((R' / Y:Nat):Int) 0 ?_;refine G.c call187 (Hu (n:=R' / Y) (hiy4.mono hle5) hly oV oV) ?_;intro v6 u6 l6 h6;rw[hY]at h6;have hmul:Y*(R' / Y)<=R':=A1n R' Y;obtain⟨a6,c6,rfl,hc6⟩:=h6.opn;refine G.c call133 (J8 ((hR4.mono hle5).mono l6) h6 (Am _) (Am _) oV (Em hmul) (by rw[Ai,Ai];exact hmul)) ?_;rintro v7 u7 l7 ⟨l,g1,g2,g3,g4⟩;obtain⟨a7,c7,rfl,hc7⟩:=g1.opn;refine G.c call130 (Dm (b:=false) g1 g2 oV) ?_;intro v8 u8 l8 h8;rw[g3,Ai,Ai,show R' - Y*(R' / Y)=R' % Y by have:=Avf R' Y;omega]at h8;obtain⟨b8,a8,n8,c8,rfl,_,_⟩:=h8.opn;refine G.sub (k:Int) 1 ((k:Int)-1) kV rfl oV oV ?_;refine G.b (hJ ((k:Int)-1,R' % Y,qs.set k (R' / Y),.slice a8 n8 c8) _ _ _ cV ((((hle4.trans hle5).trans l6).trans l7).trans l8) ⟨⟨dV,dV⟩,?_,h8.lim,hA2⟩ dV);rw[show (((k:Int)-1)+1).toNat=k by omega];exact hstep
    ·refine G.gF ((R' / Y:Nat):Int) 0 ?_;refine G.sub (k:Int) 1 ((k:Int)-1) kV rfl oV oV ?_;have hm0:R' % Y=R':=by have:=Avf R' Y;rw[show R' / Y=0 by omega,Avw]at this;omega
     rw[hm0]at hstep;refine G.b (hJ ((k:Int)-1,R',qs.set k (R' / Y),.slice a3 (Aa R').length c3) _ _ _ cV (hle4.trans hle5) ⟨⟨dV,dV⟩,?_,hR4.mono hle5,hA2⟩ dV);rw[show (((k:Int)-1)+1).toNat=k by omega];exact hstep
 ·obtain rfl:zi = -1:=oV
  refine G.hF (-1) 0 ?_;refine G.give PH.mt (Ah qs) _ kV hA (fun _=>.inl rfl) ?_;intro u1 l1 hL;have hst:Q7 lx Y 0 qs R:=hst;have hq:=hst.quo;have hr:=hst.rest;rw[Aw4,Aw4]at hq;rw[Aw4]at hr;have hRY:R<Y:=by rw[hr];exact Au3 _ hYp
  have hRlen:(Aa R).length<=(Aa Y).length:=Em oV;refine G.neB b b' kV ?_;refine G.c call130 (Dm (b:=!(b==b')) hL hst.low (by rw[hst.len];omega)) ?_;intro v2 u2 l2 h2;rw[hq,hquo]at h2;obtain⟨b2,a2,n2,c2,rfl,_,_⟩:=h2.opn;refine G.c call130 (Dm (b:=b) (hR.mono (l1.trans l2)) (Am R) oV) ?_;intro v3 u3 l3 h3;rw[Ai,hr,hrem]at h3;obtain⟨b3,a3,n3,c3,rfl,_,_⟩:=h3.opn;exact G.r (.tuple #[.agg #[.bool b2,.slice a2 n2 c2],.agg #[.bool b3,.slice a3 n3 c3]]) ⟨rfl,_,_,rfl,h2.mono l3,h3⟩
end
section
variable {k n:Nat}{y z:Int}{ys:List Nat}
section rules
variable {P:Program} [A7 P] {fn:Func} {Post:By} {st:List KI×S} {u m:PH}
theorem Ao2 {x y z:Int}(hx:-9223372036854775807<=x)(hx2:x<=9223372036854775807)(hy:0<y)(hz:x.tdiv y=z):-9223372036854775808<=z/\z<=9223372036854775807:=by
 rw[<-hz];rcases Axn x 0 with h|h
 ·obtain⟨k,rfl⟩:∃ k:Int,x = -k:=⟨-x,oV⟩;rw[Azb,Awj oV];have h1:=Az6 (a:=k) (b:=y) oV oV;have h2:=A03 (a:=k) y oV;omega
 ·rw[Awj h];have h1:=Az6 (a:=x) (b:=y) h oV;have h2:=A03 (a:=x) y h;omega
theorem G.quoT (x y z:Int)(h:Al P (adv P st)=.bin .quo (.int .i64 x) (.int .i64 y))(hx:-9223372036854775807<=x)(hx2:x<=9223372036854775807)(hy:0<y)(hz:x.tdiv y=z)
 (k:G P fn Post (nx (adv P st) (.int .i64 z)) u m):G P fn Post st u m:=by
 refine G.bin _ h Da (fun t w=>?_) k;have hb:=Ao2 hx hx2 hy hz;have h4:¬ y=0:=oV
 simp[binOp,Op.intDiv,h4,hz,Dq hb.1 hb.2]
theorem G.remT (x y z:Int)(h:Al P (adv P st)=.bin .rem (.int .i64 x) (.int .i64 y))(hy:0<y)(hz:x.tmod y=z)(h1:-9223372036854775808<=z)(h2:z<=9223372036854775807)
 (k:G P fn Post (nx (adv P st) (.int .i64 z)) u m):G P fn Post st u m:=by
 refine G.bin _ h Da (fun t w=>?_) k;have h4:¬ y=0:=oV
 simp[binOp,Op.intDiv,h4,hz,Dq h1 h2]
end rules
theorem Dj.nonneg {u:PH}{v:Value}(h:Dj u v (k:Int)):∃ a n c,v=.agg #[.bool false,.slice a n c]/\Cb u (.slice a n c) (Aa k):=by
 obtain⟨a,n,c,h1,h2⟩:=h;rw[decide_eq_false oV]at h1;exact⟨a,n,c,h1,h2⟩
theorem Agb {u:PH}{x x':Value}(hx:Dj u x y)(hx':Dj u x' z)(sy:nl y.natAbs<=100000000000)(sz:nl z.natAbs<=100000000000) :
 Fn0 prog 127 [x,x'] u fun v u'=>Dj u' v (Auw y.natAbs z.natAbs:Nat):=by
 obtain⟨b,a,n,c,rfl,hb,hi⟩:=hx.opn;obtain⟨b',a',n',c',rfl,hb',hi'⟩:=hx'.opn;refine Fn0.o func127 ?_;refine G.l (ι:=(Nat×Nat)×(Option Addr×Nat×Nat)×(Option Addr×Nat×Nat)) (fun _=>[(2,.p 0 0),(3,.p 1 0),(4,.p 2 0)])
  (fun i=>[(0,⟨55,[bV false,sV i.2.1.1 i.2.1.2.1 i.2.1.2.2]⟩),(1,⟨55,[bV false,sV i.2.2.1 i.2.2.2.1 i.2.2.2.2]⟩),(2,⟨55,[bV false,sV none 0 0]⟩)])
  (fun i u' m'=>(Auw i.1.1 i.1.2=Auw y.natAbs z.natAbs/\nl i.1.1<=100000000000/\nl i.1.2<=100000000000)/\Cb u' (.slice i.2.1.1 i.2.1.2.1 i.2.1.2.2) (Aa i.1.1)/\Cb u' (.slice i.2.2.1 i.2.2.2.1 i.2.2.2.2) (Aa i.1.2)/\m'=PH.mt) (fun i=>i.1.2)
  ((y.natAbs,z.natAbs),(a,n,c),(a',n',c')) ⟨⟨rfl,sy,sz⟩,hi,hi',rfl⟩ ?_
 clear hi hi' hx hx';rintro J ⟨⟨p,q⟩,⟨a,n,c⟩,⟨a',n',c'⟩⟩ hJ u' m' hle ⟨⟨hg,sp,sq⟩,hi,hi',rfl⟩;simp only at hg sp sq hi hi' hJ;obtain⟨rfl,_⟩:=hi.len;obtain⟨rfl,_⟩:=hi'.len;have sp':(Aa p).length<=100000000000:=sp;have sq':(Aa q).length<=100000000000:=sq;by_cases h0:0<(Aa q).length
 ·have hq:=Cm.1 h0;refine G.gT ((Aa q).length:Int) 0 ?_;have hP:Dj u' (.agg #[.bool false,.slice a (Aa p).length c]) (p:Int):=⟨_,_,_,by rw[decide_eq_false oV],hi⟩;have hQ:Dj u' (.agg #[.bool false,.slice a' (Aa q).length c']) (q:Int):=⟨_,_,_,by rw[decide_eq_false oV],hi'⟩;refine G.c call128 (Yn hP hQ sp sq oV) ?_;rintro v1 u1 l1 ⟨va,vb,rfl,h1,h2⟩;rw[Ot]at h2;obtain⟨b1,a1,n1,c1,rfl,_,_⟩:=h1.opn;obtain⟨a2,n2,c2,rfl,h3⟩:=h2.nonneg;exact G.b (hJ ((q,p%q),(a',(Aa q).length,c'),(a2,n2,c2)) _ _ _ cV (hle.trans l1) ⟨⟨by dsimp only;rw[A01 q,<-Nat.gcd_rec,A01];exact hg,sq,As9 (Ct (Nat.le_of_lt (Au3 _ hq))) sq⟩,hi'.mono l1,h3,rfl⟩ (Au3 _ hq))
 ·have hq:q=0:=by
   rcases At5 q with h|h
   ·exact h
   ·exact absurd (Cm.2 h) h0
  subst hq;refine G.gF ((Aa 0).length:Int) 0 ?_;rw[Nat.gcd_zero_right]at hg;exact G.r (.agg #[.bool false,.slice a (Aa p).length c]) ⟨rfl,by rw[<-hg];exact⟨_,_,_,by rw[decide_eq_false oV],hi⟩⟩
structure Za (n k:Nat)(ys:List Nat):Prop where
 low:Low ys
 sum:n=val ys+1000000000^ys.length*k
 top:ys≠[]->k=0->0<ys.getD (ys.length-1) 0
theorem Za.start (n:Nat):Za n n []:=⟨Low.nil,by simp[val],fun h=>absurd rfl h⟩
theorem Za.step (h:Za n k ys)(hk:k≠0):Za n (k/1000000000) (ys++[k%1000000000]):=by
 refine⟨h.low.append (Low.cons oV Low.nil),?_,fun _ h0=>?_⟩
 ·have:=h.sum;rw[H8,Atg,Aux,Auc,Avl,Ha];exact this
 ·rw[Atg,Aux,Avv,As7,List.getElem?_append_right (Atb _)];simp;omega
theorem Alq {l:List Nat}(h:l = []\/0<l.getD (l.length-1) 0):Bl l l.length=l.length:=by
 rcases h with rfl|h
 ·rfl
 ·cases hl:l.length with
  |zero=>rfl
  |succ n=>rw[hl]at h;simp only[Avv]at h;simp only[Bl];rw[if_neg oV]
theorem Za.done (h:Za n 0 ys):ys=Aa n:=by
 have hs:=h.sum;rw[Avw,Avb]at hs;rw[hs,H6 h.low,Alq,List.take_length];by_cases he:ys = []
 ·exact .inl he
 ·exact .inr (h.top he rfl)
theorem Xm (b:Bool)(k:Nat):(Bt b k).tmod 1000000000=Bt b (k%1000000000):=by
 unfold Bt;cases b
 ·exact Ot k 1000000000
 ·show (-(k:Int)).tmod 1000000000 = -((k%1000000000:Nat):Int);rw[A3t];exact congrArg _ (Ot k 1000000000)
theorem Wc (b:Bool)(k:Nat):(Bt b k).tdiv 1000000000=Bt b (k/1000000000):=by
 unfold Bt;cases b
 ·exact Ma k 1000000000
 ·show (-(k:Int)).tdiv 1000000000 = -((k/1000000000:Nat):Int);rw[Azb];exact congrArg _ (Ma k 1000000000)
theorem Ael {u:PH}{n:Int}(h1:-9223372036854775807<=n)(h2:n<=9223372036854775807) :
 Fn0 prog 58 [.int .i64 n] u fun v u'=>Dj u' v n:=by
 refine Fn0.o func58 ?_;have key:∀ b:Bool,b=decide (n<0)->G prog Tryz.f58 ⟨fun v u' m'=>m'=PH.mt/\Dj u' v n,PH.mt⟩ (nx (adv prog (st0 Tryz.f58 [.int .i64 n])) (.bool b)) u PH.mt:=by
  intro b hb;have hn:=Qd n;rw[<-hb]at hn;refine G.loop (ι:=Nat×List Nat×(Option Addr×Nat×Nat)) (fun i=>[(2,.p 0 0),(3,.p 1003 0),(0,iV (Bt b i.1))])
   (fun i=>[(0,⟨55,[bV false,sV none 0 0]⟩),(1003,⟨55,[bV b,sV i.2.2.1 i.2.2.2.1 i.2.2.2.2]⟩)])
   (fun i u' m'=>(i.1<=9223372036854775807/\(i.1≠0->i.2.1.length<=3)/\i.2.1.length<=4/\i.1*1000000000^i.2.1.length<=9223372036854775807)/\Za n.natAbs i.1 i.2.1/\Ae PH.mt m' (.slice i.2.2.1 i.2.2.2.1 i.2.2.2.2) 3 1 (Ah i.2.1)) (fun i=>i.1) (n.natAbs,[],(none,0,0)) kV (fun _=>kV) ⟨kV,by rw[hn];kernel_rfl,kV⟩ ⟨⟨dV,mV,mV,gV⟩,Za.start _,Ae.nil _ _ _⟩ ?_
  rintro J ⟨k,ys,⟨a,ny,c⟩⟩ hJ u' m' hle ⟨⟨hk,hk2,hk3,hk4⟩,hst,hA⟩;simp only at hk hk2 hk3 hk4 hst hA hJ;have hys:=hA.len;rw[Ag]at hys;have hsk:-9223372036854775807<=Bt b k/\Bt b k<=9223372036854775807:=by unfold Bt;split<;>omega
  by_cases h0:k=0
  ·subst h0;refine G.nF' (Bt b 0) 0 (by unfold Bt;split<;>simp) ?_
   refine G.give PH.mt (Ah ys) _ kV hA (fun _=>.inl rfl) ?_;intro u1 l1 hL;refine G.r (.agg #[.bool b,.slice a ny c]) ⟨rfl,a,ny,c,by rw[hb],?_⟩;rw[<-hst.done];exact hL
  ·have hlt3:=hk2 h0;refine G.nT' (Bt b k) 0 (by unfold Bt;split<;>omega) ?_
   have hnext:(k/1000000000<=9223372036854775807/\(k/1000000000≠0->(ys++[k%1000000000]).length<=3)/\(ys++[k%1000000000]).length<=4/\k/1000000000*1000000000^(ys++[k%1000000000]).length<=9223372036854775807):=by
    have e4:k/1000000000*1000000000^(ys.length+1)<=9223372036854775807:=by
     rw[Auc,At7 (1000000000^ys.length),<-Atz];exact As9 (Ats _ (Ay7 _ _)) hk4
    refine⟨oV,fun hne=>?_,gV,by simpa using e4⟩;rcases At8 ys.length 3 with h|h
    ·simp;omega
    ·exfalso;have:ys.length=3:=oV
     rw[this]at e4;have h1:1*1000000000^(3+1)<=k/1000000000*1000000000^(3+1):=Ats _ oV;have h2:(9223372036854775807:Nat)<1*1000000000^(3+1):=fV
     omega
   by_cases hb2:b=true/\k%1000000000≠0
   ·obtain⟨hbt,hm⟩:=hb2;refine G.remT (Bt b k) 1000000000 (-((k%1000000000:Nat):Int)) kV oV (by rw[Xm,hbt];rfl) oV oV ?_;refine G.lT (-((k%1000000000:Nat):Int)) 0 ?_;refine G.neg (-((k%1000000000:Nat):Int)) ((k%1000000000:Nat):Int) kV oV oV oV ?_;refine G.B 3 1 8 (.int .i64 0) [.int .i64 ((k%1000000000:Nat):Int)] (Az [k%1000000000]) ?_;intro g u1 l1 e1;refine G.append 3 1 8 (.int .i64 0) PH.mt (Ah ys) [.int .i64 ((k%1000000000:Nat):Int)] (.slice a ny c) g 0 1 1 kV rfl rfl oV hA e1 (Az [k%1000000000]) rfl oV (by rw[Ag];omega) (by rw[Ag];omega) ?_;intro v2 m2 hA2;rw[Cq]at hA2;obtain⟨a2,c2,rfl⟩:=hA2.shape;refine G.quoT (Bt b k) 1000000000 (Bt b (k/1000000000)) kV oV oV oV (Wc b k) ?_;exact G.b (hJ (k/1000000000,ys++[k%1000000000],(a2,(Ah (ys++[k%1000000000])).length,c2)) _ _ _ cV (hle.trans l1) ⟨hnext,hst.step h0,hA2⟩ dV)
   ·refine G.remT (Bt b k) 1000000000 ((k%1000000000:Nat):Int) kV oV (by rw[Xm];unfold Bt;split<;>simp_all) oV oV ?_
    refine G.lF ((k%1000000000:Nat):Int) 0 ?_;refine G.B 3 1 8 (.int .i64 0) [.int .i64 ((k%1000000000:Nat):Int)] (Az [k%1000000000]) ?_;intro g u1 l1 e1;refine G.append 3 1 8 (.int .i64 0) PH.mt (Ah ys) [.int .i64 ((k%1000000000:Nat):Int)] (.slice a ny c) g 0 1 1 kV rfl rfl oV hA e1 (Az [k%1000000000]) rfl oV (by rw[Ag];omega) (by rw[Ag];omega) ?_;intro v2 m2 hA2;rw[Cq]at hA2;obtain⟨a2,c2,rfl⟩:=hA2.shape;refine G.quoT (Bt b k) 1000000000 (Bt b (k/1000000000)) kV oV oV oV (Wc b k) ?_;exact G.b (hJ (k/1000000000,ys++[k%1000000000],(a2,(Ah (ys++[k%1000000000])).length,c2)) _ _ _ cV (hle.trans l1) ⟨hnext,hst.step h0,hA2⟩ dV)
 by_cases hneg:n<0
 ·exact G.lssT n 0 kV hneg (key true (by simpa using hneg))
 ·exact G.lssF n 0 kV hneg (key false (by simpa using hneg))
end
section
variable {q r:Rat}{u:PH}{x x':Value}{y z:Int}
def QP (u:PH)(v:Value)(q:Rat):Prop :=
 ∃ a n c a' n' c',v=.agg #[.bool (decide (q.num<0)),.slice a n c,.bool false,.slice a' n' c']/\Cb u (.slice a n c) (Aa q.num.natAbs)/\Cb u (.slice a' n' c') (Aa q.den)
theorem QP.mono {u u':PH}{v:Value}{q:Rat}(h:QP u v q)(hl:PH.le u u'):QP u' v q:=by
 obtain⟨a,n,c,a',n',c',h1,h2,h3⟩:=h;exact⟨a,n,c,a',n',c',h1,h2.mono hl,h3.mono hl⟩
theorem QP.opn {v:Value}(h:QP u v q):∃ b a n c a' n' c',v=.agg #[.bool b,.slice a n c,.bool false,.slice a' n' c']/\b=decide (q.num<0)/\Dj u (.agg #[.bool b,.slice a n c]) q.num/\Dj u (.agg #[.bool false,.slice a' n' c']) (q.den:Int):=by
 obtain⟨a,n,c,a',n',c',rfl,h2,h3⟩:=h;exact⟨_,a,n,c,a',n',c',rfl,rfl,⟨a,n,c,rfl,h2⟩,⟨a',n',c',by rw[decide_eq_false oV],h3⟩⟩
theorem QP.mk {b b':Bool}{a a':Option Addr}{n c n' c':Nat}(h1:Dj u (.agg #[.bool b,.slice a n c]) y)(h2:Dj u (.agg #[.bool b',.slice a' n' c']) z)(hy:q.num=y)(hz:(q.den:Int)=z) :
 QP u (.agg #[.bool b,.slice a n c,.bool b',.slice a' n' c']) q:=by
 obtain⟨_,_,_,e1,i1⟩:=h1;obtain⟨_,_,_,e2,i2⟩:=h2;subst hy hz;obtain⟨rfl,rfl,rfl,rfl⟩:=e1;obtain⟨rfl,rfl,rfl,rfl⟩:=e2;exact⟨_,_,_,_,_,_,rfl,i1,i2⟩
theorem Sx (y:Int)(z:Nat):y.tdiv (Auw y.natAbs z:Nat)=y/(Auw y.natAbs z:Nat):=by
 apply Int.tdiv_eq_ediv_of_dvd;exact Int.ofNat_dvd_left.2 (Nat.gcd_dvd_left _ _)
theorem Kt (hz:0<z):(Au0 y z).num=y.tdiv (Auw y.natAbs z.natAbs:Nat)/\((Au0 y z).den:Int)=z.tdiv (Auw y.natAbs z.natAbs:Nat)/\0<z.tdiv (Auw y.natAbs z.natAbs:Nat):=by
 have h:=Ti (y:=y) hz rfl;have h3:((Au0 y z).den:Int)=z.tdiv (Auw y.natAbs z.natAbs:Nat):=by grind
 refine⟨by rw[h.1,Sx],h3,?_⟩;rw[<-h3];have:=(Au0 y z).den_pos;omega
theorem Ao4 (hz:z<0):(Au0 y z).num = -(y.tdiv (Auw y.natAbs z.natAbs:Nat))/\((Au0 y z).den:Int) = -(z.tdiv (Auw y.natAbs z.natAbs:Nat))/\z.tdiv (Auw y.natAbs z.natAbs:Nat)<0:=by
 have h:=Kt (y:=-y) (z:=-z) oV;rw[Lx,Avp,Avp,Azb,Azb]at h;exact⟨h.1,h.2.1,oV⟩
theorem Sa {g k:Nat}(h:nl y.natAbs<=k):nl (y.tdiv g).natAbs<=k:=by
 refine As9 (Ct ?_) h;rw[Int.natAbs_tdiv];exact Awa _ _
theorem Uk (h1:-9223372036854775807<=z)(h2:z<=9223372036854775807):Fn0 prog 14 [.int .i64 z] u fun v u'=>QP u' v (z:Rat):=by
 refine Fn0.o func14 ?_;refine G.c call58 (Ael h1 h2) ?_;intro v1 u1 l1 k1;obtain⟨b1,a1,n1,c1,rfl,_,_⟩:=k1.opn;refine G.c call58 (Ael (n:=1) oV oV) ?_;intro v2 u2 l2 k2;obtain⟨b2,a2,n2,c2,rfl,_,_⟩:=k2.opn;exact G.r (.agg #[.bool b1,.slice a1 n1 c1,.bool b2,.slice a2 n2 c2]) ⟨rfl,QP.mk (k1.mono l2) k2 rfl rfl⟩
theorem Af7 (hx:Dj u x y)(hx':Dj u x' z)(sy:nl y.natAbs<=100000000000)(sz:nl z.natAbs<=100000000000)(hz:z≠0) :
 Fn0 prog 61 [x,x'] u fun v u'=>QP u' v (Au0 y z):=by
 obtain⟨b,a,n,c,rfl,_,_⟩:=hx.opn;obtain⟨b',a',n',c',rfl,_,hi'⟩:=hx'.opn;obtain⟨rfl,_⟩:=hi'.len;have hzp:0<(Aa z.natAbs).length:=Cm.2 oV;have hg0:0<Auw y.natAbs z.natAbs:=Nat.gcd_pos_of_pos_right _ oV;have hgs:nl (Auw y.natAbs z.natAbs)<=100000000000:=As9 (Ct (Nat.gcd_le_right _ oV)) sz;refine Fn0.o func61 ?_;refine G.eF ((Aa z.natAbs).length:Int) 0 ?_;refine G.c call127 (Agb hx hx' sy sz) ?_;intro v1 u1 l1 k1;obtain⟨b1,a1,n1,c1,rfl,_,_⟩:=k1.opn;refine G.c call128 (Yn (hx.mono l1) k1 sy (by simpa using hgs) oV) ?_;rintro v2 u2 l2 ⟨va,vb,rfl,k2,k2'⟩;obtain⟨b2,a2,n2,c2,rfl,_,_⟩:=k2.opn;obtain⟨b3,a3,n3,c3,rfl,_,_⟩:=k2'.opn;refine G.c call128 (Yn (hx'.mono (l1.trans l2)) (k1.mono l2) sz (by simpa using hgs) oV) ?_;rintro v4 u4 l4 ⟨va,vb,rfl,k4,k4'⟩;obtain⟨b4,a4,n4,c4,rfl,hb4,_⟩:=k4.opn;obtain⟨b5,a5,n5,c5,rfl,_,_⟩:=k4'.opn;have k2:=k2.mono l4;rcases Int.lt_or_gt_of_ne hz with hn|hp
 ·obtain⟨e1,e2,e3⟩:=Ao4 (y:=y) hn;rw[decide_eq_true e3]at hb4;subst hb4;refine G.c call129 (Wg k2 (As9 (Sa sy) oV)) ?_;intro v6 u6 l6 k6;obtain⟨b6,a6,n6,c6,rfl,_,_⟩:=k6.opn;refine G.c call129 (Wg (k4.mono l6) (As9 (Sa sz) oV)) ?_;intro v7 u7 l7 k7;obtain⟨b7,a7,n7,c7,rfl,_,_⟩:=k7.opn;exact G.r (.agg #[.bool b6,.slice a6 n6 c6,.bool b7,.slice a7 n7 c7]) ⟨rfl,QP.mk (k6.mono l7) k7 e1 e2⟩
 ·obtain⟨e1,e2,e3⟩:=Kt (y:=y) hp;rw[decide_eq_false oV]at hb4;subst hb4;exact G.r (.agg #[.bool b2,.slice a2 n2 c2,.bool false,.slice a4 n4 c4]) ⟨rfl,QP.mk k2 k4 e1 e2⟩
theorem Uz (h:QP u x q)(hs:nl q.num.natAbs<=100000000000):Fn0 prog 85 [x] u fun v u'=>v=.bool (decide (q.num=0)):=by
 obtain⟨b,a,n,c,a',n',c',rfl,hb,h1,h2⟩:=h.opn;obtain⟨_,_,_,e1,hi⟩:=h1;obtain⟨_,rfl,rfl,rfl⟩:=e1;obtain⟨rfl,_⟩:=hi.len;have hp:=Cm (n:=q.num.natAbs);refine Fn0.o func85 ?_;by_cases h0:q.num=0
 ·refine G.eT' ((Aa q.num.natAbs).length:Int) 0 (by rw[h0];simp[Bb]) ?_;exact G.r (.bool true) ⟨rfl,by simp[h0]⟩
 ·have h3:0<(Aa q.num.natAbs).length:=hp.2 oV;refine G.eF ((Aa q.num.natAbs).length:Int) 0 ?_;exact G.r (.bool false) ⟨rfl,by simp[h0]⟩
theorem Akg (h:QP u x q)(hs:nl q.num.natAbs<=100000000000):Fn0 prog 60 [x] u fun v u'=>v=.int .i64 (sgn q.num):=by
 obtain⟨b,a,n,c,a',n',c',rfl,hb,h1,h2⟩:=h.opn;refine Fn0.o func60 ?_;by_cases hn:q.num<0
 ·rw[decide_eq_true hn]at hb;subst hb;exact G.r (.int .i64 (-1)) ⟨rfl,by simp[sgn,hn]⟩
 ·rw[decide_eq_false hn]at hb;subst hb;refine G.c call85 (Uz h hs) ?_;rintro v1 u1 l1 rfl;by_cases h0:q.num=0
  ·rw[decide_eq_true h0];exact G.r (.int .i64 0) ⟨rfl,by simp[sgn,h0]⟩
  ·rw[decide_eq_false h0];exact G.r (.int .i64 1) ⟨rfl,by simp[sgn];omega⟩
theorem Anb (q r:Rat):Au0 (q.num*(r.den:Int)-r.num*(q.den:Int)) ((q.den:Int)*(r.den:Int))=q-r:=by
 have h:=Rx q (-r);rw[Rat.neg_num,Rat.neg_den,Int.neg_mul,<-Int.sub_eq_add_neg]at h;rw[h,Rat.sub_eq_add_neg]
theorem G1 (hx:QP u x q)(hx':QP u x' r)(s1:Sz q 10000000000)(s2:Sz r 10000000000) :
 Fn0 prog 80 [x,x'] u fun v u'=>QP u' v (q*r):=by
 obtain⟨b,a,n,c,a',n',c',rfl,_,hn,hd⟩:=hx.opn;obtain⟨b2,a2,n2,c2,a2',n2',c2',rfl,_,hn2,hd2⟩:=hx'.opn;refine Fn0.o func80 ?_;refine G.c call62 (Oo hn hn2 (As9 s1.1 oV) (As9 s2.1 oV)) ?_;intro v3 u3 l3 k3;refine G.c call62 (Oo (hd.mono l3) (hd2.mono l3) (As9 s1.2 oV) (As9 s2.2 oV)) ?_;intro v4 u4 l4 k4;refine G.c call61 (Af7 (k3.mono l4) k4 (As9 (Dl s1.1 s2.1) oV) (As9 (Dl (k:=10000000000) (by simpa using s1.2) (by simpa using s2.2)) oV) (Xu q r)) ?_;intro v5 u5 l5 k5;rw[Yd]at k5;obtain⟨b5,a5,n5,c5,a5',n5',c5',rfl,_⟩:=k5.opn;exact G.r (.agg #[.bool b5,.slice a5 n5 c5,.bool false,.slice a5' n5' c5']) ⟨rfl,k5⟩
theorem Mk (hx:QP u x q)(hx':QP u x' r)(s1:Sz q 10000000000)(s2:Sz r 10000000000) :
 Fn0 prog 16 [x,x'] u fun v u'=>QP u' v (q+r):=by
 obtain⟨b,a,n,c,a',n',c',rfl,_,hn,hd⟩:=hx.opn;obtain⟨b2,a2,n2,c2,a2',n2',c2',rfl,_,hn2,hd2⟩:=hx'.opn;have d1:nl ((q.den:Int)).natAbs<=10000000000:=by simpa using s1.2
 have d2:nl ((r.den:Int)).natAbs<=10000000000:=by simpa using s2.2
 refine Fn0.o func16 ?_;refine G.c call62 (Oo hn hd2 (As9 s1.1 oV) (As9 d2 oV)) ?_;intro v3 u3 l3 k3;refine G.c call62 (Oo (hn2.mono l3) (hd.mono l3) (As9 s2.1 oV) (As9 d1 oV)) ?_;intro v4 u4 l4 k4;refine G.c call63 (An2 (k3.mono l4) k4 (As9 (Dl s1.1 d2) oV) (As9 (Dl s2.1 d1) oV)) ?_;intro v6 u6 l6 k6;refine G.c call62 (Oo (hd.mono ((l3.trans l4).trans l6)) (hd2.mono ((l3.trans l4).trans l6)) (As9 d1 oV) (As9 d2 oV)) ?_;intro v7 u7 l7 k7;refine G.c call61 (Af7 (k6.mono l7) k7 (As9 (Yi (Dl s1.1 d2) (Dl s2.1 d1)) oV) (As9 (Dl d1 d2) oV) (Xu q r)) ?_;intro v5 u5 l5 k5;rw[Rx]at k5;obtain⟨b5,a5,n5,c5,a5',n5',c5',rfl,_⟩:=k5.opn;exact G.r (.agg #[.bool b5,.slice a5 n5 c5,.bool false,.slice a5' n5' c5']) ⟨rfl,k5⟩
end
section
open Go.Lib
variable {j k n:Nat}
def ld (n k:Nat):List UInt8:=(List.range k).map (dg n)
theorem Ry (n k:Nat):ld n (k+1)=ld n k++[dg n k]:=by simp[ld,List.range_succ]
theorem Cn (n k:Nat):(ld n k).length=k:=by simp[ld]
theorem Y9 (h:j<k):(ld n k)[j]?=some (dg n j):=by simp[ld,h]
theorem Aoh (h:j<=k):(ld n k).take j=ld n j:=by
 apply Awe;intro i;rw[List.getElem?_take];split
 ·rw[Y9 oV,Y9 oV]
 ·rw[Att (by rw[Cn];omega)]
theorem Xw (n:Nat):(ld n (nDigits n)).reverse=decDigits n:=by
 rw[decDigits_eq];apply Awe;intro i;by_cases h:i<nDigits n
 ·rw[A1o (by rw[Cn];exact h),Cn,Y9 oV];simp[h]
 ·rw[Att (by simp[Cn];omega),Att gV]
theorem Nu (n i:Nat):(Aa n).getD i 0=n/1000000000^i%1000000000:=by
 induction i generalizing n with
 |zero =>
  by_cases h:n=0
  ·subst h;simp[Bb]
  ·rw[Fg h];simp
 |succ i ih =>
  by_cases h:n=0
  ·subst h;simp[Bb]
  ·rw[Fg h,List.getD_cons_succ,ih,Auc,At7,Awy]
theorem Aeb (i:Nat):(1000000000:Nat)^i=10^(9*i):=by rw[Nat.pow_mul]
theorem Aoq (n i t:Nat)(ht:t<9):dg n (9*i+t)=Ay3 (48+(Aa n).getD i 0/10^t%10):=by
 rw[Nu,Aeb];have e:(1000000000:Nat)=10^t*10^(9-t):=by rw[<-Aww,show t+(9-t)=9 by omega]
 rw[e,Nat.mod_mul_right_div_self,Nat.mod_mod_of_dvd _ (by rw[show 9-t=(8-t)+1 by omega,Auc];exact Nat.dvd_mul_left _ _),Awy,<-Aww];rfl
theorem O7 (h:k<256):(Ay3 k).toNat=k:=gV
theorem Ox (n j:Nat):(dg n j).toNat=48+n/10^j%10:=by
 unfold dg;have:n/10^j%10<10:=Au3 _ oV;exact O7 oV
theorem Aao (h:n<10^(k+1)):n/10^k%10=0↔n<10^k:=by
 have hp:0<10^k:=Aym oV;have h1:n/10^k<10:=by rw[Au4 hp,At7,<-Auc];exact h
 rw[Axg h1,Nat.div_eq_zero_iff];constructor
 ·rintro (h|h)
  ·omega
  ·exact h
 ·exact .inr
theorem Px (n:Nat):n<10^(9*(Aa n).length):=by rw[<-Aeb];exact Ck n
theorem Ni (h:10^j<=n):nDigits n=j+nDigits (n/10^j):=by
 induction j generalizing n with
 |zero=>simp
 |succ j ih =>
  have hp:0<10^j:=Aym oV;rw[Auc]at h;rw[nDigits_big oV,ih (n:=n/10) (by rw[Awn oV];exact h),Auc,At7 (10^j),<-Awy];omega
theorem Q3 (h:n≠0):nDigits n=9*((Aa n).length-1)+nDigits ((Aa n).getD ((Aa n).length-1) 0):=by
 have h1:=Oz h;rw[Aeb]at h1;rw[Nu,Ni h1,Aeb,Axg];rfl;rw[Au4 (Aym oV)];have h2:=Ck n;have h3:0<nl n:=by
  rcases At5 (nl n) with h0|h0
  ·rw[h0]at h2;simp at h2;omega
  ·exact h0
 have e:(1000000000:Nat)*10^(9*((Aa n).length-1))=1000000000^nl n:=by
  rw[<-Aeb,At7,<-Auc];congr 1;show nl n-1+1=nl n;omega
 rw[e];exact h2
def G9 (l:List UInt8):Prop:=∀ b∈l,48<=b.toNat/\b.toNat<=57
def rdA (a:Nat)(l:List UInt8):Nat:=l.foldl (fun a b=>10*a+(b.toNat-48)) a
def rd (l:List UInt8):Nat:=rdA 0 l
theorem Aea (a:Nat)(l l':List UInt8):rdA a (l++l')=rdA (rdA a l) l':=by simp[rdA]
theorem Ad8 (a:Nat)(l:List UInt8):rdA a l=a*10^l.length+rd l:=by
 induction l generalizing a with
 |nil=>simp[rdA,rd]
 |cons b l ih =>
  have e1:rdA a (b::l)=rdA (10*a+(b.toNat-48)) l:=rfl;have e2:rd (b::l)=rdA (10*0+(b.toNat-48)) l:=rfl;rw[e1,e2,ih,ih (10*0+(b.toNat-48)),Auh,Auc,Avw,Nat.zero_add,<-Avl]
  congr 1
  rw[At2];congr 1;rw[At7 10 a,Atz,At7 10]
theorem Wp (l l':List UInt8):rd (l++l')=rd l*10^l'.length+rd l':=by rw[rd,Aea,Ad8];rfl
theorem Xh {l:List UInt8}(h:G9 l):rd l<10^l.length:=by
 induction l with
 |nil=>simp[rd,rdA]
 |cons b l ih =>
  have e2:rd (b::l)=rdA (10*0+(b.toNat-48)) l:=rfl;have hb:=h b mV;have:=ih fun x hx=>h x (by simp[hx]);rw[e2,Ad8,Auh,Auc];have h2:(10*0+(b.toNat-48))*10^l.length<=9*10^l.length:=Ats _ oV;omega
theorem Mm (n:Nat):G9 (decDigits n):=by
 rw[decDigits_eq];intro b hb;simp only[List.mem_map]at hb;obtain⟨t,_,rfl⟩:=hb;rw[Ox];have:=Au3 (n/10^(nDigits n-1-t)) (show 0<10 by omega);omega
theorem Adc (n:Nat):rd (decDigits n)=n:=by
 induction n using Ay8 with
 |ind n ih =>
  rw[decDigits];by_cases h:n<10
  ·rw[dif_pos h];have:(Ay3 (48+n)).toNat=48+n:=O7 oV;show 10*0+((Ay3 (48+n)).toNat-48)=n;omega
  ·rw[dif_neg h,Wp,ih _ oV];have:(Ay3 (48+n%10)).toNat=48+n%10:=O7 oV;show n/10*10^1+(10*0+((Ay3 (48+n%10)).toNat-48))=n;omega
theorem Il (n:Nat):decDigits n≠[]:=by
 intro h;have:=decDigits_length n;rw[h]at this;have:=nDigits_pos n;simp at *;omega
theorem Abe (n:Nat):(decDigits n)[0]?=some (dg n (nDigits n-1)):=by
 rw[decDigits_eq];have h:0<nDigits n:=nDigits_pos n;simp[h]
theorem Gd (h:n≠0):10^(nDigits n-1)<=n:=by
 induction n using Ay8 with
 |ind n ih =>
  by_cases h1:n<10
  ·rw[nDigits_small h1];simp;omega
  ·rw[nDigits_big h1];have h2:=ih (n/10) oV oV;have h3:=nDigits_pos (n/10);rw[show nDigits (n/10)+1-1=(nDigits (n/10)-1)+1 by omega,Auc];omega
theorem Aiw (h:n≠0):49<=(dg n (nDigits n-1)).toNat:=by
 rw[Ox];have h1:=nDigits_pos n;have h2:=lt_pow_nDigits n;rw[show nDigits n=(nDigits n-1)+1 by omega]at h2;have h3:¬ _:=fun h0=>absurd ((Aao h2).1 h0) (by have:=Gd h;omega);omega
end
section
variable {R l:List UInt8}{i:Nat}{u:PH}{x:Value}{z:Int}
theorem Ac1 (h:Dj u x z)(hs:nl z.natAbs<=100000000000):Fn0 prog 134 [x] u fun v _=>v=.int .i64 (Aua z.natAbs:Nat):=by
 obtain⟨b,a,n,c,rfl,hb,hi⟩:=h.opn;obtain⟨rfl,_⟩:=hi.len;have hs':(Aa z.natAbs).length<=100000000000:=hs;refine Fn0.o func134 ?_;by_cases h0:z.natAbs=0
 ·refine G.eT' ((Aa z.natAbs).length:Int) 0 (by rw[h0,Bb];rfl) ?_;exact G.r (.int .i64 1) ⟨rfl,by rw[h0,Axe oV];rfl⟩
 ·have hp:0<(Aa z.natAbs).length:=Cm.2 oV;have htop:=Q3 h0;have hnz:=Nc h0;have hlow:=(Am z.natAbs).getD ((Aa z.natAbs).length-1);generalize Aa z.natAbs=l at *
  generalize hN:Aua z.natAbs=N at *
  have hle9:∀ k,k<1000000000->Aua k<=9:=by
   intro k hk;rcases At5 k with h|h
   ·subst h;rw[Axe oV];omega
   ·have h1:=Gd (n:=k) oV;have h2:10^(Aua k-1)<10^9:=Aum h1 oV;have h3:=(Nat.pow_lt_pow_iff_right (by omega:1<10)).1 h2;omega
  refine G.eF (l.length:Int) 0 ?_;refine G.s (l.length:Int) 1 ((l.length-1:Nat):Int) ?_;refine G.mul 9 ((l.length-1:Nat):Int) ((9*(l.length-1):Nat):Int) kV oV oV oV ?_;refine G.s (l.length:Int) 1 ((l.length-1:Nat):Int) ?_;obtain⟨bb,off,rfl,he⟩:=hi.at (j:=l.length-1) oV;refine G.a bb off l.length c (l.length-1) 1 oV ?_;refine G.lU none bb (off+(l.length-1)*1) (.int .i64 (l.getD (l.length-1) 0:Nat)) he ?_;have h9:=hle9 _ hlow;refine G.l (ι:=Nat×Nat) (fun i=>[(3,iV i.1),(4,iV i.2)]) (fun _=>[])
   (fun i _ m'=>(i.1+(if i.2=0 then 0 else Aua i.2)=N/\i.2<1000000000)/\m'=PH.mt) (fun i=>i.2) (9*(l.length-1),l.getD (l.length-1) 0) ⟨⟨by dsimp only;rw[if_neg hnz];omega,hlow⟩,rfl⟩ ?_
  rintro J ⟨cn,k⟩ hJ u' m' hle ⟨⟨h1,h2⟩,rfl⟩;by_cases hk:k=0
  ·subst hk;refine G.gF ((0:Nat):Int) 0 ?_;exact G.r (.int .i64 (cn:Int)) ⟨rfl,by simp at h1;rw[h1]⟩
  ·rw[if_neg hk]at h1;refine G.gT (k:Int) 0 ?_;refine G.i cn ?_;refine G.quo (k:Int) 10 ((k/10:Nat):Int) kV oV oV oV oV ?_;refine G.b (hJ (cn+1,k/10) _ _ _ cV hle ⟨⟨?_,dV⟩,rfl⟩ dV);dsimp only;by_cases hs:k<10
   ·rw[Axe hs]at h1;rw[if_pos oV];omega
   ·rw[Lib.nDigits_big hs]at h1;rw[if_neg oV];omega
structure Ly (R l:List UInt8)(i:Nat):Prop where
 len:l.length=R.length
 at_:∀ k,k<R.length->l[k]?=if k<i\/R.length-i<=k then R[R.length-1-k]? else R[k]?
theorem Ly.start (R:List UInt8):Ly R R 0:=⟨rfl,fun k hk=>by rw[if_neg oV]⟩
theorem Ly.step (h:Ly R l i)(hi:i<R.length-1-i):Ly R ((l.set i (l.getD (R.length-1-i) 0)).set (R.length-1-i) (l.getD i 0)) (i+1):=by
 have hl:=h.len;have e1:l.getD (R.length-1-i) 0=R.getD (R.length-1-i) 0:=by
  rw[As7,h.at_ _ oV,if_neg oV,As7]
 have e2:l.getD i 0=R.getD i 0:=by
  rw[As7,h.at_ _ oV,if_neg oV,As7]
 refine⟨by simp[hl],fun k hk=>?_⟩;rw[Au5];split
 ·grind
 ·rw[Au5];split
  ·grind
  ·rw[h.at_ k hk];by_cases hc:k<i\/R.length-i<=k
   ·grind
   ·grind
theorem Ly.done (h:Ly R l i)(hi:¬ i<R.length-1-i):l=R.reverse:=by
 apply Awe;intro k;by_cases hk:k<R.length
 ·rw[h.at_ k hk,A1o hk];split
  ·rfl
  ·grind
 ·rw[Att (by rw[h.len];omega),Att gV]
theorem Gl {j:Nat}(h:j<l.length):(Bc l)[j]?=some (.int .u8 ((l.getD j 0).toNat:Int)):=by
 rw[Bc,Aty,As5 h,As7,As5 h];rfl
theorem Ku (l:List UInt8)(j:Nat)(b:UInt8):(Bc l).set j (.int .u8 (b.toNat:Int))=Bc (l.set j b):=by simp[Bc,Axb]
theorem U6 (h:z<0):Atn z=45::Au9 z.natAbs:=by rw[Atn,if_pos h]
theorem C1 (h:¬ z<0):Atn z=Au9 z.natAbs:=by rw[Atn,if_neg h];congr 1;omega
theorem Ab7 (h:Dj u x z)(hs:nl z.natAbs<=100000000000):Fn0 prog 135 [x] u fun v _=>v=.string (mkS (Atn z)):=by
 obtain⟨b,a,n,c,rfl,hb,hi⟩:=h.opn;obtain⟨rfl,_⟩:=hi.len;have hs':(Aa z.natAbs).length<=100000000000:=hs;refine Fn0.o func135 ?_;by_cases h0:z.natAbs=0
 ·refine G.eT' ((Aa z.natAbs).length:Int) 0 (by rw[h0,Bb];rfl) ?_;exact G.r (.string (mkS [48])) ⟨rfl,by rw[C1 oV,h0,Axw oV];rfl⟩
 have hp:0<(Aa z.natAbs).length:=Cm.2 oV;refine G.eF ((Aa z.natAbs).length:Int) 0 ?_;have hbd:=Px z.natAbs;generalize hN:z.natAbs=N at *
 generalize hL:Aa N=l at *
 refine G.l (ι:=Nat×(Option Addr×Nat×Nat)) (fun i=>[(1,.p 0 0),(3,sV i.2.1 i.2.2.1 i.2.2.2),(4,iV i.1)]) (fun _=>[(0,⟨55,[bV b,sV a l.length c]⟩)])
  (fun i _ m'=>i.1<=l.length/\Ae PH.mt m' (.slice i.2.1 i.2.2.1 i.2.2.2) 5 1 (Bc (ld N (9*i.1)))) (fun i=>l.length-i.1) (0,(none,0,0)) ⟨mV,Ae.nil _ _ _⟩ ?_
 rintro J ⟨i,a1,n1,c1⟩ hJ u1 m1 hle ⟨hil,hA⟩;simp only at hil hA hJ;by_cases hlt:i<l.length
 ·refine G.lT (i:Int) (l.length:Int) ?_;obtain⟨bb,off,rfl,he⟩:=(hi.mono hle).at (j:=i) oV;refine G.a bb off l.length c i 1 oV ?_;refine G.lU none bb (off+i*1) (.int .i64 (l.getD i 0:Nat)) he ?_;have hlow:l.getD i 0<1000000000:=by rw[<-hL];exact (Am N).getD i
  refine G.loop (ι:=Nat×(Option Addr×Nat×Nat)) (fun q=>[(1,.p 0 0),(3,sV q.2.1 q.2.2.1 q.2.2.2),(4,iV i),(5,iV (l.getD i 0/10^q.1:Nat)),(6,iV q.1)]) (fun _=>[(0,⟨55,[bV b,sV (some ⟨bb,off,none⟩) l.length c]⟩)])
   (fun q _ m'=>q.1<=9/\Ae PH.mt m' (.slice q.2.1 q.2.2.1 q.2.2.2) 5 1 (Bc (ld N (9*i+q.1)))) (fun q=>9-q.1) (0,(a1,n1,c1)) kV (fun _=>kV) ⟨kV,by rw[Nat.pow_zero,Nat.div_one];kernel_rfl,kV⟩ ⟨mV,hA⟩ ?_
  clear hA;rintro J2 ⟨t,a2,n2,c2⟩ hJ2 u2 m2 hle2 ⟨ht,hA⟩;simp only at ht hA hJ2;have hl2:=hA.len;rw[As,Cn]at hl2;by_cases ht9:t<9
  ·refine G.lT (t:Int) 9 ?_;have hdv:l.getD i 0/10^t<1000000000:=Aum (Awa _ _) hlow;have hdg:(Lib.dg N (9*i+t)).toNat=48+l.getD i 0/10^t%10:=by
    rw[Aoq N i t ht9,hL];exact O7 oV
   generalize hD:l.getD i 0/10^t=D at hdv hdg⊢;refine G.rem ((D:Nat):Int) 10 ((D%10:Nat):Int) kV oV oV oV oV ?_;refine G.p 48 ((D%10:Nat):Int) ((Lib.dg N (9*i+t)).toNat:Int) ?_;refine G.convI .i64 .u8 .i64 ((Lib.dg N (9*i+t)).toNat:Int) ((Lib.dg N (9*i+t)).toNat:Int) kV (Afi oV oV) ?_;refine G.B 5 1 1 (.int .u8 0) [.int .u8 ((Lib.dg N (9*i+t)).toNat:Int)] (Jg [Lib.dg N (9*i+t)]) ?_;intro g u3 l3 e3;refine G.append 5 1 1 (.int .u8 0) PH.mt (Bc (ld N (9*i+t))) [.int .u8 ((Lib.dg N (9*i+t)).toNat:Int)] (.slice a2 n2 c2) g 0 1 1 kV rfl rfl oV hA e3 (Jg [Lib.dg N (9*i+t)]) rfl oV (by rw[As,Cn];omega) (by rw[As,Cn];omega) ?_;intro v4 m4 hA4;rw[show Bc (ld N (9*i+t))++[.int .u8 ((Lib.dg N (9*i+t)).toNat:Int)]=Bc (ld N (9*i+(t+1))) by rw[show 9*i+(t+1)=9*i+t+1 by omega,Ry,Ng];rfl]at hA4;obtain⟨a4,c4,rfl⟩:=hA4.shape;refine G.quo ((D:Nat):Int) 10 ((l.getD i 0/10^(t+1):Nat):Int) kV oV oV oV (by rw[Auc,<-Awy,hD];omega) ?_;refine G.i t ?_;exact G.b (hJ2 (t+1,(a4,(Bc (ld N (9*i+(t+1)))).length,c4)) _ _ _ cV (hle2.trans l3) ⟨dV,hA4⟩ dV)
  ·have:t=9:=oV
   subst this;refine G.lF ((9:Nat):Int) 9 ?_;refine G.i i ?_;exact G.b (hJ (i+1,(a2,n2,c2)) _ _ _ cV (hle.trans hle2) ⟨dV,hA⟩ dV)
 ·have:i=l.length:=oV
  subst this;refine G.lF (l.length:Int) (l.length:Int) ?_;obtain⟨bo,co,e⟩:=hA.ptr (by intro e;have:=congrArg Av5 e;rw[As,Cn,Av1]at this;omega);rw[As,Cn]at e;simp only[Atr]at e;obtain⟨rfl,rfl,rfl⟩:=e;refine G.loop (ι:=Nat) (fun k=>[(1,.p 0 0),(3,sV (some ⟨bo,0,none⟩) (k+1) c1)]) (fun _=>[(0,⟨55,[bV b,sV a l.length c]⟩)])
   (fun k _ m'=>(N<10^(k+1)/\k+1<=9*l.length)/\Ae PH.mt m' (.slice (some ⟨bo,0,none⟩) (k+1) c1) 5 1 (Bc (ld N (k+1)))) (fun k=>k) (9*l.length-1) kV (fun _=>kV) ⟨kV,by rw[show 9*l.length-1+1=9*l.length by omega];kernel_rfl,kV⟩ (by rw[show 9*l.length-1+1=9*l.length by omega];exact⟨⟨hbd,Atb _⟩,hA⟩) ?_
  clear hA hJ;rintro J3 k hJ3 u3 m3 hle3 ⟨⟨hk,hk2⟩,hA⟩;refine G.s ((k+1:Nat):Int) 1 (k:Int) ?_;refine G.a bo 0 (k+1) c1 k 1 oV ?_;refine G.lM none bo (0+k*1) (.int .u8 ((Lib.dg N k).toNat:Int)) (hA.el (by rw[Bc,Aty,Y9 oV];rfl)) ?_;have htz:=Aao hk;have hdn:=Ox N k;by_cases hz:N<10^k
  ·refine G.cmpG .eql .u8 ((Lib.dg N k).toNat:Int) 48 true kV rfl (by simp only[Cj,decide_eq_true_eq];have:=htz.2 hz;omega) ?_;refine G.s ((k+1:Nat):Int) 1 (k:Int) ?_;have hco:k+1<=c1:=hA.cap;refine G.sliceTo 1 (some ⟨bo,0,none⟩) (k+1) c1 k kV oV ?_;have hA':=hA.take (k:=k) (by rw[As,Cn];omega);rw[show (Bc (ld N (k+1))).take k=Bc (ld N k) by rw[Bc,<-List.map_take,Aoh oV];rfl]at hA';rcases k with _|k
   ·simp at hz;omega
   ·exact G.b (hJ3 k _ _ _ cV hle3 ⟨⟨hz,oV⟩,hA'⟩ oV)
  ·refine G.cmpG .eql .u8 ((Lib.dg N k).toNat:Int) 48 false kV rfl (by simp only[Cj,decide_eq_false_iff_not];intro h;exact hz (htz.1 oV)) ?_;have hkd:Aua N=k+1:=Lib.nDigits_unique k N oV hk;clear hJ3;have hdr:=Xw N;rw[hkd]at hdr;cases b
   ·have hzn:¬ z<0:=by simpa using hb.symm
    have hrev:(ld N (k+1)).reverse=Atn z:=by rw[hdr,C1 hzn,hN]
    generalize hR:ld N (k+1)=R at *
    generalize hnR:k+1=nR at *
    have hnb:nR<=1000000000000:=oV
    have hn1:1<=nR:=oV
    have hRl:=hA.len;rw[As]at hRl;refine G.s (nR:Int) 1 ((nR-1:Nat):Int) ?_;refine G.l (ι:=Nat×List UInt8) (fun i=>[(3,sV (some ⟨bo,0,none⟩) nR c1),(7,iV i.1),(8,iV (nR-1-i.1:Nat))]) (fun _=>[])
     (fun i _ m'=>i.1<=nR-1/\Ly R i.2 i.1/\Ae PH.mt m' (.slice (some ⟨bo,0,none⟩) nR c1) 5 1 (Bc i.2)) (fun i=>nR-i.1) (0,R) ⟨mV,Ly.start R,hA⟩ ?_
    clear hA;rintro J5 ⟨i,l⟩ hJ5 u5 m5 hle5 ⟨hi5,hst,hA⟩;simp only at hi5 hst hA hJ5;have hll:=hst.len;by_cases hij:i<nR-1-i
    ·refine G.lT (i:Int) ((nR-1-i:Nat):Int) ?_;refine G.a bo 0 nR c1 (nR-1-i) 1 oV ?_;refine G.lM none bo (0+(nR-1-i)*1) (.int .u8 ((l.getD (nR-1-i) 0).toNat:Int)) (hA.el (Gl oV)) ?_;refine G.a bo 0 nR c1 i 1 oV ?_;refine G.lM none bo (0+i*1) (.int .u8 ((l.getD i 0).toNat:Int)) (hA.el (Gl oV)) ?_;refine G.a bo 0 nR c1 i 1 oV ?_;refine G.storeA 1 PH.mt (Bc l) bo nR c1 i (.int .u8 ((l.getD (nR-1-i) 0).toNat:Int)) kV hA (by rw[As];omega) rfl rfl ?_;intro m6 hA6;rw[Ku]at hA6;refine G.a bo 0 nR c1 (nR-1-i) 1 oV ?_;refine G.storeA 1 PH.mt _ bo nR c1 (nR-1-i) (.int .u8 ((l.getD i 0).toNat:Int)) kV hA6 (by rw[As,Avx];omega) rfl rfl ?_;intro m7 hA7;rw[Ku]at hA7;refine G.i i ?_;refine G.s ((nR-1-i:Nat):Int) 1 ((nR-1-(i+1):Nat):Int) ?_;exact G.b (hJ5 (i+1,(l.set i (l.getD (nR-1-i) 0)).set (nR-1-i) (l.getD i 0)) _ _ _ cV hle5 ⟨dV,by dsimp only;rw[hRl]at hij⊢;exact hst.step hij,hA7⟩ dV)
    ·refine G.lF (i:Int) ((nR-1-i:Nat):Int) ?_;have hlR:=hst.done (by rw[<-hRl];exact hij);refine G.convB PH.mt 5 5 l bo nR c1 kV kV hA ?_;refine G.give PH.mt (Bc l) _ kV hA (fun _=>.inl rfl) ?_;intro u8 l8 _;refine G.r (.string (mkS l)) ⟨rfl,?_⟩;rw[hlR,hrev]
   ·have hzn:z<0:=by simpa using hb.symm
    refine G.B 5 1 1 (.int .u8 0) [.int .u8 45] (Jg [45]) ?_;intro g u4 l4 e4;refine G.append 5 1 1 (.int .u8 0) PH.mt (Bc (ld N (k+1))) [.int .u8 45] (.slice (some ⟨bo,0,none⟩) (k+1) c1) g 0 1 1 kV rfl rfl oV hA e4 (Jg [45]) rfl oV (by rw[As,Cn];omega) (by rw[As,Cn];omega) ?_;intro v5 m5 hA5;rw[show Bc (ld N (k+1))++[.int .u8 45]=Bc (ld N (k+1)++[45]) by rw[Ng];rfl]at hA5;obtain⟨bR,cR,rfl⟩:=hA5.ptr (by simp[Bc]);rw[As,Atg,Cn,Aux]at hA5⊢;have hrev:(ld N (k+1)++[45]).reverse=Atn z:=by rw[List.reverse_append,hdr,U6 hzn,hN];rfl
    clear hA;have hA:=hA5;clear hA5;have hlR:(ld N (k+1)++[45]).length=k+1+1:=by rw[Atg,Cn];rfl
    generalize hR:ld N (k+1)++[45]=R at *
    generalize hnR:k+1+1=nR at *
    have hnb:nR<=1000000000000:=oV
    have hn1:1<=nR:=oV
    have hRl:=hA.len;rw[As]at hRl;refine G.s (nR:Int) 1 ((nR-1:Nat):Int) ?_;refine G.l (ι:=Nat×List UInt8) (fun i=>[(3,sV (some ⟨bR,0,none⟩) nR cR),(7,iV i.1),(8,iV (nR-1-i.1:Nat))]) (fun _=>[])
     (fun i _ m'=>i.1<=nR-1/\Ly R i.2 i.1/\Ae PH.mt m' (.slice (some ⟨bR,0,none⟩) nR cR) 5 1 (Bc i.2)) (fun i=>nR-i.1) (0,R) ⟨mV,Ly.start R,hA⟩ ?_
    clear hA;rintro J5 ⟨i,l⟩ hJ5 u5 m5 hle5 ⟨hi5,hst,hA⟩;simp only at hi5 hst hA hJ5;have hll:=hst.len;by_cases hij:i<nR-1-i
    ·refine G.lT (i:Int) ((nR-1-i:Nat):Int) ?_;refine G.a bR 0 nR cR (nR-1-i) 1 oV ?_;refine G.lM none bR (0+(nR-1-i)*1) (.int .u8 ((l.getD (nR-1-i) 0).toNat:Int)) (hA.el (Gl oV)) ?_;refine G.a bR 0 nR cR i 1 oV ?_;refine G.lM none bR (0+i*1) (.int .u8 ((l.getD i 0).toNat:Int)) (hA.el (Gl oV)) ?_;refine G.a bR 0 nR cR i 1 oV ?_;refine G.storeA 1 PH.mt (Bc l) bR nR cR i (.int .u8 ((l.getD (nR-1-i) 0).toNat:Int)) kV hA (by rw[As];omega) rfl rfl ?_;intro m6 hA6;rw[Ku]at hA6;refine G.a bR 0 nR cR (nR-1-i) 1 oV ?_;refine G.storeA 1 PH.mt _ bR nR cR (nR-1-i) (.int .u8 ((l.getD i 0).toNat:Int)) kV hA6 (by rw[As,Avx];omega) rfl rfl ?_;intro m7 hA7;rw[Ku]at hA7;refine G.i i ?_;refine G.s ((nR-1-i:Nat):Int) 1 ((nR-1-(i+1):Nat):Int) ?_;exact G.b (hJ5 (i+1,(l.set i (l.getD (nR-1-i) 0)).set (nR-1-i) (l.getD i 0)) _ _ _ cV hle5 ⟨dV,by dsimp only;rw[hRl]at hij⊢;exact hst.step hij,hA7⟩ dV)
    ·refine G.lF (i:Int) ((nR-1-i:Nat):Int) ?_;have hlR:=hst.done (by rw[<-hRl];exact hij);refine G.convB PH.mt 5 5 l bR nR cR kV kV hA ?_;refine G.give PH.mt (Bc l) _ kV hA (fun _=>.inl rfl) ?_;intro u8 l8 _;refine G.r (.string (mkS l)) ⟨rfl,?_⟩;rw[hlR,hrev]
theorem Aa1 (h:Dj u x z)(hs:nl z.natAbs<=100000000000)(hd:Aua z.natAbs<=400):Fn0 prog 66 [x] u fun v _=>v=.tuple #[.string (mkS (Atn z)),.int .i64 0]:=by
 obtain⟨b,a,n,c,rfl,hb,hi⟩:=h.opn;refine Fn0.o func66 ?_;refine G.c call134 (Ac1 h hs) ?_;rintro v1 u1 l1 rfl;refine G.gF ((Aua z.natAbs:Nat):Int) 400 ?_;refine G.c call135 (Ab7 (h.mono l1) hs) ?_;rintro v2 u2 l2 rfl;exact G.r _ ⟨rfl,rfl⟩
end
section
variable {k:Nat}{l:List UInt8}
theorem G9.drop (h:G9 l)(k:Nat):G9 (l.drop k):=fun b hb=>h b (List.mem_of_mem_drop hb)
theorem G9.take (h:G9 l)(k:Nat):G9 (l.take k):=fun b hb=>h b (List.mem_of_mem_take hb)
theorem Du {k j:Nat}(h:k+j<l.length):(l.drop k).take (j+1)=(l.drop k).take j++[l.getD (k+j) 0]:=by
 rw[List.take_add_one];rw[List.getElem?_drop,As5 h,As7,As5 h];rfl
theorem Mp (l:List UInt8)(b:UInt8):rd (l++[b])=10*rd l+(b.toNat-48):=by simp[rd,rdA]
theorem Jf (h:G9 l)(hk:k<l.length):48<=(l.getD k 0).toNat/\(l.getD k 0).toNat<=57:=by
 rw[As7,As5 hk];exact h _ (List.getElem_mem hk)
theorem Dd (hk:k<l.length):l[k]?=some (l.getD k 0):=by grind
def Bg (b:Bool)(l:List UInt8):List UInt8:=if b then 45::l else l
structure Qf (N:Nat)(s:List UInt8)(ys:List Nat):Prop where
 low:Low ys
 dig:G9 s
 sum:N=val ys+1000000000^ys.length*rd s
theorem Qf.step {N:Nat}{s:List UInt8}{ys:List Nat}(h:Qf N s ys):Qf N (s.take (s.length-9)) (ys++[rd (s.drop (s.length-9))]):=by
 have hl:rd (s.drop (s.length-9))<1000000000:=by
  have:=Xh (h.dig.drop (s.length-9));rw[List.length_drop]at this;exact Auf this (by rw[show (1000000000:Nat)=10^9 from rfl];exact Atq oV oV)
 refine⟨h.low.append (Low.cons hl Low.nil),h.dig.take _,?_⟩;have e:rd s=rd (s.take (s.length-9))*1000000000+rd (s.drop (s.length-9)):=by
  have:=Wp (s.take (s.length-9)) (s.drop (s.length-9));rw[List.take_append_drop]at this;by_cases h9:9<=s.length
  ·grind
  ·rw[show s.length-9=0 by omega];simp[rd,rdA]
 rw[H8,Atg,Aux,Auc,h.sum,e,Aui,Atz,At7 (rd _) 1000000000];omega
theorem Al7 {b:Bool}(hd:G9 l)(hl:l≠[])(h:¬ b=true):(Bg b l).getD 0 0≠45:=by
 cases b
 ·have h1:0<l.length:=by cases l;exact absurd rfl hl;simp
  have:=Jf hd h1;intro h2;rw[show Bg false l=l from rfl]at h2;rw[h2]at this;simp at this
 ·grind
theorem Ajx {u:PH}(b:Bool)(l:List UInt8)(hd:G9 l)(hl:l≠[])(hlen:l.length<=1000000000):Fn0 prog 65 [.string (mkS (Bg b l))] u fun v u'=>Dj u' v (Bt b (rd l)):=by
 have hl0:0<l.length:=by cases l;exact absurd rfl hl;simp
 refine Fn0.o func65 ?_;have hne:Bg b l≠[]:=by cases b<;>simp[Bg,hl]
 refine G.x (Bg b l) [] hne ?_;have h00:(Bg b l)[0]?=some ((Bg b l).getD 0 0):=Dd (by cases b<;>simp[Bg];omega)
 refine G.idxS (Bg b l) 0 _ kV h00 ?_;cases b
 ·have hne:=Al7 (b:=false) hd hl mV;refine G.cmpG .eql .u8 (((Bg false l).getD 0 0).toNat:Int) 45 false kV rfl (by simp only[Cj,decide_eq_false_iff_not];intro h;exact hne (Az8.1 (by simpa using (by omega:((Bg false l).getD 0 0).toNat=45)))) ?_;refine G.l (ι:=List UInt8×List Nat×(Option Addr×Nat×Nat)) (fun i=>[(2,.p 0 0),(3,tV i.1),(4,.p 2001 0)])
   (fun i=>[(0,⟨55,[bV false,sV none 0 0]⟩),(2001,⟨55,[bV false,sV i.2.2.1 i.2.2.2.1 i.2.2.2.2]⟩)])
   (fun i _ m'=>i.1.length+i.2.1.length<=l.length/\Qf (rd l) i.1 i.2.1/\Ae PH.mt m' (.slice i.2.2.1 i.2.2.2.1 i.2.2.2.2) 3 1 (Ah i.2.1)) (fun i=>i.1.length) (l,[],(none,0,0)) ⟨mV,⟨Low.nil,hd,by simp[val]⟩,Ae.nil _ _ _⟩ ?_
  rintro J ⟨s,ys,⟨a,ny,c⟩⟩ hJ u' m' hle ⟨hsz,hst,hA⟩;simp only at hsz hst hA hJ;have hys:=hA.len;rw[Ag]at hys;have hsd:=hst.dig;have hss:(mkS s).size=s.length:=Go.Lib.size_mk s;by_cases h0:0<s.length
  ·refine G.gT (s.length:Int) 0 ?_;refine G.sub (s.length:Int) 9 ((s.length:Int)-9) kV rfl oV oV ?_;refine G.maxI [3,3] 0 ((s.length:Int)-9) ((s.length-9:Nat):Int) kV oV ?_;refine G.loop (ι:=Nat) (fun i=>[(2,.p 0 0),(3,tV s),(4,.p 2001 0),(5,iV (s.length-9:Nat)),(6,iV (rd ((s.drop (s.length-9)).take i):Nat)),(7,iV (s.length-9+i:Nat))])
    (fun _=>[(0,⟨55,[bV false,sV none 0 0]⟩),(2001,⟨55,[bV false,sV a ny c]⟩)])
    (fun i _ m'=>s.length-9+i<=s.length/\Ae PH.mt m' (.slice a ny c) 3 1 (Ah ys)) (fun i=>s.length-i) 0 kV (fun _=>kV) ⟨kV,by rw[Ayo];kernel_rfl,kV⟩ ⟨oV,hA⟩ ?_
   clear hA;rintro J2 i hJ2 u2 m2 hle2 ⟨hi,hA⟩;by_cases hlt:s.length-9+i<s.length
   ·refine G.lT ((s.length-9+i:Nat):Int) (s.length:Int) ?_;have hb9:rd ((s.drop (s.length-9)).take (i+1))<1000000000:=by
     have:=Xh ((hsd.drop (s.length-9)).take (i+1));refine Auf this ?_;rw[show (1000000000:Nat)=10^9 from rfl];exact Atq oV gV
    have hdg:=Jf hsd hlt;rw[Du hlt,Mp]at hb9;refine G.mul 10 ((rd ((s.drop (s.length-9)).take i):Nat):Int) ((10*rd ((s.drop (s.length-9)).take i):Nat):Int) kV oV oV oV ?_;refine G.idxS s (s.length-9+i) _ kV (Dd hlt) ?_;refine G.sub8 ((s.getD (s.length-9+i) 0).toNat:Int) 48 (((s.getD (s.length-9+i) 0).toNat-48:Nat):Int) kV oV oV oV ?_;refine G.convI .u8 .i64 .u8 (((s.getD (s.length-9+i) 0).toNat-48:Nat):Int) (((s.getD (s.length-9+i) 0).toNat-48:Nat):Int) kV (Dq oV oV) ?_;refine G.add ((10*rd ((s.drop (s.length-9)).take i):Nat):Int) (((s.getD (s.length-9+i) 0).toNat-48:Nat):Int) ((rd ((s.drop (s.length-9)).take (i+1)):Nat):Int) kV (by rw[Du hlt,Mp];omega) oV (by rw[Du hlt,Mp];omega) ?_;refine G.p ((s.length-9+i:Nat):Int) 1 ((s.length-9+(i+1):Nat):Int) ?_;exact G.b (hJ2 (i+1) _ _ _ cV hle2 ⟨oV,hA⟩ oV)
   ·refine G.lF ((s.length-9+i:Nat):Int) (s.length:Int) ?_;have htk:(s.drop (s.length-9)).take i=s.drop (s.length-9):=Atp gV;rw[htk];have hstep:=hst.step;have hsl:(s.take (s.length-9)).length=s.length-9:=mV
    generalize rd (s.drop (s.length-9))=d at hstep⊢;refine G.B 3 1 8 (.int .i64 0) [.int .i64 (d:Int)] (Az [d]) ?_;intro g u3 l3 e3;refine G.append 3 1 8 (.int .i64 0) PH.mt (Ah ys) [.int .i64 (d:Int)] (.slice a ny c) g 0 1 1 kV rfl rfl oV hA e3 (Az [d]) rfl oV (by rw[Ag];omega) (by rw[Ag];omega) ?_;intro v4 m4 hA4;rw[Cq]at hA4;obtain⟨a4,c4,rfl⟩:=hA4.shape;refine G.sliceSTo s (s.length-9) kV kV oV ?_;exact G.b (hJ (s.take (s.length-9),ys++[d],(a4,(Ah (ys++[d])).length,c4)) _ _ _ cV ((hle.trans hle2).trans l3) ⟨by dsimp only;rw[hsl,Atg,Aux];omega,hstep,hA4⟩ (by dsimp only;rw[hsl];omega))
  ·have hs0:s = []:=Auo oV;subst hs0;refine G.gF ((0:Nat):Int) 0 ?_;refine G.give PH.mt (Ah ys) _ kV hA (fun _=>.inl rfl) ?_;intro u3 l3 hL;refine G.c call130 (Dm (b:=false) (a:=a) (n:=ny) (c:=c) (l:=ys) hL hst.low oV) ?_;intro v5 u5 l5 k5;have hv:val ys=rd l:=by have:=hst.sum;simpa[rd,rdA] using this.symm
   rw[hv]at k5;obtain⟨b5,a5,n5,c5,rfl,_,_⟩:=k5.opn;exact G.r (.agg #[.bool b5,.slice a5 n5 c5]) ⟨rfl,k5⟩
 ·refine G.cmpG .eql .u8 (((Bg true l).getD 0 0).toNat:Int) 45 true kV rfl (by simp[Cj,Bg]) ?_;refine G.sliceSFrom (Bg true l) 1 kV kV (by simp[Bg]) ?_;rw[show (Bg true l).drop 1=l from rfl];refine G.l (ι:=List UInt8×List Nat×(Option Addr×Nat×Nat)) (fun i=>[(2,.p 0 0),(3,tV i.1),(4,.p 2001 0)])
   (fun i=>[(0,⟨55,[bV false,sV none 0 0]⟩),(2001,⟨55,[bV true,sV i.2.2.1 i.2.2.2.1 i.2.2.2.2]⟩)])
   (fun i _ m'=>i.1.length+i.2.1.length<=l.length/\Qf (rd l) i.1 i.2.1/\Ae PH.mt m' (.slice i.2.2.1 i.2.2.2.1 i.2.2.2.2) 3 1 (Ah i.2.1)) (fun i=>i.1.length) (l,[],(none,0,0)) ⟨mV,⟨Low.nil,hd,by simp[val]⟩,Ae.nil _ _ _⟩ ?_
  rintro J ⟨s,ys,⟨a,ny,c⟩⟩ hJ u' m' hle ⟨hsz,hst,hA⟩;simp only at hsz hst hA hJ;have hys:=hA.len;rw[Ag]at hys;have hsd:=hst.dig;have hss:(mkS s).size=s.length:=Go.Lib.size_mk s;by_cases h0:0<s.length
  ·refine G.gT (s.length:Int) 0 ?_;refine G.sub (s.length:Int) 9 ((s.length:Int)-9) kV rfl oV oV ?_;refine G.maxI [3,3] 0 ((s.length:Int)-9) ((s.length-9:Nat):Int) kV oV ?_;refine G.loop (ι:=Nat) (fun i=>[(2,.p 0 0),(3,tV s),(4,.p 2001 0),(5,iV (s.length-9:Nat)),(6,iV (rd ((s.drop (s.length-9)).take i):Nat)),(7,iV (s.length-9+i:Nat))])
    (fun _=>[(0,⟨55,[bV false,sV none 0 0]⟩),(2001,⟨55,[bV true,sV a ny c]⟩)])
    (fun i _ m'=>s.length-9+i<=s.length/\Ae PH.mt m' (.slice a ny c) 3 1 (Ah ys)) (fun i=>s.length-i) 0 kV (fun _=>kV) ⟨kV,by rw[Ayo];kernel_rfl,kV⟩ ⟨oV,hA⟩ ?_
   clear hA;rintro J2 i hJ2 u2 m2 hle2 ⟨hi,hA⟩;by_cases hlt:s.length-9+i<s.length
   ·refine G.lT ((s.length-9+i:Nat):Int) (s.length:Int) ?_;have hb9:rd ((s.drop (s.length-9)).take (i+1))<1000000000:=by
     have:=Xh ((hsd.drop (s.length-9)).take (i+1));refine Auf this ?_;rw[show (1000000000:Nat)=10^9 from rfl];exact Atq oV gV
    have hdg:=Jf hsd hlt;rw[Du hlt,Mp]at hb9;refine G.mul 10 ((rd ((s.drop (s.length-9)).take i):Nat):Int) ((10*rd ((s.drop (s.length-9)).take i):Nat):Int) kV oV oV oV ?_;refine G.idxS s (s.length-9+i) _ kV (Dd hlt) ?_;refine G.sub8 ((s.getD (s.length-9+i) 0).toNat:Int) 48 (((s.getD (s.length-9+i) 0).toNat-48:Nat):Int) kV oV oV oV ?_;refine G.convI .u8 .i64 .u8 (((s.getD (s.length-9+i) 0).toNat-48:Nat):Int) (((s.getD (s.length-9+i) 0).toNat-48:Nat):Int) kV (Dq oV oV) ?_;refine G.add ((10*rd ((s.drop (s.length-9)).take i):Nat):Int) (((s.getD (s.length-9+i) 0).toNat-48:Nat):Int) ((rd ((s.drop (s.length-9)).take (i+1)):Nat):Int) kV (by rw[Du hlt,Mp];omega) oV (by rw[Du hlt,Mp];omega) ?_;refine G.p ((s.length-9+i:Nat):Int) 1 ((s.length-9+(i+1):Nat):Int) ?_;exact G.b (hJ2 (i+1) _ _ _ cV hle2 ⟨oV,hA⟩ oV)
   ·refine G.lF ((s.length-9+i:Nat):Int) (s.length:Int) ?_;have htk:(s.drop (s.length-9)).take i=s.drop (s.length-9):=Atp gV;rw[htk];have hstep:=hst.step;have hsl:(s.take (s.length-9)).length=s.length-9:=mV
    generalize rd (s.drop (s.length-9))=d at hstep⊢;refine G.B 3 1 8 (.int .i64 0) [.int .i64 (d:Int)] (Az [d]) ?_;intro g u3 l3 e3;refine G.append 3 1 8 (.int .i64 0) PH.mt (Ah ys) [.int .i64 (d:Int)] (.slice a ny c) g 0 1 1 kV rfl rfl oV hA e3 (Az [d]) rfl oV (by rw[Ag];omega) (by rw[Ag];omega) ?_;intro v4 m4 hA4;rw[Cq]at hA4;obtain⟨a4,c4,rfl⟩:=hA4.shape;refine G.sliceSTo s (s.length-9) kV kV oV ?_;exact G.b (hJ (s.take (s.length-9),ys++[d],(a4,(Ah (ys++[d])).length,c4)) _ _ _ cV ((hle.trans hle2).trans l3) ⟨by dsimp only;rw[hsl,Atg,Aux];omega,hstep,hA4⟩ (by dsimp only;rw[hsl];omega))
  ·have hs0:s = []:=Auo oV;subst hs0;refine G.gF ((0:Nat):Int) 0 ?_;refine G.give PH.mt (Ah ys) _ kV hA (fun _=>.inl rfl) ?_;intro u3 l3 hL;refine G.c call130 (Dm (b:=true) (a:=a) (n:=ny) (c:=c) (l:=ys) hL hst.low oV) ?_;intro v5 u5 l5 k5;have hv:val ys=rd l:=by have:=hst.sum;simpa[rd,rdA] using this.symm
   rw[hv]at k5;obtain⟨b5,a5,n5,c5,rfl,_,_⟩:=k5.opn;exact G.r (.agg #[.bool b5,.slice a5 n5 c5]) ⟨rfl,k5⟩
end
section
variable {j k n:Nat}{q:Rat}{u:PH}{y z:Int}
theorem Cy (z:Int):Atn z=Bg (decide (z<0)) (Au9 z.natAbs):=by
 by_cases h:z<0
 ·rw[U6 h,decide_eq_true h];rfl
 ·rw[C1 h,decide_eq_false h];rfl
theorem V5 (z:Int):Bt (decide (z<0)) (rd (Au9 z.natAbs))=z:=by rw[Adc];exact Qd z
theorem Ady (h:Aua n<=k):nl n<=k:=by
 refine A0 (Auf (Lib.lt_pow_nDigits n) ?_);rw[Aeb];exact Atq oV oV
theorem Bi (h:Aua n<=400):nl n<=400:=Ady h
theorem F9 (h:Aua z.natAbs<=400):(Atn z).length<=401:=by
 rw[Cy];unfold Bg;split<;>simp[Awb]<;>omega
theorem Lr (h:Aua z.natAbs<=400):Fn0 prog 65 [.string (mkS (Atn z))] u fun v u'=>Dj u' v z:=by
 have:=Ajx (u:=u) (decide (z<0)) (Au9 z.natAbs) (Mm _) (Il _) (by rw[Awb];omega);rw[V5,<-Cy]at this;exact this
theorem Mr (hz:0<z)(h1:nl y.natAbs<=j)(h2:nl z.natAbs<=k):nl (Au0 y z).num.natAbs<=j/\nl (Au0 y z).den<=k:=by
 obtain⟨e1,e2,_⟩:=Kt (y:=y) hz;refine⟨by rw[e1];exact Sa h1,?_⟩;have:(Au0 y z).den=(z.tdiv (Auw y.natAbs z.natAbs:Nat)).natAbs:=oV
 rw[this];exact Sa h2
theorem Sh (q r:Rat):0<(q.den:Int)*(r.den:Int):=Int.mul_pos (by have:=q.den_pos;omega) (by have:=r.den_pos;omega)
theorem Alx:Au9 0 = [48]:=Axw oV
theorem Al1:Au9 1 = [49]:=Axw oV
theorem Ed:Atn 0 = [48]:=by rw[C1 oV];exact Alx
theorem He:Atn 1 = [49]:=by rw[C1 oV];exact Al1
theorem Tl (n:Nat):Atn (n:Int)=Au9 n:=by rw[C1 oV];congr 1
def rdZ (t:List UInt8):Int:=match t with
 |45::l=>-(rd l:Int)
 |l=>rd l
theorem Ab5 (z:Int):rdZ (Atn z)=z:=by
 by_cases h:z<0
 ·rw[U6 h];simp only[rdZ,Adc];omega
 ·rw[C1 h];have h1:=Abe z.natAbs;have h2:=Adc z.natAbs;have h3:=Mm z.natAbs;generalize Au9 z.natAbs=l at *
  cases l with
  |nil=>simp at h1
  |cons b l =>
   have hb:=h3 b mV;unfold rdZ;split
   ·rename_i e;simp at e;rw[e.1]at hb;simp at hb
   ·grind
theorem G8 (h:Atn y=Atn z):y=z:=by rw[<-Ab5 y,h,Ab5]
theorem Nr (hz:0<=z)(h0:z≠0):∃ b,(Atn z)[0]?=some b/\49<=b.toNat/\b.toNat<=57:=by
 rw[C1 oV];refine⟨_,Abe _,Aiw oV,?_⟩;rw[Ox];have:=Au3 (z.natAbs/10^(Aua z.natAbs-1)) (show 0<10 by omega);omega
theorem Qo (h:Aua z.natAbs<=400):Fn0 prog 186 [.string (mkS (Atn z))] u fun v _=>v=.bool true:=by
 refine Fn0.o func186 ?_;by_cases h0:z=0
 ·subst h0;refine G.q (Atn 0) [48] Ed ?_;exact G.r (.bool true) ⟨rfl,rfl⟩
 refine G.w (Atn z) [48] (fun e=>h0 (G8 (e.trans Ed.symm))) ?_;have hdl:=Awb z.natAbs;have hdp:=Lib.nDigits_pos z.natAbs;have hdd:=Mm z.natAbs;obtain⟨b0,hb0,hb1,hb2⟩:=Nr (z:=(z.natAbs:Int)) oV oV;rw[Tl]at hb0;have hs:=Cy z;generalize hL:Au9 z.natAbs=L at *
 generalize hT:Atn z=T at *
 have hTl:0<T.length:=by rw[hs];unfold Bg;split;simp;omega
 refine G.gT (T.length:Int) 0 ?_;by_cases hz:z<0
 ·rw[decide_eq_true hz]at hs;refine G.idxS T 0 45 kV (by rw[hs];rfl) ?_;refine G.cmpG .eql .u8 45 45 true kV rfl rfl ?_;refine G.sliceSFrom T 1 kV kV oV ?_;rw[show T.drop 1=L by rw[hs];rfl];refine G.eF (L.length:Int) 0 ?_;refine G.gF (L.length:Int) 400 ?_;refine G.idxS L 0 b0 kV hb0 ?_;refine G.cmpG .eql .u8 (b0.toNat:Int) 48 false kV rfl (by simp only[Cj,decide_eq_false_iff_not];omega) ?_;refine G.l (ι:=Nat) (fun i=>[(3,tV L),(4,iV i)]) (fun _=>[]) (fun i _ m'=>i<=L.length/\m'=PH.mt) (fun i=>L.length-i) 0 ⟨oV,rfl⟩ ?_;rintro J i hJ u' m' hle ⟨hi,rfl⟩;by_cases hlt:i<L.length
  ·refine G.lT (i:Int) (L.length:Int) ?_;have hg:=Jf hdd hlt;refine G.idxS L i _ kV (Dd hlt) ?_;refine G.cmpG .lss .u8 ((L.getD i 0).toNat:Int) 48 false kV rfl (by simp only[Cj,decide_eq_false_iff_not];omega) ?_;refine G.idxS L i _ kV (Dd hlt) ?_;refine G.cmpG .gtr .u8 ((L.getD i 0).toNat:Int) 57 false kV rfl (by simp only[Cj,decide_eq_false_iff_not];omega) ?_;refine G.i i ?_;exact G.b (hJ (i+1) _ _ _ cV hle ⟨oV,rfl⟩ oV)
  ·refine G.lF (i:Int) (L.length:Int) ?_;exact G.r (.bool true) ⟨rfl,rfl⟩
 ·rw[decide_eq_false hz]at hs;have hTL:T=L:=hs;subst hTL;refine G.idxS T 0 b0 kV hb0 ?_;refine G.cmpG .eql .u8 (b0.toNat:Int) 45 false kV rfl (by simp only[Cj,decide_eq_false_iff_not];omega) ?_;refine G.eF (T.length:Int) 0 ?_;refine G.gF (T.length:Int) 400 ?_;refine G.idxS T 0 b0 kV hb0 ?_;refine G.cmpG .eql .u8 (b0.toNat:Int) 48 false kV rfl (by simp only[Cj,decide_eq_false_iff_not];omega) ?_;refine G.l (ι:=Nat) (fun i=>[(3,tV T),(4,iV i)]) (fun _=>[]) (fun i _ m'=>i<=T.length/\m'=PH.mt) (fun i=>T.length-i) 0 ⟨oV,rfl⟩ ?_;rintro J i hJ u' m' hle ⟨hi,rfl⟩;by_cases hlt:i<T.length
  ·refine G.lT (i:Int) (T.length:Int) ?_;have hg:=Jf hdd hlt;refine G.idxS T i _ kV (Dd hlt) ?_;refine G.cmpG .lss .u8 ((T.getD i 0).toNat:Int) 48 false kV rfl (by simp only[Cj,decide_eq_false_iff_not];omega) ?_;refine G.idxS T i _ kV (Dd hlt) ?_;refine G.cmpG .gtr .u8 ((T.getD i 0).toNat:Int) 57 false kV rfl (by simp only[Cj,decide_eq_false_iff_not];omega) ?_;refine G.i i ?_;exact G.b (hJ (i+1) _ _ _ cV hle ⟨oV,rfl⟩ oV)
  ·refine G.lF (i:Int) (T.length:Int) ?_;exact G.r (.bool true) ⟨rfl,rfl⟩
theorem Aie {T:List UInt8}(h:∀ b∈T,b≠47)(hl:T.length<=1000000):Fn0 prog 64 [.string (mkS T)] u fun v _=>v=.tuple #[.string (mkS T),.string (mkS [49]),.bool false]:=by
 refine Fn0.o func64 ?_;refine G.l (ι:=Nat) (fun i=>[(0,tV T),(5,iV i)]) (fun _=>[]) (fun i _ m'=>i<=T.length/\m'=PH.mt) (fun i=>T.length-i) 0 ⟨oV,rfl⟩ ?_;rintro J i hJ u' m' hle ⟨hi,rfl⟩;by_cases hlt:i<T.length
 ·refine G.lT (i:Int) (T.length:Int) ?_;refine G.idxS T i _ kV (Dd hlt) ?_;have hne:T.getD i 0≠47:=by grind
  refine G.cmpG .eql .u8 ((T.getD i 0).toNat:Int) 47 false kV rfl (by simp only[Cj,decide_eq_false_iff_not];intro h;exact hne (Az8.1 (by simpa using (by omega:(T.getD i 0).toNat=47)))) ?_;refine G.i i ?_;exact G.b (hJ (i+1) _ _ _ cV hle ⟨oV,rfl⟩ oV)
 ·refine G.lF (i:Int) (T.length:Int) ?_;exact G.r (.tuple #[.string (mkS T),.string (mkS [49]),.bool false]) ⟨rfl,rfl⟩
theorem Ahn {A B:List UInt8}(h:∀ b∈A,b≠47)(hl:(A++47::B).length<=1000000):Fn0 prog 64 [.string (mkS (A++47::B))] u fun v _=>v=.tuple #[.string (mkS A),.string (mkS B),.bool true]:=by
 have hT:∀ i,i<A.length->(A++47::B).getD i 0≠47:=by grind
 have hA:(A++47::B)[A.length]?=some 47:=by grind
 have hlen:(A++47::B).length=A.length+1+B.length:=by grind
 have htk:(A++47::B).take A.length=A:=mV
 have hdr:(A++47::B).drop (A.length+1)=B:=mV
 generalize A++47::B=T at *
 refine Fn0.o func64 ?_;refine G.l (ι:=Nat) (fun i=>[(0,tV T),(5,iV i)]) (fun _=>[]) (fun i _ m'=>i<=A.length/\m'=PH.mt) (fun i=>T.length-i) 0 ⟨oV,rfl⟩ ?_;rintro J i hJ u' m' hle ⟨hi,rfl⟩;refine G.lT (i:Int) (T.length:Int) ?_;by_cases hlt:i<A.length
 ·refine G.idxS T i _ kV (Dd oV) ?_;have hne:=hT i hlt;refine G.cmpG .eql .u8 ((T.getD i 0).toNat:Int) 47 false kV rfl (by simp only[Cj,decide_eq_false_iff_not];intro h;exact hne (Az8.1 (by simpa using (by omega:(T.getD i 0).toNat=47)))) ?_;refine G.i i ?_;exact G.b (hJ (i+1) _ _ _ cV hle ⟨oV,rfl⟩ oV)
 ·have:i=A.length:=oV
  subst this;refine G.idxS T A.length 47 kV hA ?_;refine G.cmpG .eql .u8 47 47 true kV rfl rfl ?_;refine G.sliceSTo T A.length kV kV oV ?_;rw[htk];refine G.p (A.length:Int) 1 ((A.length+1:Nat):Int) ?_;refine G.sliceSFrom T (A.length+1) kV kV oV ?_;rw[hdr];exact G.r (.tuple #[.string (mkS A),.string (mkS B),.bool true]) ⟨rfl,rfl⟩
def Ap (q:Rat):List UInt8:=if q.den=1 then Atn q.num else Atn q.num++47::Atn (q.den:Int)
def Tx (q:Rat):Prop:=Aua q.num.natAbs<=400/\Aua q.den<=400
theorem Tx.den (h:Tx q):Aua ((q.den:Int)).natAbs<=400:=by simpa using h.2
theorem Tx.sz (h:Tx q):Sz q 400:=⟨Bi h.1,Bi h.2⟩
theorem Sz.mono (h:Sz q j)(hjk:j<=k):Sz q k:=⟨As9 h.1 hjk,As9 h.2 hjk⟩
theorem Mv (z:Int):∀ b∈Atn z,b≠47:=by
 have hd:=Mm z.natAbs;intro b hb e;subst e;rw[Cy]at hb;unfold Bg at hb;split at hb
 ·simp at hb;have:=hd _ hb;simp at this
 ·have:=hd _ hb;simp at this
theorem Xi (h:Tx q):Fn0 prog 64 [.string (mkS (Ap q))] u fun v _=>v=.tuple #[.string (mkS (Atn q.num)),.string (mkS (Atn (q.den:Int))),.bool (decide (q.den≠1))]:=by
 have l1:=F9 h.1;have l2:=F9 h.den;unfold Ap;by_cases hd:q.den=1
 ·rw[if_pos hd,hd,show ((1:Nat):Int)=1 from rfl,He];exact Aie (Mv _) oV
 ·rw[if_neg hd,decide_eq_true hd];exact Ahn (Mv _) gV
theorem Tk (h:Tx q):Fn0 prog 17 [.string (mkS (Ap q))] u fun v u'=>QP u' v q:=by
 refine Fn0.o func17 ?_;refine G.c call64 (Xi h) ?_;rintro v1 u1 l1 rfl;refine G.c call65 (Lr h.1) ?_;intro v2 u2 l2 k2;obtain⟨b2,a2,n2,c2,rfl,_,_⟩:=k2.opn;refine G.c call65 (Lr h.den) ?_;intro v3 u3 l3 k3;obtain⟨b3,a3,n3,c3,rfl,_,_⟩:=k3.opn;exact G.r (.agg #[.bool b2,.slice a2 n2 c2,.bool b3,.slice a3 n3 c3]) ⟨rfl,QP.mk (k2.mono l3) k3 rfl rfl⟩
theorem Akp (h:Tx q):(Ap q).length<=802:=by
 have l1:=F9 h.1;have l2:=Awb q.den;have l3:=h.2;unfold Ap;split
 ·omega
 ·rw[Tl];simp;omega
theorem Aj8 (h:q.den≠1):q.num≠0:=fun h0=>h (by have:=Rat.num_eq_zero.1 h0;subst this;rfl)
theorem Qr (h:Tx q):Fn0 prog 126 [.string (mkS (Ap q))] u fun v _=>v=.tuple #[.string (mkS (Atn q.num)),.string (mkS (Atn (q.den:Int))),.bool true]:=by
 have hlen:=Akp h;refine Fn0.o func126 ?_;refine G.gF ((Ap q).length:Int) 802 ?_;refine G.c call64 (Xi h) ?_;rintro v1 u1 l1 rfl;refine G.c call186 (Qo h.1) ?_;rintro v2 u2 l2 rfl;refine G.c call186 (Qo h.den) ?_;rintro v3 u3 l3 rfl;by_cases hd:q.den=1
 ·rw[show decide (q.den≠1)=false by simp[hd]];exact G.r (.tuple #[.string (mkS (Atn q.num)),.string (mkS (Atn (q.den:Int))),.bool true]) ⟨rfl,rfl⟩
 ·rw[show decide (q.den≠1)=true by simp[hd]];have hn:=Aj8 hd;have hdn:=q.den_nz;refine G.w (Atn q.num) [48] (fun e=>hn (G8 (e.trans Ed.symm))) ?_;refine G.w (Atn (q.den:Int)) [49] (fun e=>by have:=G8 (e.trans He.symm);omega) ?_;refine G.w (Atn (q.den:Int)) [48] (fun e=>by have:=G8 (e.trans Ed.symm);omega) ?_;obtain⟨b0,hb0,hb1,hb2⟩:=Nr (z:=(q.den:Int)) oV oV;refine G.idxS (Atn (q.den:Int)) 0 b0 kV hb0 ?_;refine G.cmpG .eql .u8 (b0.toNat:Int) 45 false kV rfl (by simp only[Cj,decide_eq_false_iff_not];omega) ?_;refine G.c call65 (Lr h.1) ?_;intro v4 u4 l4 k4;refine G.c call65 (Lr h.den) ?_;intro v5 u5 l5 k5;refine G.c call127 (Agb (k4.mono l5) k5 (As9 (Bi h.1) oV) (As9 (Bi h.den) oV)) ?_;intro v6 u6 l6 k6;rw[show Auw q.num.natAbs ((q.den:Int)).natAbs=1 from q.reduced]at k6;refine G.c call135 (Ab7 k6 (As9 Qb oV)) ?_;rintro v7 u7 l7 rfl;refine G.y (Atn ((1:Nat):Int)) [49] He ?_;exact G.r (.tuple #[.string (mkS (Atn q.num)),.string (mkS (Atn (q.den:Int))),.bool true]) ⟨rfl,rfl⟩
theorem Hw (h:Tx q):Fn0 prog 59 [.string (mkS (Ap q))] u fun v _=>v=.bool true:=by
 refine Fn0.o func59 ?_;refine G.c call126 (Qr h) ?_;rintro v1 u1 l1 rfl;exact G.r (.bool true) ⟨rfl,rfl⟩
theorem Ov {x:Value}(hx:QP u x q)(h:Tx q):Fn0 prog 18 [x] u fun v _=>v=.tuple #[.string (mkS (Ap q)),.int .i64 0]:=by
 obtain⟨b,a,n,c,a',n',c',rfl,_,hn,hd⟩:=hx.opn;refine Fn0.o func18 ?_;refine G.c call66 (Aa1 hn (As9 (Bi h.1) oV) h.1) ?_;rintro v1 u1 l1 rfl;refine G.c call66 (Aa1 (hd.mono l1) (As9 (Bi h.den) oV) h.den) ?_;rintro v2 u2 l2 rfl;refine G.nF 0 0 ?_;refine G.nF 0 0 ?_;by_cases h1:q.den=1
 ·refine G.q (Atn (q.den:Int)) [49] (by rw[h1];exact He) ?_;exact G.r (.tuple #[.string (mkS (Atn q.num)),.int .i64 0]) ⟨rfl,by rw[Ap,if_pos h1]⟩
 ·refine G.w (Atn (q.den:Int)) [49] (fun e=>by have:=G8 (e.trans He.symm);omega) ?_;have e1:=F9 h.1;have e2:=F9 h.den;refine G.addS (Atn q.num) [47] kV gV ?_;refine G.addS (Atn q.num++[47]) (Atn (q.den:Int)) kV gV ?_;exact G.r (.tuple #[.string (mkS (Atn q.num++[47]++Atn (q.den:Int))),.int .i64 0]) ⟨rfl,by rw[Ap,if_neg h1];simp⟩
end
end Go.Proofs.YtnafchoihfnkeaaGreatDoor
