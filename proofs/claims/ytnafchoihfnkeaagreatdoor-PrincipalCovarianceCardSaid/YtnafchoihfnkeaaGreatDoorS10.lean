/- Parts of one proof, joined by a program. -/
import Derived.Test.YtnafchoihfnkeaaGreatDoorS09
set_option linter.defProp false
set_option linter.unusedVariables false
set_option linter.unusedSimpArgs false
set_option linter.unusedSectionVars false
set_option maxHeartbeats 16000000
namespace Go.Proofs.YtnafchoihfnkeaaGreatDoor
open Go.Proofs.Tryz
open Go.RowKit Go.MapKept
open Classical renaming byContradiction -> Au2
open Int renaming natAbs_mul -> Au7
open List renaming Perm.cons -> A0g, Perm.swap -> A0h, append_assoc -> Au1, drop_of_length_le -> Aue, getElem?_eq_getElem -> As5, getElem?_eq_none -> Att, getElem?_eq_some_iff -> Atc, getElem?_map -> Aty, getElem_map -> Awp, length -> Av5, length_append -> Atg, length_cons -> Auh, length_filter_le -> Aw8, length_map -> Ata, length_nil -> Av1, length_pos_iff -> Avq, length_singleton -> Aux, map_append -> Atk, map_drop -> A3o, map_take -> Ayy, mem_append -> Ati, mem_append_left -> Avn, mem_cons_of_mem -> Auv, mem_cons_self -> Aw3, mem_filter -> Axo, mem_map -> Ate, mem_of_getElem? -> Ato, mem_range -> Axf, mem_singleton -> Aub, pairwise_iff_getElem -> Avr, range -> At3, set_cons_succ -> Avi, set_cons_zero -> Avj, take_length -> At9
open Nat renaming add_mul -> At2, div_le_self -> Awa, le_refl -> Atb, le_trans -> As9, lt_of_lt_of_le -> Auf, lt_or_ge -> At8, mul_pos -> Axa, pow_le_pow_right -> Atq, pow_succ -> Auc, zero_add -> Aud, zero_le -> Atu
open Rat renaming divInt -> Au0, intCast_mul -> Av9, intCast_natCast -> Au6, le_refl -> Ay4, mul_eq_zero -> A0a, mul_pos -> Azv, natCast_add -> Axq, natCast_mul -> Awt
open Value renaming cells -> Atw, int -> Auj, slice.injEq -> Atr
section
variable {F:CF}{N b sz:Nat}{es:List Value}{v:Value}
def Ar3 (u m:PH)(v:Value)(F:CF)(N:Nat):Prop :=
 ∃ b a n c b' a' n' c' g1 g2 o1 o2,v=.agg #[.bool b,.slice a n c,.bool b',.slice a' n' c',.map (some g1),.map (some g2)]/\QP u (.agg #[.bool b,.slice a n c,.bool b',.slice a' n' c']) F.c/\(u g1=some o1\/m g1=some o1)/\(u g2=some o2\/m g2=some o2)/\Di A3 KT u o1 F.s N/\Di prV KO u o2 F.t N
theorem Iq.i {u m:PH}(h:Iq m u v F N):Ar3 u m v F N:=by
 obtain⟨b,a,n,c,b',a',n',c',g1,g2,o1,o2,e,h1,h2,rfl,h4,h5⟩:=h;exact⟨b,a,n,c,b',a',n',c',g1,g2,o1,o2,e,h1,.inr (by rw[Ac _ _ h2,Ab]),.inr (Ab _ _ _),h4,h5⟩
section
variable {P:Program} [A7 P] {fn:Func} {Post:By} {st:List KI×S} {u m:PH}
theorem G.appendMV (e:TypeId)(sz bt:Nat)(z:Value)(m0:PH)(es xs:List Value)(v:Value)(a:Option Addr)(n c:Nat)(h:Al P (adv P st)=.app (some (e,sz,bt,z)) true [v,.slice a n c])(hz:z.cells.toList.all Bh=true)(hzs:z.cells.size=sz)(hsz:0<sz)
 (ha:Ae m0 m v e sz es) (hn:n=xs.length) (hx:xs≠[]->∃ b off,a=some ⟨b,off,none⟩/\Eu m b off sz xs) (ho:Ax sz xs) (hb:(es.length+xs.length)*bt<=140737488355328) (hb2:es.length+xs.length<=9223372036854775807)
 (k:∀ v' m',Ae m0 m' v' e sz (es++xs)->G P fn Post (nx (adv P st) v') u m'):G P fn Post st u m:=by
 cases xs with
 |nil =>
  subst hn;obtain⟨a1,c1,rfl⟩:=ha.shape;refine G.append0 e sz bt z a1 a es.length c1 c h ha.cap ?_;exact k _ _ (by rw[List.append_nil];exact ha)
 |cons x xs =>
  obtain⟨b,off,rfl,hx'⟩:=hx mV;subst hn;exact G.appendM e sz bt z m0 es (x::xs) v b off _ c h hz hzs hsz ha hx' ho rfl mV hb hb2 k
end
theorem Ae.els {m0 m:PH}{t:TypeId}{b n c:Nat}(h:Ae m0 m (.slice (some ⟨b,0,none⟩) n c) t sz es):Eu m b 0 sz es:=fun j e hj=>h.el hj
theorem Eu.drop {m:PH}(h:Eu m b 0 sz es)(k:Nat):Eu m b (0+k*sz) sz (es.drop k):=fun j e hj=>by
 have:=h (k+j) e (by rw[List.getElem?_drop]at hj;exact hj);rw[At2,Aud]at this;rw[Aud];exact this
theorem Agz (l:List (Par×Rat)):Ax 3 (l.map Bk):=fun e he=>by
 obtain⟨p,_,rfl⟩:=Ate.1 he;exact Abn p _ mV
theorem Ak3 (l:List ((Par×Par)×Rat)):Ax 5 (l.map D0):=fun e he=>by
 obtain⟨p,_,rfl⟩:=Ate.1 he;exact Af9 p _ mV
theorem O2 {q:Rat}:q.num=0↔q=0:=Rat.num_eq_zero
theorem Ahy {u m:PH}(h:Ar3 u m v F N)(sF:CFS F)(hN:N<=1000000) :
 FnK prog 34 [v] u m fun r u'=>Ar4 u' r F N:=by
 obtain⟨b,a,n,c,b',a',n',c',g1,g2,o1,o2,rfl,hF,hg1,hg2,s1,s2⟩:=h;obtain⟨l1,⟨es1,clk1,rfl,hkv1,hst1⟩,hl1,hz1,hn1⟩:=s1.at;obtain⟨l2,⟨es2,clk2,rfl,hkv2,hst2⟩,hl2,hz2,hn2⟩:=s2.at;have hnd1:(l1.map (·.1)).Nodup:=Et.nodup (enc:=A3) ⟨es1,clk1,rfl,hkv1,hst1⟩;have hnd2:(l2.map (·.1)).Nodup:=Et.nodup (enc:=prV) ⟨es2,clk2,rfl,hkv2,hst2⟩;have sit1:∀ {u' m':PH},PH.le u u'->PH.le m m'->u' g1=some (.map es1 clk1)\/m' g1=some (.map es1 clk1):=fun a b=>hg1.elim (fun e=>.inl (a _ _ e)) (fun e=>.inr (b _ _ e));have sit2:∀ {u' m':PH},PH.le u u'->PH.le m m'->u' g2=some (.map es2 clk2)\/m' g2=some (.map es2 clk2):=fun a b=>hg2.elim (fun e=>.inl (a _ _ e)) (fun e=>.inr (b _ _ e));refine FnK.of func34 kV kV ?_;refine G.c call18 (Ov hF (SB.tx sF.c)) ?_;rintro v1 u1 le1 rfl;refine G.nF 0 0 ?_;refine G.mapRange g1 es1 clk1 110 57 kV (sit1 le1 (fun _ _ h=>h)) ?_;intro it him hiu;have hlem:∀ o,PH.le m (m.upd it o):=fun o=>K6 o him;refine G.l (ι:=List MapEntry×List (Par×Value)×List (Par×Rat)×(Option Addr×Nat)) (fun i=>[(1,.p 0 0),(2,.p 1 0),(6,.p 2002 0),(33,.v (.pointer (some ⟨it,0,none⟩)))])
  (fun i=>[(0,⟨92,[bV b,sV a n c,bV b',sV a' n' c',.v (.map (some g1)),.v (.map (some g2))]⟩),(1,⟨38,[tV [],sV none 0 0,sV none 0 0]⟩),(2002,⟨38,[tV (Ap F.c),sV i.2.2.2.1 i.2.2.1.length i.2.2.2.2,sV none 0 0]⟩)])
  (fun i u' m'=>Fc A3 es1 l1 i.1 i.2.1/\Pl Bd F.s (i.2.1.map (·.1)) i.2.2.1/\i.2.2.1.length<=i.2.1.length/\Ae (m.upd it (.mapIter (some g1) clk1 (Ar i.1) clk1)) m' (.slice i.2.2.2.1 i.2.2.1.length i.2.2.2.2) 116 3 (i.2.2.1.map Bk))
  (fun i=>l1.length-i.2.1.length) ([],[],[],(none,0))
  ⟨Fc.nil _ _,Pl.nil,Atb _,Ae.nil _ _ _⟩ ?_
 rintro J ⟨D,L,S,⟨sa,sc⟩⟩ hJ u2 m2 l2' ⟨hS,hI,hSL,hA⟩;simp only at hS hI hSL hA hJ;have le2:=le1.trans l2';have hit:m2 it=some (.mapIter (some g1) clk1 (Ar D) clk1):=hA.see (Ab _ _ _);have hlm2:PH.le m m2:=fun g o hg=>hA.see (hlem _ g o hg);refine G.mapNextL Dr.inj it g1 es1 clk1 l1 D L kV kV hit (sit1 le2 hlm2) hst1 hkv1 hnd1 hS ?done1 ?next1
 case next1 =>
  rintro⟨k,xv⟩ e hp hkn he hek hev hS';simp only at hkn hek hev;have hx:=(hl1 _ hp).1;simp only at hx;obtain⟨yb,ya,yn,yc,ya',yn',yc',rfl,_⟩:=hx.opn;have hA1:=hA.base (b:=it) (o:=.mapIter (some g1) clk1 (Ar (D++[e])) clk1) (by rw[Ab];simp);rw[Dz]at hA1;have hlm3:PH.le m (m2.upd it (.mapIter (some g1) clk1 (Ar (D++[e])) clk1)):=fun g o hg=>hA1.see (hlem _ g o hg);refine G.mapEntry it g1 es1 clk1 D e kV (Ab _ _ _) (sit1 le2 hlm3) hst1 he ?_;rw[hek,hev];have hSlen:=hS'.len;simp only[Atg,Auh,Av1]at hSlen;have hqs:=sF.s k;refine G.c call85 (Uz (hx.mono le2) (by have:=(SB.sz hqs).1;omega)) ?_;rintro v3 u3 l3 rfl;by_cases h0:F.s k=0
  ·rw[decide_eq_true (O2.2 h0)];refine G.b (hJ (D++[e],L++[(k,_)],S,(sa,sc)) _ _ _ cV (l2'.trans l3) ⟨hS',by dsimp only;rw[Atk];exact hI.skip h0,by dsimp only;simp;omega,hA1⟩ (by have:=hS'.len;simp at this;dsimp only;simp;omega))
  ·rw[decide_eq_false (fun e=>h0 (O2.1 e))];refine G.c call18 (Ov (hx.mono (le2.trans l3)) (SB.tx hqs)) ?_;rintro v4 u4 l4 rfl;refine G.nF 0 0 ?_;have hA4:=hA1;generalize hm3:m2.upd it (.mapIter (some g1) clk1 (Ar (D++[e])) clk1)=m3 at hA4 hlm3;have hkS:k∉L.map (·.1):=hkn;refine G.l (ι:=Nat) (fun n=>[(1,.p 0 0),(2,.p 1 0),(6,.p 2002 0),(7,.p 7003 0),(11,.p 12003 0),(12,iV n),(33,.v (.pointer (some ⟨it,0,none⟩)))])
    (fun _=>[(0,⟨92,[bV b,sV a n c,bV b',sV a' n' c',.v (.map (some g1)),.v (.map (some g2))]⟩),(1,⟨38,[tV [],sV none 0 0,sV none 0 0]⟩),(2002,⟨38,[tV (Ap F.c),sV sa S.length sc,sV none 0 0]⟩),(7003,⟨110,[iV k.1,tV k.2]⟩),(12003,⟨116,[iV k.1,tV k.2,tV (Ap (F.s k))]⟩)])
    (fun n u' m'=>n<=S.length/\(∀ j x,j<n->S[j]?=some x->Bd x.1 k<0)/\m'=m3) (fun n=>S.length-n) 0 ⟨oV,fun j x hj=>oV,rfl⟩ ?_
   rintro J2 n2 hJ2 u5 m5 l5 ⟨hn2,hlow,rfl⟩;have le5:=((le2.trans l3).trans l4).trans l5;refine G.joinF (ι:=Unit) (fun st=>Ad3 prog st [.bool false]) (fun _=>[(1,.p 0 0),(2,.p 1 0),(6,.p 2002 0),(11,.p 12003 0),(12,iV n2),(33,.v (.pointer (some ⟨it,0,none⟩)))])
    (fun _=>[(0,⟨92,[bV b,sV a n c,bV b',sV a' n' c',.v (.map (some g1)),.v (.map (some g2))]⟩),(1,⟨38,[tV [],sV none 0 0,sV none 0 0]⟩),(2002,⟨38,[tV (Ap F.c),sV sa S.length sc,sV none 0 0]⟩),(12003,⟨116,[iV k.1,tV k.2,tV (Ap (F.s k))]⟩)])
    (fun _ u' m'=>m'=m5/\∀ x,S[n2]?=some x->¬ Bd x.1 k<0) (fun _=>kV) kV ?tail ?way
   case way =>
    intro hjoin;by_cases hlt:n2<S.length
    ·refine G.lT (n2:Int) (S.length:Int) ?_;obtain⟨x,hSx⟩:∃ x,S[n2]?=some x:=⟨_,As5 hlt⟩;obtain⟨gs,cs,hgc⟩:=hA4.ptr (fun e=>by
      have:S.length=0:=by simpa using congrArg Av5 e
      omega)
     simp only[Atr]at hgc;obtain⟨rfl,_,rfl⟩:=hgc;refine G.a gs 0 S.length sc n2 3 hlt ?_;refine G.f 116 gs (0+n2*3) 0 0 ?_;have hel:ElP m5 gs (0+n2*3) (Bk x):=hA4.el (by rw[Aty,hSx];rfl);refine G.lM (some 2) gs (0+n2*3+0) (.agg #[.int .i64 x.1.1,.string (mkS x.1.2)]) (hel.sub (k:=0) fun i y hy=>by
      match i,hy with
      |0,hy=>simpa[Bk,Atw] using hy
      |1,hy=>simpa[Bk,Atw] using hy
      |i+2,hy=>simp[Atw]at hy) ?_
     by_cases hc:Bd x.1 k<0
     ·refine G.c call86 (Ga x.1 k true (decide_eq_true hc)) ?_;rintro v6 u6 l6 rfl;refine G.i n2 ?_;exact G.b (hJ2 (n2+1) _ _ _ cV (l5.trans l6) ⟨oV,fun j y hj hy=>by
       rcases (by omega:j<n2\/j=n2) with e|rfl
       ·exact hlow j y e hy
       ·rw[hSx]at hy;cases hy;exact hc,rfl⟩ oV)
     ·refine G.c call86 (Ga x.1 k false (decide_eq_false hc)) ?_;rintro v6 u6 l6 rfl;exact hjoin () _ _ _ kV cV l6 ⟨rfl,fun y hy=>by rw[hSx]at hy;cases hy;exact hc⟩
    ·refine G.lF (n2:Int) (S.length:Int) ?_;exact hjoin () _ _ _ kV cV (PH.le_refl _) ⟨rfl,fun y hy=>by rw[Att oV]at hy;cases hy⟩
   rintro _ u6 m6 l6 ⟨rfl,hhigh⟩;have hcap:=hA4.cap;refine G.sliceTo 3 sa S.length sc n2 kV oV ?_;refine G.sliceFromG sa S.length sc n2 3 kV hn2 hcap ?_;refine G.buildM 116 3 40 (.agg #[.int .i64 0,.string (mkS []),.string (mkS [])]) [.agg #[.int .i64 k.1,.string (mkS k.2),.string (mkS (Ap (F.s k)))]] kV (Abn (k,F.s k)) rfl oV mV mV ?_;intro gt m7 hT7;refine G.appendMV 116 3 40 (.agg #[.int .i64 0,.string (mkS []),.string (mkS [])]) m6 [.agg #[.int .i64 k.1,.string (mkS k.2),.string (mkS (Ap (F.s k)))]] ((S.drop n2).map Bk) (.slice (some ⟨gt,0,none⟩) 1 1) (if sc=n2 then sa else sa.map (·.add (n2*3))) (S.length-n2) (sc-n2) kV rfl rfl oV hT7 mV (fun hne=>?_) (Agz _) gV gV ?_
   ·have hlt:n2<S.length:=by
     rcases At8 n2 S.length with h|h
     ·exact h
     ·exact absurd (by rw[Aue h];rfl) hne
    obtain⟨gs,cs,hgc⟩:=hA4.ptr (fun e=>by
     have:S.length=0:=by simpa using congrArg Av5 e
     omega)
    simp only[Atr]at hgc;obtain⟨rfl,_,rfl⟩:=hgc;refine⟨gs,0+n2*3,?_,?_⟩
    ·rw[if_neg oV];simp[Dp]
    ·have:=hA4.els.drop n2;rw[<-A3o]at this;exact fun j e hj i y hy=>by
      obtain⟨cs,t,fr,q1,q2⟩:=this j e hj i y hy;exact⟨cs,t,fr,hT7.le _ _ q1,q2⟩
   intro v8 m8 hT8;obtain⟨a8,c8,rfl⟩:=hT8.ptr mV;have hAt:=hA4.take (k:=n2) (by rw[Ata];exact hn2);obtain⟨mx,hy1,hx1,hput⟩:=At.swap (x:=⟨.slice sa n2 sc,116,3,(S.map Bk).take n2⟩) (y:=⟨.slice (some ⟨a8,0,none⟩) _ c8,116,3,_⟩) hT8 hAt;refine G.appendM 116 3 40 (.agg #[.int .i64 0,.string (mkS []),.string (mkS [])]) mx ((S.map Bk).take n2) _ (.slice sa n2 sc) a8 0 _ c8 kV rfl rfl oV hx1 hT8.els hT8.1 rfl mV gV gV ?_;intro v9 m9 hA9;obtain⟨mz,hz1,hz2⟩:=hput ⟨v9,116,3,_⟩ m9 hA9;have hes:(S.map Bk).take n2++([.agg #[.int .i64 k.1,.string (mkS k.2),.string (mkS (Ap (F.s k)))]]++(S.drop n2).map Bk)=(S.take n2++[(k,F.s k)]++S.drop n2).map Bk:=by
    rw[Atk,Atk,Ayy,Au1];rfl
   have hz3:Ae (m.upd it (.mapIter (some g1) clk1 (Ar (D++[e])) clk1)) mz v9 116 3 ((S.take n2++[(k,F.s k)]++S.drop n2).map Bk):=by rw[<-hes];exact hz2
   obtain⟨a9,c9,rfl⟩:=hz3.shape;rw[Ata]at hz3⊢;have hS9:(S.take n2++[(k,F.s k)]++S.drop n2).length=S.length+1:=gV
   refine G.drop mz kV (fun g o hg=>Ae.le hz1 g o hg) ?_;refine G.b (hJ (D++[e],L++[(k,_)],S.take n2++[(k,F.s k)]++S.drop n2,(a9,c9)) _ _ _ cV ((((l2'.trans l3).trans l4).trans l5).trans l6) ⟨hS',?_,by dsimp only;rw[hS9];simp;omega,hz3⟩ (by have:=hS'.len;simp at this;dsimp only;simp;omega));dsimp only;rw[Atk];exact hI.put Fr h0 hkS hlow hhigh
 case done1 =>
 intro hall;have hcan1:Can Bd F.s S:=hI.can fun k hk=>hz1 k fun hm=>hk (by
  obtain⟨p,hp,rfl⟩:=Ate.1 hm;exact Ate.2 ⟨p,hall p hp,rfl⟩)
 have hS1:S.length<=N:=by have:=hS.len;omega
 refine G.give _ _ _ kV hA (fun g=>?_) ?_
 ·cases hg:m g with
  |none=>exact .inl hg
  |some o=>exact .inr (by rw[hlem _ g o hg];simp)
 intro u3 l3 hX;refine G.drop m kV (hlem _) ?_;have le3:=le2.trans l3;clear hJ hA hI hSL hit hlm2 hS hall
 revert S sa sc
 intro X xa xc hcan1 hS1 hX;refine G.mapRange g2 es2 clk2 162 57 kV (sit2 le3 (fun _ _ h=>h)) ?_;intro it2 him2 hiu2;have hlem2:∀ o,PH.le m (m.upd it2 o):=fun o=>K6 o him2;refine G.l (ι:=List MapEntry×List ((Par×Par)×Value)×List ((Par×Par)×Rat)×(Option Addr×Nat)) (fun i=>[(1,.p 0 0),(2,.p 1 0),(6,.p 2002 0),(85,.v (.pointer (some ⟨it2,0,none⟩)))])
  (fun i=>[(0,⟨92,[bV b,sV a n c,bV b',sV a' n' c',.v (.map (some g1)),.v (.map (some g2))]⟩),(1,⟨38,[tV [],sV none 0 0,sV none 0 0]⟩),(2002,⟨38,[tV (Ap F.c),sV xa X.length xc,sV i.2.2.2.1 i.2.2.1.length i.2.2.2.2]⟩)])
  (fun i u' m'=>Fc prV es2 l2 i.1 i.2.1/\Pl L1 F.t (i.2.1.map (·.1)) i.2.2.1/\i.2.2.1.length<=i.2.1.length/\Ae (m.upd it2 (.mapIter (some g2) clk2 (Ar i.1) clk2)) m' (.slice i.2.2.2.1 i.2.2.1.length i.2.2.2.2) 168 5 (i.2.2.1.map D0))
  (fun i=>l2.length-i.2.1.length) ([],[],[],(none,0))
  ⟨Fc.nil _ _,Pl.nil,Atb _,Ae.nil _ _ _⟩ ?_
 rintro J ⟨D,L,S,⟨sa,sc⟩⟩ hJ u2 m2 l2' ⟨hS,hI,hSL,hA⟩;simp only at hS hI hSL hA hJ;have le2:=le3.trans l2';have hit:m2 it2=some (.mapIter (some g2) clk2 (Ar D) clk2):=hA.see (Ab _ _ _);have hlm2:PH.le m m2:=fun g o hg=>hA.see (hlem2 _ g o hg);refine G.mapNextL Hi.inj it2 g2 es2 clk2 l2 D L kV kV hit (sit2 le2 hlm2) hst2 hkv2 hnd2 hS ?done2 ?next2
 case next2 =>
  rintro⟨k,xv⟩ e hp hkn he hek hev hS';simp only at hkn hek hev;have hx:=(hl2 _ hp).1;simp only at hx;obtain⟨yb,ya,yn,yc,ya',yn',yc',rfl,_⟩:=hx.opn;have hA1:=hA.base (b:=it2) (o:=.mapIter (some g2) clk2 (Ar (D++[e])) clk2) (by rw[Ab];simp);rw[Dz]at hA1;have hlm3:PH.le m (m2.upd it2 (.mapIter (some g2) clk2 (Ar (D++[e])) clk2)):=fun g o hg=>hA1.see (hlem2 _ g o hg);refine G.mapEntry it2 g2 es2 clk2 D e kV (Ab _ _ _) (sit2 le2 hlm3) hst2 he ?_;rw[hek,hev];have hSlen:=hS'.len;simp only[Atg,Auh,Av1]at hSlen;have hqs:=sF.t k;refine G.c call85 (Uz (hx.mono le2) (by have:=(SB.sz hqs).1;omega)) ?_;rintro v3 u3 l3 rfl;by_cases h0:F.t k=0
  ·rw[decide_eq_true (O2.2 h0)];refine G.b (hJ (D++[e],L++[(k,_)],S,(sa,sc)) _ _ _ cV (l2'.trans l3) ⟨hS',by dsimp only;rw[Atk];exact hI.skip h0,by dsimp only;simp;omega,hA1⟩ (by have:=hS'.len;simp at this;dsimp only;simp;omega))
  ·rw[decide_eq_false (fun e=>h0 (O2.1 e))];refine G.c call18 (Ov (hx.mono (le2.trans l3)) (SB.tx hqs)) ?_;rintro v4 u4 l4 rfl;refine G.nF 0 0 ?_;refine G.pub 19003 162 [.int .i64 k.1.1,.string (mkS k.1.2),.int .i64 k.2.1,.string (mkS k.2.2)] kV kV ?_;intro bq hq1 hq2;have hbase:(m.upd it2 (.mapIter (some g2) clk2 (Ar (D++[e])) clk2)) bq=none:=by
    cases hh:(m.upd it2 (.mapIter (some g2) clk2 (Ar (D++[e])) clk2)) bq with
    |none=>rfl
    |some o=>rw[hA1.see hh]at hq2;cases hq2
   have hA4:=hA1.fresh (o:=.cells [Auj .i64 k.1.1,.string (mkS k.1.2),.int .i64 k.2.1,.string (mkS k.2.2)].toArray 162 (0,0)) hq2;obtain⟨pe1,pe2⟩:=Agc (m:=(m2.upd it2 (.mapIter (some g2) clk2 (Ar (D++[e])) clk2)).upd bq (.cells [Auj .i64 k.1.1,.string (mkS k.1.2),.int .i64 k.2.1,.string (mkS k.2.2)].toArray 162 (0,0))) (Ab _ _ _);refine G.addrA 162 110 2 bq 0 0 2 kV kV kV kV oV ?_;refine G.lM (some 2) bq (0+0*2) (.agg #[.int .i64 k.1.1,.string (mkS k.1.2)]) pe1 ?_;refine G.addrA 162 110 2 bq 0 1 2 kV kV kV kV oV ?_;refine G.lM (some 2) bq (0+1*2) (.agg #[.int .i64 k.2.1,.string (mkS k.2.2)]) pe2 ?_;generalize hm3:(m2.upd it2 (.mapIter (some g2) clk2 (Ar (D++[e])) clk2)).upd bq (.cells [Auj .i64 k.1.1,.string (mkS k.1.2),.int .i64 k.2.1,.string (mkS k.2.2)].toArray 162 (0,0))=m3 at hA4;have hkS:k∉L.map (·.1):=hkn;refine G.l (ι:=Nat) (fun n=>[(1,.p 0 0),(2,.p 1 0),(6,.p 2002 0),(17,.p 24006 0),(18,iV n),(85,.v (.pointer (some ⟨it2,0,none⟩)))])
    (fun _=>[(0,⟨92,[bV b,sV a n c,bV b',sV a' n' c',.v (.map (some g1)),.v (.map (some g2))]⟩),(1,⟨38,[tV [],sV none 0 0,sV none 0 0]⟩),(2002,⟨38,[tV (Ap F.c),sV xa X.length xc,sV sa S.length sc]⟩),(24006,⟨168,[iV k.1.1,tV k.1.2,iV k.2.1,tV k.2.2,tV (Ap (F.t k))]⟩)])
    (fun n u' m'=>n<=S.length/\(∀ j x,j<n->S[j]?=some x->L1 x.1 k<0)/\m'=m3) (fun n=>S.length-n) 0 ⟨oV,fun j x hj=>oV,rfl⟩ ?_
   rintro J2 n2 hJ2 u5 m5 l5 ⟨hn2,hlow,rfl⟩;have le5:=((le2.trans l3).trans l4).trans l5;refine G.joinF (ι:=Unit) (fun st=>Ad3 prog st [.bool false]) (fun _=>[(1,.p 0 0),(2,.p 1 0),(6,.p 2002 0),(17,.p 24006 0),(18,iV n2),(85,.v (.pointer (some ⟨it2,0,none⟩)))])
    (fun _=>[(0,⟨92,[bV b,sV a n c,bV b',sV a' n' c',.v (.map (some g1)),.v (.map (some g2))]⟩),(1,⟨38,[tV [],sV none 0 0,sV none 0 0]⟩),(2002,⟨38,[tV (Ap F.c),sV xa X.length xc,sV sa S.length sc]⟩),(24006,⟨168,[iV k.1.1,tV k.1.2,iV k.2.1,tV k.2.2,tV (Ap (F.t k))]⟩)])
    (fun _ u' m'=>m'=m5/\∀ x,S[n2]?=some x->¬ L1 x.1 k<0) (fun _=>kV) kV ?tail2 ?way2
   case way2 =>
    intro hjoin;by_cases hlt:n2<S.length
    ·refine G.lT (n2:Int) (S.length:Int) ?_;obtain⟨x,hSx⟩:∃ x,S[n2]?=some x:=⟨_,As5 hlt⟩;obtain⟨gs,cs,hgc⟩:=hA4.ptr (fun e=>by
      have:S.length=0:=by simpa using congrArg Av5 e
      omega)
     simp only[Atr]at hgc;obtain⟨rfl,_,rfl⟩:=hgc;refine G.a gs 0 S.length sc n2 5 hlt ?_;have hel:ElP m5 gs (0+n2*5) (D0 x):=hA4.el (by rw[Aty,hSx];rfl);refine G.lM (some 5) gs (0+n2*5) (D0 x) hel ?_;by_cases hc:L1 x.1 k<0
     ·refine G.c call87 (Nn x (k,F.t k) true (decide_eq_true hc)) ?_;rintro v6 u6 l6 rfl;refine G.i n2 ?_;exact G.b (hJ2 (n2+1) _ _ _ cV (l5.trans l6) ⟨oV,fun j y hj hy=>by
       rcases (by omega:j<n2\/j=n2) with e|rfl
       ·exact hlow j y e hy
       ·rw[hSx]at hy;cases hy;exact hc,rfl⟩ oV)
     ·refine G.c call87 (Nn x (k,F.t k) false (decide_eq_false hc)) ?_;rintro v6 u6 l6 rfl;exact hjoin () _ _ _ kV cV l6 ⟨rfl,fun y hy=>by rw[hSx]at hy;cases hy;exact hc⟩
    ·refine G.lF (n2:Int) (S.length:Int) ?_;exact hjoin () _ _ _ kV cV (PH.le_refl _) ⟨rfl,fun y hy=>by rw[Att oV]at hy;cases hy⟩
   rintro _ u6 m6 l6 ⟨rfl,hhigh⟩;have hcap:=hA4.cap;refine G.sliceTo 5 sa S.length sc n2 kV oV ?_;refine G.sliceFromG sa S.length sc n2 5 kV hn2 hcap ?_;refine G.buildM 168 5 64 (.agg #[.int .i64 0,.string (mkS []),.int .i64 0,.string (mkS []),.string (mkS [])]) [.agg #[.int .i64 k.1.1,.string (mkS k.1.2),.int .i64 k.2.1,.string (mkS k.2.2),.string (mkS (Ap (F.t k)))]] kV (Af9 (k,F.t k)) rfl oV mV mV ?_;intro gt m7 hT7;refine G.appendMV 168 5 64 (.agg #[.int .i64 0,.string (mkS []),.int .i64 0,.string (mkS []),.string (mkS [])]) m6 [.agg #[.int .i64 k.1.1,.string (mkS k.1.2),.int .i64 k.2.1,.string (mkS k.2.2),.string (mkS (Ap (F.t k)))]] ((S.drop n2).map D0) (.slice (some ⟨gt,0,none⟩) 1 1) (if sc=n2 then sa else sa.map (·.add (n2*5))) (S.length-n2) (sc-n2) kV rfl rfl oV hT7 mV (fun hne=>?_) (Ak3 _) gV gV ?_
   ·have hlt:n2<S.length:=by
     rcases At8 n2 S.length with h|h
     ·exact h
     ·exact absurd (by rw[Aue h];rfl) hne
    obtain⟨gs,cs,hgc⟩:=hA4.ptr (fun e=>by
     have:S.length=0:=by simpa using congrArg Av5 e
     omega)
    simp only[Atr]at hgc;obtain⟨rfl,_,rfl⟩:=hgc;refine⟨gs,0+n2*5,?_,?_⟩
    ·rw[if_neg oV];simp[Dp]
    ·have:=hA4.els.drop n2;rw[<-A3o]at this;exact fun j e hj i y hy=>by
      obtain⟨cs,t,fr,q1,q2⟩:=this j e hj i y hy;exact⟨cs,t,fr,hT7.le _ _ q1,q2⟩
   intro v8 m8 hT8;obtain⟨a8,c8,rfl⟩:=hT8.ptr mV;have hAt:=hA4.take (k:=n2) (by rw[Ata];exact hn2);obtain⟨mx,hy1,hxx1,hput⟩:=At.swap (x:=⟨.slice sa n2 sc,168,5,(S.map D0).take n2⟩) (y:=⟨.slice (some ⟨a8,0,none⟩) _ c8,168,5,_⟩) hT8 hAt;refine G.appendM 168 5 64 (.agg #[.int .i64 0,.string (mkS []),.int .i64 0,.string (mkS []),.string (mkS [])]) mx ((S.map D0).take n2) _ (.slice sa n2 sc) a8 0 _ c8 kV rfl rfl oV hxx1 hT8.els hT8.1 rfl mV gV gV ?_;intro v9 m9 hA9;obtain⟨mz,hz1,hz2⟩:=hput ⟨v9,168,5,_⟩ m9 hA9;have hes:(S.map D0).take n2++([.agg #[.int .i64 k.1.1,.string (mkS k.1.2),.int .i64 k.2.1,.string (mkS k.2.2),.string (mkS (Ap (F.t k)))]]++(S.drop n2).map D0)=(S.take n2++[(k,F.t k)]++S.drop n2).map D0:=by
    rw[Atk,Atk,Ayy,Au1];rfl
   have hz4:Ae ((m.upd it2 (.mapIter (some g2) clk2 (Ar (D++[e])) clk2)).upd bq (.cells [Auj .i64 k.1.1,.string (mkS k.1.2),.int .i64 k.2.1,.string (mkS k.2.2)].toArray 162 (0,0))) mz v9 168 5 ((S.take n2++[(k,F.t k)]++S.drop n2).map D0):=by rw[<-hes];exact hz2
   have hz3:=hz4.del (l:=bq) (by rw[Ab];simp);rw[Zd hbase]at hz3;obtain⟨a9,c9,rfl⟩:=hz3.shape;rw[Ata]at hz3⊢;have hS9:(S.take n2++[(k,F.t k)]++S.drop n2).length=S.length+1:=gV
   refine G.drop (mz.del bq) kV (fun g o hg=>Ae.le hz1 g o (Aq7 _ _ g o hg)) ?_;refine G.b (hJ (D++[e],L++[(k,_)],S.take n2++[(k,F.t k)]++S.drop n2,(a9,c9)) _ _ _ cV ((((l2'.trans l3).trans l4).trans l5).trans l6) ⟨hS',?_,by dsimp only;rw[hS9];simp;omega,hz3⟩ (by have:=hS'.len;simp at this;dsimp only;simp;omega));dsimp only;rw[Atk];exact hI.put Are h0 hkS hlow hhigh
 case done2 =>
 intro hall;have hcan2:Can L1 F.t S:=hI.can fun k hk=>hz2 k fun hm=>hk (by
  obtain⟨p,hp,rfl⟩:=Ate.1 hm;exact Ate.2 ⟨p,hall p hp,rfl⟩)
 have hS2:S.length<=N:=by have:=hS.len;omega
 refine G.give _ _ _ kV hA (fun g=>?_) ?_
 ·cases hg:m g with
  |none=>exact .inl hg
  |some o=>exact .inr (by rw[hlem2 _ g o hg];simp)
 intro u4 l4 hY;refine G.drop m kV (hlem2 _) ?_;exact G.r (.tuple #[.agg #[.string (mkS (Ap F.c)),.slice xa X.length xc,.slice sa S.length sc],.int .i64 0]) ⟨rfl,_,rfl,X,S,xa,xc,sa,sc,rfl,hX.mono (l2'.trans l4),hY,hcan1,hcan2,hS1,hS2⟩
end
section
variable {F:List Aq}{a i:Nat}{f:Aq}{z:Int}
def Akv (F:List Aq)(a:Nat)(z:Int)(i:Nat)(fe:Int)(dr ho:Bool):Prop :=
 (∃ k f,k<i/\F[k]?=some f/\f.1=a/\fe=(k:Int)/\dr=decide (f.2.2=1)/\ho=decide (f.2.1=2))\/((∀ k f,k<i->F[k]?=some f->f.1≠a)/\fe=z/\dr=true/\ho=false)
theorem Ab0 (q:Rat):q+0=q:=by grind
theorem Aiy {fe:Int}{dr ho:Bool}(h:Akv F a z i fe dr ho)(hf:F[i]?=some f)(hne:f.1≠a):Akv F a z (i+1) fe dr ho:=by
 rcases h with ⟨k,g,h1,h2,h3⟩|⟨h1,h2⟩
 ·exact .inl ⟨k,g,oV,h2,h3⟩
 ·refine .inr ⟨fun k g hk hg=>?_,h2⟩;rcases (by omega:k<i\/k=i) with e|rfl
  ·grind
  ·grind
theorem Amh (hf:F[i]?=some f)(he:f.1=a):Akv F a z (i+1) (i:Int) (decide (f.2.2=1)) (decide (f.2.1=2)) :=
 .inl ⟨i,f,oV,hf,he,rfl,rfl,rfl⟩
theorem Am8 {T:List (List UInt8×Nat)}{F:List Aq}{lab:Int}{a:Nat}{z:Int}{x:List UInt8×Nat}{t:List UInt8}{fe:Int}{dr ho:Bool}(hF:Ef T F lab)(l1:-1<=lab)(l2:∀ l:Nat,lab=(l:Int)->∃ n,T[l]?=some (n,2))
 (hx:T[a]?=some x) (hv:Rg x.2 t) (hz:((a:Int)=lab/\z = -1)\/((a:Int)≠lab/\z = -2)) (h:Akv F a z F.length fe dr ho) :
 (fe = -2/\Ge F lab a t=some none)\/(fe≠-2/\((ho=true/\Ge F lab a t=some (some ((fe,t),1)))\/(ho=false/\t = []/\Ge F lab a t=(if dr then none else some none))\/(ho=false/\t≠[]/\SmW (Vb t)/\Ap (Vb t)=t/\Ge F lab a t=some (some ((fe,[]),Vb t))))):=by
 rcases h with ⟨k,f,hk,hf,rfl,rfl,rfl,rfl⟩|⟨hno,rfl,rfl,rfl⟩
 ·obtain⟨n,kd,hT,hkind,hne⟩:=hF.ok f (Ato hf);rw[Xq hF.nodup hf hne];rw[hT]at hx;cases hx;refine .inr ⟨oV,?_⟩;unfold Ji;rcases hkind with ⟨k1,rfl,k3⟩|⟨k1,rfl,k3⟩
  ·rw[k1,if_neg oV];by_cases ht:t = []
   ·grind
   ·obtain⟨q1,q2⟩:=K1 hv ht;exact .inr (.inr ⟨rfl,ht,q1,q2,by rw[if_neg ht]⟩)
  ·grind
 ·rcases hz with ⟨hl,rfl⟩|⟨hl,rfl⟩
  ·refine .inr ⟨oV,.inr ?_⟩;obtain⟨n,hn⟩:=l2 a hl.symm;rw[hx]at hn;cases hn;have e:Ge F lab a t=Rk t:=by unfold Ge;rw[if_pos hl]
   rw[e];unfold Rk;by_cases ht:t = []
   ·grind
   ·obtain⟨q1,q2⟩:=K1 hv ht;exact .inr ⟨rfl,ht,q1,q2,by rw[if_neg ht]⟩
  ·rcases Gt (F:=F) (w:=t) hl with e|⟨i,f,hf,he,_⟩
   ·grind
   ·grind
theorem Af2 {g1 g2:Nat}(hne:g1≠g2)(o1 o2 p1 p2:Obj):(((PH.mt.upd g1 o1).upd g2 o2).upd g1 p1).upd g2 p2=(PH.mt.upd g1 p1).upd g2 p2:=by
 rw[Jb _ _ _ (fun e=>hne e.symm),Dz,Dz]
theorem Aeo {u:PH}{v:Value}{T:List (List UInt8×Nat)}{R:List Ch}{lab:Int}{x:List UInt8×Nat}{t:List UInt8}(h:Ir u v T R F lab)(ok:Bz u T R F lab)(hx:T[a]?=some x)(hv:Rg x.2 t) :
 Ak prog 84 [v,.int .i64 (a:Int),.string (mkS t)] u PH.mt fun v' u' m'=>Iq m' u' v' (Ge F lab a t).cf 1:=by
 have hfl:=ok.f2;have l1:=ok.l1;have t2:=ok.t2;have hat:a<T.length:=(Atc.1 hx).1;obtain⟨pa,ca,pb,cb,pe,ce,rfl,hT,hR,hF⟩:=h;refine Ak.o func84 ?_;refine G.joinF (ι:=Int) (fun st=>Ad3 prog st [.bool false]) (fun z=>[(1,iV a),(2,tV t),(3,.p 0 0),(6,.p 1 0),(7,iV z),(8,bV true),(9,bV false)])
  (fun _=>[(0,⟨30,[sV pa T.length ca,sV pb R.length cb,sV pe F.length ce,iV lab]⟩),(1,⟨92,[bV false,sV none 0 0,bV false,sV none 0 0,.v (.map none),.v (.map none)]⟩)])
  (fun z u' m'=>u'=u/\m'=PH.mt/\(((a:Int)=lab/\z = -1)\/((a:Int)≠lab/\z = -2))) (fun _=>kV) kV ?tail ?way
 case way =>
  intro hjoin;by_cases hl:(a:Int)=lab
  ·refine G.eT' (a:Int) lab hl ?_;refine G.pastI ?_;exact hjoin (-1) _ _ _ kV cV (PH.le_refl _) ⟨rfl,rfl,.inl ⟨hl,rfl⟩⟩
  ·refine G.eF' (a:Int) lab hl ?_;exact hjoin (-2) _ _ _ kV cV (PH.le_refl _) ⟨rfl,rfl,.inr ⟨hl,rfl⟩⟩
 rintro z _ _ _ ⟨rfl,rfl,hz⟩;refine G.l (ι:=Nat×Int×Bool×Bool) (fun i=>[(1,iV a),(2,tV t),(6,.p 1 0),(7,iV i.2.1),(8,bV i.2.2.1),(9,bV i.2.2.2),(20,sV pe F.length ce),(21,iV F.length),(22,iV i.1)])
  (fun _=>[(1,⟨92,[bV false,sV none 0 0,bV false,sV none 0 0,.v (.map none),.v (.map none)]⟩)])
  (fun i u' m'=>i.1<=F.length/\m'=PH.mt/\Akv F a z i.1 i.2.1 i.2.2.1 i.2.2.2) (fun i=>F.length-i.1) (0,z,true,false) ⟨oV,rfl,.inr ⟨fun k f hk=>by dsimp only at hk;omega,rfl,rfl,rfl⟩⟩ ?_
 rintro J ⟨i,fe,dr,ho⟩ hJ u2 m2 l2 ⟨hi,rfl,hI⟩;simp only at hi hI hJ;by_cases hlt:i<F.length
 ·refine G.lT (i:Int) (F.length:Int) ?_;obtain⟨f,hFi⟩:∃ f,F[i]?=some f:=⟨_,As5 hlt⟩;obtain⟨fb,fo,rfl,ef⟩:=Ad.at' (hF.mono l2) (j:=i) (e:=Ce f) (by simp[hFi]);obtain⟨p1,p2,p3⟩:=f;refine G.a fb fo F.length ce i 3 hlt ?_;refine G.lU (some 3) fb (fo+i*3) (.agg #[.int .i64 (p1:Int),.int .i64 (p2:Int),.int .i64 (p3:Int)]) ef ?_;by_cases hp:(p1:Int)=(a:Int)
  ·refine G.eT' (p1:Int) (a:Int) hp ?_;have hh:=Amh (z:=z) hFi (show p1=a by omega);simp only at hh;by_cases h3:p3=1
   ·refine G.eT (p3:Int) 1 ?_;by_cases h2:p2=2
    ·refine G.eT (p2:Int) 2 ?_;refine G.i i ?_;rw[decide_eq_true h3,decide_eq_true h2]at hh;exact G.b (hJ (i+1,(i:Int),true,true) _ _ _ cV l2 ⟨dV,rfl,hh⟩ dV)
    ·refine G.eF (p2:Int) 2 ?_;refine G.i i ?_;rw[decide_eq_true h3,decide_eq_false h2]at hh;exact G.b (hJ (i+1,(i:Int),true,false) _ _ _ cV l2 ⟨dV,rfl,hh⟩ dV)
   ·refine G.eF (p3:Int) 1 ?_;by_cases h2:p2=2
    ·refine G.eT (p2:Int) 2 ?_;refine G.i i ?_;rw[decide_eq_false h3,decide_eq_true h2]at hh;exact G.b (hJ (i+1,(i:Int),false,true) _ _ _ cV l2 ⟨dV,rfl,hh⟩ dV)
    ·refine G.eF (p2:Int) 2 ?_;refine G.i i ?_;rw[decide_eq_false h3,decide_eq_false h2]at hh;exact G.b (hJ (i+1,(i:Int),false,false) _ _ _ cV l2 ⟨dV,rfl,hh⟩ dV)
  ·refine G.eF' (p1:Int) (a:Int) hp ?_;refine G.i i ?_;exact G.b (hJ (i+1,fe,dr,ho) _ _ _ cV l2 ⟨dV,rfl,Aiy hI hFi (show ¬ p1=a by omega)⟩ dV)
 obtain rfl:i=F.length:=oV
 refine G.lF (F.length:Int) (F.length:Int) ?_;have n0:(⟨((0:Int):Rat),fun _=>0,fun _=>0⟩:CF)=CF.num 0:=by rw[show ((0:Int):Rat)=0 by decide +kernel];rfl
 have n1:(⟨((1:Int):Rat),fun _=>0,fun _=>0⟩:CF)=CF.num 1:=by rw[show ((1:Int):Rat)=1 by decide +kernel];rfl
 rcases Am8 ok.feat l1 ok.l2 hx hv hz hI with ⟨rfl,e⟩|⟨hfe,hc⟩
 ·rw[e];refine G.eT' (-2) (-2) rfl ?_;refine G.callO _ _ kV call30 (H4 (n:=1) oV oV) ?_;intro v3 u3 m3 l3 k3 _;obtain⟨b,a5,n,c,b',a',n',c',g1,g2,rfl⟩:=Lu k3;rw[C6];exact G.r (.agg #[.bool b,.slice a5 n c,.bool b',.slice a' n' c',.map (some g1),.map (some g2)]) (k3.congr n1 oV)
 refine G.eF' fe (-2) hfe ?_;refine G.callO _ _ kV call30 (H4 (n:=1) oV oV) ?_;intro v3 u3 m3 l3 k3 _;rw[C6];rcases hc with ⟨rfl,e⟩|⟨rfl,ht,e⟩|⟨rfl,ht,q1,q2,e⟩
 ·rw[e];obtain⟨b,a5,n,c,b',a',n',c',g1,g2,o1,o2,rfl,k1,hne,rfl,s1,s2⟩:=k3;have hpp:A5 (fe,t) (fe,t)=((fe,t),(fe,t)):=F7 (by rw[Fr.refl];omega);refine G.c call14 (Uk (z:=1) oV oV) ?_;intro v4 u4 l4 k4;rw[show ((1:Int):Rat)=1 by decide +kernel]at k4;obtain⟨b4,a4,n4,c4,a4',n4',c4',rfl,_⟩:=k4.opn;refine G.callG _ _ kV kV call81 (g:=g1) (o:=o1) (by rw[Ac _ _ hne,Ab])
   (Mi (a:=(fe,t)) (g2:=some g2) (y1:=b) (y2:=(a5,n,c)) (y3:=b') (y4:=(a',n',c')) (s1.mono l4) k4 Oq.sb SB.zero (by rw[Ab0];exact Oq.sb)) ?_
  intro v5 u5 o1' l5 k5;refine G.c call14 (Uk (z:=1) oV oV) ?_;intro v6 u6 l6 k6;rw[show ((1:Int):Rat)=1 by decide +kernel]at k6;obtain⟨b6,a6,n6,c6,a6',n6',c6',rfl,_⟩:=k6.opn;refine G.callG _ _ kV kV call82 (g:=g2) (o:=o2) (by rw[Ac _ _ hne.symm,Ab])
   (Gv (p:=(fe,t)) (r:=(fe,t)) (g1:=some g1) (y1:=b) (y2:=(a5,n,c)) (y3:=b') (y4:=(a',n',c')) (((s2.mono l4).mono l5).mono l6) k6 Oq.sb (by rw[hpp];exact SB.zero) (by rw[hpp,Ab0];exact Oq.sb)) ?_
  intro v7 u7 o2' l7 k7;rw[Af2 hne];rw[hpp]at k7;exact G.r (.agg #[.bool b,.slice a5 n c,.bool b',.slice a' n' c',.map (some g1),.map (some g2)]) ⟨b,a5,n,c,b',a',n',c',g1,g2,_,_,rfl,(((k1.mono l4).mono l5).mono l6).mono l7,hne,rfl,((k5.mono l6).mono l7).congr fun k=>by rw[Ab0];rfl,k7.congr fun k=>by
   rw[Ab0];show (if k=((fe,t),(fe,t)) then (1:Rat) else 0)=if k=((fe,t),(fe,t)) then (1:Rat)*1 else 0
   rw[show (1:Rat)*1=1 by decide +kernel]⟩
 ·obtain⟨b,a5,n,c,b',a',n',c',g1,g2,rfl⟩:=Lu k3;refine G.q t [] ht ?_;rw[e];cases dr with
  |true =>
   refine G.drop PH.mt kV (PH.mt_le _) ?_;refine G.callO _ _ kV call30 (H4 (n:=0) oV oV) ?_;intro v4 u4 m4 l4 k4 _;obtain⟨b,a5,n,c,b',a',n',c',g1,g2,rfl⟩:=Lu k4;rw[C6];exact G.r (.agg #[.bool b,.slice a5 n c,.bool b',.slice a' n' c',.map (some g1),.map (some g2)]) (k4.congr n0 oV)
  |false =>
   exact G.r (.agg #[.bool b,.slice a5 n c,.bool b',.slice a' n' c',.map (some g1),.map (some g2)]) (k3.congr n1 oV)
 ·rw[e];obtain⟨b,a5,n,c,b',a',n',c',g1,g2,o1,o2,rfl,k1,hne,rfl,s1,s2⟩:=k3;refine G.w t [] ht ?_;have hpp:A5 (fe,[]) (fe,[])=((fe,[]),(fe,[])):=F7 (by rw[Fr.refl];omega);have hrd:=Tk (u:=u3) (q:=Vb t) (SB.tx q1.sb);rw[q2]at hrd;refine G.c call17 hrd ?_;intro v4 u4 l4 k4;obtain⟨b4,a4,n4,c4,a4',n4',c4',rfl,_⟩:=k4.opn;refine G.callG _ _ kV kV call81 (g:=g1) (o:=o1) (by rw[Ac _ _ hne,Ab])
   (Mi (a:=(fe,[])) (g2:=some g2) (y1:=b) (y2:=(a5,n,c)) (y3:=b') (y4:=(a',n',c')) (s1.mono l4) k4 q1.sb SB.zero (by rw[Ab0];exact q1.sb)) ?_
  intro v5 u5 o1' l5 k5;refine G.c call80 (G1 (k4.mono l5) (k4.mono l5) (SB.ten q1.sb) (SB.ten q1.sb)) ?_;intro v6 u6 l6 k6;refine G.callG _ _ kV kV call82 (g:=g2) (o:=o2) (by rw[Ac _ _ hne.symm,Ab])
   (Gv (p:=(fe,[])) (r:=(fe,[])) (g1:=some g1) (y1:=b) (y2:=(a5,n,c)) (y3:=b') (y4:=(a',n',c')) (((s2.mono l4).mono l5).mono l6) k6 q1.sb2 (by rw[hpp];exact SB.zero) (by rw[hpp,Ab0];exact q1.sb2)) ?_
  intro v7 u7 o2' l7 k7;rw[Af2 hne];rw[hpp]at k7;exact G.r (.agg #[.bool b,.slice a5 n c,.bool b',.slice a' n' c',.map (some g1),.map (some g2)]) ⟨b,a5,n,c,b',a',n',c',g1,g2,_,_,rfl,(((k1.mono l4).mono l5).mono l6).mono l7,hne,rfl,((k5.mono l6).mono l7).congr fun k=>by rw[Ab0];rfl,k7.congr fun k=>by rw[Ab0];rfl⟩
end
section
variable {u:PH}
theorem Iq.all {f:FuncId}{args:List Value}{F:CF}{N:Nat}(c:Ak prog f args u PH.mt fun v u' m'=>Iq m' u' v F N):Fn0 prog f args u fun v u'=>Pt u' v F N:=by
 refine Fn0.weak c.giveAll ?_;rintro v u' ⟨u1,m1,l1,l2,k⟩;exact k.give l1 l2
theorem Pt.up {u:PH}{v:Value}{F:CF}{N M:Nat}(h:Pt u v F N)(hN:N<=M):Pt u v F M:=by
 obtain⟨b,a,n,c,b',a',n',c',g1,g2,o1,o2,e,h1,h2,h3,h4,h5⟩:=h;exact⟨b,a,n,c,b',a',n',c',g1,g2,o1,o2,e,h1,h2,h3,h4.up hN,h5.up hN⟩
theorem Akq {v tv:Value}{T:List (List UInt8×Nat)}{R:List Ch}{F:List Aq}{lab:Int}{ss:List (List UInt8)}(h:Ahb u v tv T R F lab ss)(hT6:ss.length<=8) :
 Fn0 prog 33 [v,tv] u fun r u'=>Pt u' r (cfT F lab ss) 255/\CFS (cfT F lab ss):=by
 have hX:=h.sch;obtain⟨⟨xa,xc,xb,xd,xe,xf,rfl,hTL,hRL,hFL⟩,ok,hS,hT⟩:=h;obtain⟨ya,yc,rfl⟩:=hS.opn;rw[Ata]at hS⊢;have hsm:=Lo ok hT;have hlen:=hT.len;obtain⟨L,hL⟩:∃ L,L=E4 F lab ss:=⟨_,rfl⟩;have hcf:cfT F lab ss=Hf (CF.num 1) L:=by rw[hL];rfl
 rw[hcf];rw[<-hL]at hsm;have hLl:L.length=ss.length:=by rw[hL];exact Gj
 refine Fn0.o func33 ?_;refine G.c call30 (Iq.all (H4 (n:=1) oV oV)) ?_;intro v2 u2 l2 k2;have n1:(⟨((1:Int):Rat),fun _=>0,fun _=>0⟩:CF)=CF.num 1:=by rw[show ((1:Int):Rat)=1 by decide +kernel];rfl
 rw[n1]at k2;obtain⟨b,a,n,c,b',a',n',c',g1,g2,rfl⟩:=Pz k2;refine G.l (ι:=Nat×(Bool×SlI)×(Bool×SlI)×Nat×Nat) (fun i=>[(2,.p 0 0),(4,.p 1 0),(5,.p 1001 0),(9,sV ya ss.length yc),(10,iV ss.length),(11,iV i.1)])
  (fun i=>[(0,⟨30,[sV xa T.length xc,sV xb R.length xd,sV xe F.length xf,iV lab]⟩),(1,⟨92,[bV false,sV none 0 0,bV false,sV none 0 0,.v (.map none),.v (.map none)]⟩),(1001,⟨92,[bV i.2.1.1,sV i.2.1.2.1 i.2.1.2.2.1 i.2.1.2.2.2,bV i.2.2.1.1,sV i.2.2.1.2.1 i.2.2.1.2.2.1 i.2.2.1.2.2.2,.v (.map (some i.2.2.2.1)),.v (.map (some i.2.2.2.2))]⟩)])
  (fun i u' m'=>i.1<=ss.length/\Pt u' (.agg #[.bool i.2.1.1,.slice i.2.1.2.1 i.2.1.2.2.1 i.2.1.2.2.2,.bool i.2.2.1.1,.slice i.2.2.1.2.1 i.2.2.1.2.2.1 i.2.2.1.2.2.2,.map (some i.2.2.2.1),.map (some i.2.2.2.2)]) (Hf (CF.num 1) (L.take i.1)) (2^i.1-1)/\m'=PH.mt)
  (fun i=>ss.length-i.1) (0,(b,a,n,c),(b',a',n',c'),g1,g2) ⟨oV,k2,rfl⟩ ?_
 rintro J ⟨i,⟨b,a,n,c⟩,⟨b',a',n',c'⟩,g1,g2⟩ hJ u3 m3 l3 ⟨hi,hC,rfl⟩;simp only at hi hC hJ;have le3:=l2.trans l3;by_cases hil:i<ss.length
 ·refine G.lT (i:Int) (ss.length:Int) ?_;obtain⟨bb,off,rfl,e⟩:=Age (hS.mono le3) hil;refine G.a bb off ss.length yc i 1 hil ?_;refine G.lU none bb (off+i*1) (.string (mkS (ss.getD i []))) e ?_;have hgd:ss.getD i []=ss[i]:=by simp[List.getD_eq_getElem?_getD,As5 hil]
  have hTi:T[i]?=some T[i]:=As5 oV;have hLi:L[i]?=some (Ge F lab i (ss.getD i [])):=by rw[hL,hgd];exact Ii (As5 hil)
  have hLs:(Ge F lab i (ss.getD i [])).Small:=hsm _ (Ato hLi);have hv:=hT.val i _ _ hTi (As5 hil);rw[<-hgd]at hv;refine G.c call84 (Iq.all (Aeo (hX.mono le3) (ok.mono le3) hTi hv)) ?_;intro v4 u4 l4 k4;obtain⟨b4,a4,n4,c4,b4',a4',n4',c4',g41,g42,rfl⟩:=Pz k4;have h2i:2^i<=2^7:=Atq oV oV;have h1i:1<=2^i:=Nat.one_le_two_pow;obtain⟨g1',g2'⟩:=O0 hsm i oV;have hsnoc:Hf (CF.num 1) (L.take (i+1))=(Hf (CF.num 1) (L.take i)).mul (Ge F lab i (ss.getD i [])).cf:=by
   rw[List.take_add_one,hLi];exact Wi _ _ _
  refine G.c call83 (Iq.all (Amd (hC.mono l4) k4 (Asj g1' hLs.cfd oV (Ar6 oV) (Nat.pos_of_ne_zero mV) oV))) ?_;intro v5 u5 l5 k5;obtain⟨b5,a5,n5,c5,b5',a5',n5',c5',g51,g52,rfl⟩:=Pz k5;refine G.i i ?_;rw[<-hsnoc]at k5;exact G.b (hJ (i+1,(b5,a5,n5,c5),(b5',a5',n5',c5'),g51,g52) _ _ _ cV ((l3.trans l4).trans l5) ⟨dV,k5.up (by dsimp only;rw[Auc];omega),rfl⟩ dV)
 ·obtain rfl:i=ss.length:=oV
  refine G.lF (ss.length:Int) (ss.length:Int) ?_;have htk:L.take ss.length=L:=by rw[List.take_of_length_le oV]
  have hsR:CFS (Hf (CF.num 1) L):=by
   obtain⟨q1,_⟩:=O0 hsm L.length (Atb _);rw[At9]at q1;exact q1.cfs oV (As2 oV)
  rw[htk]at hC;have h2i:2^ss.length<=2^8:=Atq oV oV;exact G.r (.agg #[.bool b,.slice a n c,.bool b',.slice a' n' c',.map (some g1),.map (some g2)]) ⟨rfl,hC.up oV,hsR⟩
end
section
variable {u:PH}
theorem Qu {p:Par}(h:PV p):Fn0 prog 105 [A3 p] u fun v _=>v=.bool true:=by
 refine Fn0.o func105 ?_;refine G.hT' p.1 (-1) (by have:=h.lo;omega) ?_;by_cases hc:p.2 = []
 ·refine G.q p.2 [] hc ?_;exact G.r (.bool true) ⟨rfl,rfl⟩
 ·refine G.w p.2 [] hc ?_;refine G.c call78 (Pd (h.cat.resolve_left hc)) ?_;rintro v1 u1 l1 rfl;exact G.r (.bool true) ⟨rfl,rfl⟩
theorem ElP.par {b off:Nat}{x:Par×Rat}(h:ElP u b off (Bk x)):ElP u b (off+0) (.agg #[.int .i64 x.1.1,.string (mkS x.1.2)]):=h.sub fun i y hy=>by
 match i,hy with
 |0,hy=>simpa[Bk,Atw] using hy
 |1,hy=>simpa[Bk,Atw] using hy
 |i+2,hy=>simp[Atw]at hy
theorem Aes {v:Value}{F:CF}{K:Nat}(h:Lw u v F K)(sF:CFS F)(vF:CFV F)(hK:K<=1000000):Fn0 prog 44 [v] u fun r _=>r=.bool true:=by
 obtain⟨T,Q,a1,c1,a2,c2,rfl,hT,hQ,cT,cQ,kT,kQ⟩:=h;refine Fn0.o func44 ?_;refine G.c call59 (Hw (SB.tx sF.c)) ?_;rintro v1 u1 l1 rfl;refine G.l (ι:=Nat) (fun i=>[(1,.p 0 0),(12,sV a1 T.length c1),(13,iV T.length),(14,iV i)])
  (fun _=>[(0,⟨38,[tV (Ap F.c),sV a1 T.length c1,sV a2 Q.length c2]⟩)])
  (fun i u' m'=>i<=T.length/\m'=PH.mt) (fun i=>T.length-i) 0 ⟨oV,rfl⟩ ?_
 rintro J i hJ u2 m2 l2 ⟨hi,rfl⟩;have le2:=l1.trans l2;by_cases hlt:i<T.length
 ·refine G.lT (i:Int) (T.length:Int) ?_;obtain⟨x,hTi⟩:∃ x,T[i]?=some x:=⟨_,As5 hlt⟩;have hmem:=Ato hTi;obtain⟨hval,hne⟩:=cT.val _ hmem;obtain⟨ba,oa,rfl,ea⟩:=Ad.at' (hT.mono le2) (j:=i) (e:=Bk x) (by simp[hTi]);have hsq:SB x.2:=by rw[hval];exact sF.s _
  have hpv:PV x.1:=vF.s x.1 (by rw[<-hval];exact hne);refine G.a ba oa T.length c1 i 3 hlt ?_;refine G.lU (some 3) ba (oa+i*3) (.agg #[.int .i64 x.1.1,.string (mkS x.1.2),.string (mkS (Ap x.2))]) ea ?_;refine G.c call105 (Qu hpv) ?_;rintro v3 u3 l3 rfl;refine G.c call59 (Hw (SB.tx hsq)) ?_;rintro v4 u4 l4 rfl;refine G.w (Ap x.2) [48] (Ur hne) ?_;by_cases h0:i=0
  ·subst h0;refine G.gF ((0:Nat):Int) 0 ?_;refine G.p ((0:Nat):Int) 1 ((0+1:Nat):Int) ?_;exact G.b (hJ (0+1) _ _ _ cV ((l2.trans l3).trans l4) ⟨oV,rfl⟩ oV)
  ·refine G.gT (i:Int) 0 ?_;refine G.s (i:Int) 1 ((i-1:Nat):Int) ?_;obtain⟨y,hTy⟩:∃ y,T[i-1]?=some y:=⟨_,As5 oV⟩;have hsrt:Bd y.1 x.1<0:=by
    have hp:=cT.srt;obtain⟨h1,rfl⟩:=Atc.1 hTi;obtain⟨h2,rfl⟩:=Atc.1 hTy;have:=Avr.1 hp (i-1) i (by rw[Ata];omega) (by rw[Ata];omega) oV;rw[Awp,Awp]at this;exact this
   obtain⟨bb,ob,e1,eb⟩:=Ad.at' (hT.mono ((le2.trans l3).trans l4)) (j:=i-1) (e:=Bk y) (by simp[hTy]);cases e1;refine G.a ba oa T.length c1 (i-1) 3 oV ?_;refine G.f 116 ba (oa+(i-1)*3) 0 0 ?_;refine G.lU (some 2) ba (oa+(i-1)*3+0) (.agg #[.int .i64 y.1.1,.string (mkS y.1.2)]) eb.par ?_;refine G.c call86 (Ga y.1 x.1 true (decide_eq_true hsrt)) ?_;rintro v5 u5 l5 rfl;refine G.i i ?_;exact G.b (hJ (i+1) _ _ _ cV (((l2.trans l3).trans l4).trans l5) ⟨oV,rfl⟩ oV)
 obtain rfl:i=T.length:=oV
 refine G.lF (T.length:Int) (T.length:Int) ?_;clear hJ;refine G.l (ι:=Nat) (fun i=>[(1,.p 0 0),(53,sV a2 Q.length c2),(54,iV Q.length),(55,iV i)])
  (fun _=>[(0,⟨38,[tV (Ap F.c),sV a1 T.length c1,sV a2 Q.length c2]⟩)])
  (fun i u' m'=>i<=Q.length/\m'=PH.mt) (fun i=>Q.length-i) 0 ⟨oV,rfl⟩ ?_
 rintro J i hJ u3 m3 l3 ⟨hi,rfl⟩;have le3:=le2.trans l3;by_cases hlt:i<Q.length
 ·refine G.lT (i:Int) (Q.length:Int) ?_;obtain⟨x,hQi⟩:∃ x,Q[i]?=some x:=⟨_,As5 hlt⟩;have hmem:=Ato hQi;obtain⟨hval,hne⟩:=cQ.val _ hmem;obtain⟨ba,oa,rfl,ea⟩:=Ad.at' (hQ.mono le3) (j:=i) (e:=D0 x) (by simp[hQi]);have hsq:SB x.2:=by rw[hval];exact sF.t _
  obtain⟨hp1,hp2,hord⟩:=vF.t x.1 (by rw[<-hval];exact hne);refine G.a ba oa Q.length c2 i 5 hlt ?_;refine G.lU (some 5) ba (oa+i*5) (.agg #[.int .i64 x.1.1.1,.string (mkS x.1.1.2),.int .i64 x.1.2.1,.string (mkS x.1.2.2),.string (mkS (Ap x.2))]) ea ?_;refine G.c call105 (Qu hp1) ?_;rintro v3 u4 l4 rfl;refine G.c call105 (Qu hp2) ?_;rintro v4 u5 l5 rfl;refine G.c call86 (Ga x.1.2 x.1.1 false (decide_eq_false fun e=>hord ((Fr.sym _ _).1 e))) ?_;rintro v5 u6 l6 rfl;refine G.c call59 (Hw (SB.tx hsq)) ?_;rintro v6 u7 l7 rfl;refine G.w (Ap x.2) [48] (Ur hne) ?_;by_cases h0:i=0
  ·subst h0;refine G.gF ((0:Nat):Int) 0 ?_;refine G.p ((0:Nat):Int) 1 ((0+1:Nat):Int) ?_;exact G.b (hJ (0+1) _ _ _ cV ((((l3.trans l4).trans l5).trans l6).trans l7) ⟨oV,rfl⟩ oV)
  ·refine G.gT (i:Int) 0 ?_;refine G.s (i:Int) 1 ((i-1:Nat):Int) ?_;obtain⟨y,hQy⟩:∃ y,Q[i-1]?=some y:=⟨_,As5 oV⟩;have hsrt:L1 y.1 x.1<0:=by
    have hp:=cQ.srt;obtain⟨h1,rfl⟩:=Atc.1 hQi;obtain⟨h2,rfl⟩:=Atc.1 hQy;have:=Avr.1 hp (i-1) i (by rw[Ata];omega) (by rw[Ata];omega) oV;rw[Awp,Awp]at this;exact this
   obtain⟨bb,ob,e1,eb⟩:=Ad.at' (hQ.mono ((((le3.trans l4).trans l5).trans l6).trans l7)) (j:=i-1) (e:=D0 y) (by simp[hQy]);cases e1;refine G.a ba oa Q.length c2 (i-1) 5 oV ?_;refine G.lU (some 5) ba (oa+(i-1)*5) (D0 y) eb ?_;refine G.c call87 (Nn y x true (decide_eq_true hsrt)) ?_;rintro v5 u8 l8 rfl;refine G.i i ?_;exact G.b (hJ (i+1) _ _ _ cV (((((l3.trans l4).trans l5).trans l6).trans l7).trans l8) ⟨oV,rfl⟩ oV)
 obtain rfl:i=Q.length:=oV
 refine G.lF (Q.length:Int) (Q.length:Int) ?_;exact G.r (.bool true) ⟨rfl,rfl⟩
end
theorem Src.h0or (s:Src)(k k':Nat)(n0:PH)(g:Nat):s.M k g=none\/(n0.or (s.M k')) g≠none:=by
 rcases s.h0 k k' g with e|e
 ·grind
 ·right;intro h;cases hx:n0 g with
  |some o=>rw[PH.or_l hx]at h;cases h
  |none=>rw[PH.or_r hx]at h;exact e h
theorem And {m:PH}{a b c d:Arr}(h:Bag m [a,b,c,d]):Bag m [a,c,d]:=by
 have h1:Bag m [a,c,d,b]:=Bag.perm (A0g a ((A0h c b [d]).trans (A0g c (A0h d b [])))) h;obtain⟨p0,q0,p1,q1,p2,q2,_⟩:=h1;exact⟨p0,q0,p1,q1,p2,q2,trivial⟩
theorem Aqw {x:Int}(h:x∈[1,2,2,(3:Int)]):∃ n:Nat,x=(n:Int)/\1<=n/\n<=3:=by
 simp at h;rcases h with rfl|rfl|rfl
 ·exact⟨1,rfl,oV,oV⟩
 ·exact⟨2,rfl,oV,oV⟩
 ·exact⟨3,rfl,oV,oV⟩
theorem Aa4 {u:PH}{s:Src}{ts:List Int}{k:Nat}(most:Nat)(hm1:1<=most)(hm6:most<=6)(h:Li u s ts)(hk:k<=s.n) :
 Ak prog 23 [s.ptr,.int .i64 (most:Int)] u (s.M k) fun v u' m'=>∃ (T:List (List UInt8×Nat)) (R:List Ch) (F:List Aq) (lab:Int) (k':Nat),Ir u' v T R F lab/\Bz u' T R F lab/\T.length<=6/\k'<=s.n/\m'=s.M k'/\TOK T/\T.length<=most/\F.length<=most:=by
 refine Ak.o func23 ?_;refine G.A call74 (Aia (lo:=1) (hi:=3) (n:=3) h hk oV oV oV oV oV) ?_;rintro v1 u1 m1 l1 ⟨r,k1,rfl,hr,hk1,rfl⟩ _;rw[C6];obtain⟨n,hn⟩:∃ n:Nat,(1:Int)+(r:Int)=(n:Int):=⟨1+r,oV⟩;rw[hn];refine G.l (ι:=Nat×Nat×List (List UInt8×Nat)×(Option Addr×Nat)×List Ch×(Option Addr×Nat)) (fun i=>[(0,.v s.ptr),(1,iV most),(4,.p 0 0),(5,.p 1001 0),(6,iV n),(7,iV i.1)])
  (fun i=>[(0,⟨30,[sV none 0 0,sV none 0 0,sV none 0 0,iV 0]⟩),(1001,⟨30,[sV i.2.2.2.1.1 i.2.2.1.length i.2.2.2.1.2,sV i.2.2.2.2.2.1 i.2.2.2.2.1.length i.2.2.2.2.2.2,sV none 0 0,iV (-1)]⟩)])
  (fun i u' m'=>i.1<=n/\i.2.1<=s.n/\TOM most i.2.2.1/\ROK u' i.2.2.1.length i.2.2.2.2.1/\i.2.2.2.2.1.length=i.1/\(0<i.1->0<i.2.2.1.length)/\Bag m' [s.arr i.2.1,Y1 i.2.2.2.1.1 i.2.2.2.1.2 i.2.2.1,Vs i.2.2.2.2.2.1 i.2.2.2.2.2.2 i.2.2.2.2.1])
  (fun i=>n-i.1) (0,k1,[],(none,0),[],(none,0))
  ⟨Atu _,hk1,TOM.nil most,ROK.nil,rfl,fun h=>absurd h mV,s.bag0 k1 ⟨PH.mt,Ae.nil _ _ _,PH.mt,Ae.nil _ _ _,trivial⟩⟩ ?_
 rintro J ⟨i,k2,T,⟨ta,tc⟩,R,⟨ra,rc⟩⟩ hJ u2 m2 l2 ⟨hi,hk2,hT,hR,hRl,h0,hbag⟩;simp only at hi hk2 hT hR hRl h0 hbag hJ;subst hRl;have le2:=l1.trans l2;have hT6:=hT.le;by_cases hlt:R.length<n
 ·refine G.lT (R.length:Int) (n:Int) ?_;refine G.l (ι:=Nat×Nat×List Nat×(Option Addr×Nat)) (fun i=>[(0,.v s.ptr),(1,iV most),(4,.p 0 0),(5,.p 1001 0),(6,iV n),(7,iV R.length),(8,sV i.2.2.2.1 i.2.2.1.length i.2.2.2.2),(23,iV T.length),(24,iV i.1)])
   (fun i=>[(0,⟨30,[sV none 0 0,sV none 0 0,sV none 0 0,iV 0]⟩),(1001,⟨30,[sV ta T.length tc,sV ra R.length rc,sV none 0 0,iV (-1)]⟩)])
   (fun i u' m'=>i.1<=T.length/\i.2.1<=s.n/\LOK i.2.2.1 i.1/\Bag m' [s.arr i.2.1,Abj i.2.2.2.1 i.2.2.2.2 i.2.2.1,Y1 ta tc T,Vs ra rc R])
   (fun i=>T.length-i.1) (0,k2,[],(none,0))
   ⟨Atu _,hk2,LOK.nil,by obtain⟨m0,hs0,hL⟩:=hbag;exact⟨m0,hs0,m0,Ae.nil _ _ _,hL⟩⟩ ?_
  rintro J1 ⟨j,k3,l,⟨la,lc⟩⟩ hJ1 u3 m3 l3 ⟨hj,hk3,hl,hbag3⟩;simp only at hj hk3 hl hbag3 hJ1;have hll:=hl.len;by_cases hltj:j<T.length
  ·refine G.lT (j:Int) (T.length:Int) ?_;obtain⟨n4,hsrc4,hL4⟩:=hbag3;obtain⟨rfl,hg4⟩:=Src.split hsrc4;refine G.D call26 (Src.apart hg4) (Ka (n:=3) (h.mono (le2.trans l3)) hk3 oV oV) ?_;rintro v4 u4 m4 l4 ⟨r4,k4,rfl,hr4,hk4,rfl⟩ _;have hbag4:Bag _ [s.arr k4,Abj la lc l,Y1 ta tc T,Vs ra rc R]:=⟨_,Src.at hg4,hL4⟩;by_cases hr0:r4=0
   ·refine G.eT (r4:Int) 0 ?_;refine G.B 3 1 8 (.int .i64 0) [.int .i64 (j:Int)] (Az [j]) ?_;intro g6 u6 l6 e6;obtain⟨mm6,hx6,hput6⟩:=hbag4.focus 1 rfl;rw[Zi]at hx6;refine G.append 3 1 8 (.int .i64 0) mm6 (Ah l) [.int .i64 (j:Int)] (.slice la l.length lc) g6 0 1 1 kV rfl rfl oV hx6 e6 (Az [j]) rfl oV (by simp[Ah];omega) (by simp[Ah];omega) ?_;intro w6 mn6 hy6;rw[Cq]at hy6;obtain⟨a6,c6,rfl⟩:=hy6.shape;rw[Ag]at hy6⊢;have hbag6:=hput6 (Abj a6 c6 (l++[j])) mn6 hy6;simp only[Avi,Avj]at hbag6;refine G.i j ?_;exact G.b (hJ1 (j+1,k4,l++[j],(a6,c6)) _ _ _ cV ((l3.trans l4).trans l6) ⟨dV,hk4,hl.snoc,hbag6⟩ dV)
   ·refine G.eF (r4:Int) 0 ?_;refine G.i j ?_;exact G.b (hJ1 (j+1,k4,l,(la,lc)) _ _ _ cV (l3.trans l4) ⟨dV,hk4,hl.up,hbag4⟩ dV)
  ·obtain rfl:j=T.length:=oV
   refine G.lF (T.length:Int) (T.length:Int) ?_;obtain⟨n4,hsrc4,hL4⟩:=hbag3;obtain⟨rfl,hg4⟩:=Src.split hsrc4;refine G.D call26 (Src.apart hg4) (Ka (n:=3) (h.mono (le2.trans l3)) hk3 oV oV) ?_;rintro v4 u4 m4 l4 ⟨r4,k4,rfl,hr4,hk4,rfl⟩ _;have hbag4:Bag _ [s.arr k4,Abj la lc l,Y1 ta tc T,Vs ra rc R]:=⟨_,Src.at hg4,hL4⟩;refine G.l (ι:=Int×Nat×List Nat×(Option Addr×Nat)×List (List UInt8×Nat)×(Option Addr×Nat)) (fun i=>[(0,.v s.ptr),(1,iV most),(4,.p 0 0),(5,.p 1001 0),(6,iV n),(7,iV R.length),(8,sV i.2.2.2.1.1 i.2.2.1.length i.2.2.2.1.2),(10,iV i.1)])
    (fun i=>[(0,⟨30,[sV none 0 0,sV none 0 0,sV none 0 0,iV 0]⟩),(1001,⟨30,[sV i.2.2.2.2.2.1 i.2.2.2.2.1.length i.2.2.2.2.2.2,sV ra R.length rc,sV none 0 0,iV (-1)]⟩)])
    (fun i u' m'=>i.2.1<=s.n/\(i.2.2.1 = []->0<=i.1)/\-1<=i.1/\i.1<=2/\T.length<=i.2.2.2.2.1.length/\TOM most i.2.2.2.2.1/\LOK i.2.2.1 i.2.2.2.2.1.length/\(∀ a,T.length<=a->a<i.2.2.2.2.1.length->a∈i.2.2.1)/\Bag m' [s.arr i.2.1,Abj i.2.2.2.1.1 i.2.2.2.1.2 i.2.2.1,Y1 i.2.2.2.2.2.1 i.2.2.2.2.2.2 i.2.2.2.2.1,Vs ra rc R])
    (fun i=>(i.1+1).toNat) ((r4:Int),k4,l,(la,lc),T,(ta,tc))
    ⟨hk4,fun _=>dV,dV,dV,Atb _,hT,hl,fun a h1 h2=>by dsimp only at h2;omega,hbag4⟩ ?_
   rintro J2 ⟨z,k5,l5,⟨la5,lc5⟩,T5,⟨ta5,tc5⟩⟩ hJ2 u5 m5 l5' ⟨hk5,hz0,hz1,hz2,hTle5,hT5,hl5,hall5,hbag5⟩;simp only at hk5 hz0 hz1 hz2 hTle5 hT5 hl5 hall5 hbag5 hJ2;have hT56:=hT5.le;have hl56:=hl5.len;have le5:=((le2.trans l3).trans l4).trans l5';have lo5:=(l3.trans l4).trans l5';refine dite (0<z) (fun hz=>?zp) (fun hz=>?zn)
   case' zp =>
    refine G.gT z 0 ?_;refine dite (T5.length<most) (fun hlen=>?g1) (fun hlen=>?l1)
   case' g1=>refine G.lT (T5.length:Int) (most:Int) ?_
   case' l1 =>
    refine G.lF (T5.length:Int) (most:Int) ?_;refine dite (l5 = []) (fun hemp=>?e1) (fun hemp=>?n1)
   case' n1=>have hpos:0<T5.length:=oV
   case' zn =>
    refine G.gF z 0 ?_;refine dite (l5 = []) (fun hemp=>?y2) (fun hemp=>?n2)
   case' y2 =>
    have hz':=hz0 hemp;have hle0:l5.length=0:=by rw[hemp];rfl
    refine G.eT (l5.length:Int) 0 ?_;refine dite (T5.length<most) (fun hlen=>?g2) (fun hlen=>?e2)
   case' g2=>refine G.lT (T5.length:Int) (most:Int) ?_
   case' e2=>refine G.lF (T5.length:Int) (most:Int) ?_
   case' n2 =>
    have hle0:0<l5.length:=Avq.2 hemp;refine G.eF (l5.length:Int) 0 ?_;have hpos:0<T5.length:=by
     obtain⟨x,hx⟩:=List.exists_mem_of_ne_nil _ hemp;have:=hl5.lt x hx;omega
   case g1|g2 =>
    refine G.B 3 1 8 (.int .i64 0) [.int .i64 (T5.length:Int)] (Az [T5.length]) ?_;intro g21 u21 l21 e21;obtain⟨mm21,hx21,hput21⟩:=hbag5.focus 1 rfl;rw[Zi]at hx21;refine G.append 3 1 8 (.int .i64 0) mm21 (Ah l5) [.int .i64 (T5.length:Int)] (.slice la5 l5.length lc5) g21 0 1 1 kV rfl rfl oV hx21 e21 (Az [T5.length]) rfl oV (by simp[Ah];omega) (by simp[Ah];omega) ?_;intro w21 mn21 hy21;rw[Cq]at hy21;obtain⟨a21,c21,rfl⟩:=hy21.shape;rw[Ag]at hy21⊢;have hbag21:=hput21 (Abj a21 c21 (l5++[T5.length])) mn21 hy21;simp only[Avi,Avj]at hbag21;refine G.both [0,1,2,3,4,6] 5 7 [8,9,10,11,12,13] kV ?_ ?_;refine G.c call75 (O1 (p:=[97]) (i:=T5.length) oV mV) ?_;rintro v22 u22 l22 rfl;refine G.B 3 1 8 (.int .i64 0) [.int .i64 1,.int .i64 2,.int .i64 2,.int .i64 3] (Lv [1,2,2,3]) ?_;intro g23 u23 l23 e23;have le23:=(((le5).trans l21).trans l22).trans l23;have lq23:=l22.trans l23;have e23p:=e23.listP
    rotate_left
    refine G.B 3 1 8 (.int .i64 0) [.int .i64 1,.int .i64 2,.int .i64 2,.int .i64 3] (Lv [1,2,2,3]) ?_;intro g23 u23 l23 e23;refine G.c call75 (O1 (p:=[97]) (i:=T5.length) oV mV) ?_;rintro v22 u22 l22 rfl;have le23:=(((le5).trans l21).trans l23).trans l22;have lq23:=l23.trans l22;have e23p:=e23.listP.mono l22;all_goals
     obtain⟨n24,hsrc24,hL24⟩:=hbag21;obtain⟨rfl,hg24⟩:=Src.split hsrc24;refine G.D call28 (Src.apart hg24) (Zn (L:=[1,2,2,3]) (h.mono le23) hk5 e23p mV mV) ?_;rintro v24 u24 m24 l24 ⟨kd,hkd,k24,rfl,hk24,rfl⟩ _;obtain⟨kn,rfl,hkn1,hkn3⟩:=Aqw hkd;have hbag24:Bag (n24.or (s.M k24)) [s.arr k24,Abj a21 c21 (l5++[T5.length]),Y1 ta5 tc5 T5,Vs ra rc R]:=⟨n24,Src.at hg24,hL24⟩;refine G.B 77 2 24 (.agg #[.string (mkS []),.int .i64 0]) [.agg #[.string (mkS (nmA T5.length)),.int .i64 (kn:Int)]] (Ago (nmA T5.length,kn)) ?_;intro g25 u25 l25 e25;obtain⟨mm25,hx25,hput25⟩:=hbag24.focus 2 rfl;rw[Am9]at hx25;refine G.append 77 2 24 (.agg #[.string (mkS []),.int .i64 0]) mm25 (T5.map Ej) [.agg #[.string (mkS (nmA T5.length)),.int .i64 (kn:Int)]] (.slice ta5 T5.length tc5) g25 0 1 1 kV rfl rfl oV hx25 e25 (Ago (nmA T5.length,kn)) rfl oV (by simp[Ah];omega) (by simp[Ah];omega) ?_;intro w25 mn25 hy25;rw[show T5.map Ej++[.agg #[.string (mkS (nmA T5.length)),.int .i64 (kn:Int)]]=(T5++[(nmA T5.length,kn)]).map Ej by rw[Atk];rfl]at hy25;obtain⟨a25,c25,rfl⟩:=hy25.shape;rw[Ata]at hy25⊢;have hbag25:=hput25 (Y1 a25 c25 (T5++[(nmA T5.length,kn)])) mn25 hy25;simp only[Avi,Avj]at hbag25;refine G.s z 1 (z-1) ?_;exact G.b (hJ2 (z-1,k24,l5++[T5.length],(a21,c21),T5++[(nmA T5.length,kn)],(a25,c25)) _ _ _ cV ((((l5'.trans l21).trans lq23).trans l24).trans l25) ⟨hk24,fun e=>by simp at e,dV,dV,by dsimp only;rw[Atg];omega,hT5.snocm hkn1 hkn3 oV hm6,by dsimp only;rw[Atg];exact hl5.snoc,fun a h1 h2=>by
      dsimp only at h2⊢;rw[Atg,Aux]at h2;rcases At8 a T5.length with e|e
      ·exact Avn _ (hall5 a h1 e)
      ·exact List.mem_append_right _ (Aub.2 oV),hbag25⟩ dV)
   case e1|e2 =>
    subst hemp;refine G.eT' (([]:List Nat).length:Int) 0 mV ?_;refine G.B 3 1 8 (.int .i64 0) [.int .i64 ((0:Nat):Int)] (Az [0]) ?_;intro g26 u26 l26 e26;have hl26:Ad u26 (.slice (some ⟨g26,0,none⟩) 1 1) 1 (Ah [0]):=e26.listP;have hbag26:=And hbag5;refine G.c call75 (O1 (p:=[114]) (i:=R.length) oV mV) ?_;rintro v27 u27 l27 rfl;refine G.B 155 2 40 (.agg #[.string (mkS []),.slice none 0 0]) [.agg #[.string (mkS (nmR R.length)),.slice (some ⟨g26,0,none⟩) 1 1]] (O6 (nmR R.length,[0],((some (⟨g26,0,none⟩:Addr)),1))) ?_;intro g28 u28 l28 e28;obtain⟨mm28,hx28,hput28⟩:=hbag26.focus 2 rfl;rw[Afy]at hx28;refine G.append 155 2 40 (.agg #[.string (mkS []),.slice none 0 0]) mm28 (R.map Gw) [.agg #[.string (mkS (nmR R.length)),.slice (some ⟨g26,0,none⟩) 1 1]] (.slice ra R.length rc) g28 0 1 1 kV rfl rfl oV hx28 e28 (O6 (nmR R.length,[0],((some (⟨g26,0,none⟩:Addr)),1))) rfl oV (by simp[Ah];omega) (by simp[Ah];omega) ?_;intro w28 mn28 hy28;rw[show R.map Gw++[.agg #[.string (mkS (nmR R.length)),.slice (some ⟨g26,0,none⟩) 1 1]]=(R++[(nmR R.length,[0],((some (⟨g26,0,none⟩:Addr)),1))]).map Gw by rw[Atk];rfl]at hy28;obtain⟨a28,c28,rfl⟩:=hy28.shape;rw[Ata]at hy28⊢;have hbag28:=hput28 (Vs a28 c28 (R++[(nmR R.length,[0],((some (⟨g26,0,none⟩:Addr)),1))])) mn28 hy28;simp only[Avi,Avj]at hbag28;refine G.p (R.length:Int) 1 ((R.length+1:Nat):Int) ?_;have hR28:ROK u28 T5.length (R++[(nmR R.length,[0],((some (⟨g26,0,none⟩:Addr)),1))]):=by
     refine (hR.mono (lo5 |>.trans l26 |>.trans l27 |>.trans l28)).snoc hTle5 (LOK.zero oV) mV (fun a h1 h2=>?_) (hl26.mono (l27.trans l28));exact absurd (hall5 a h1 h2) mV
    exact G.b (hJ (R.length+1,k5,T5,(ta5,tc5),R++[(nmR R.length,[0],((some (⟨g26,0,none⟩:Addr)),1))],(a28,c28)) _ _ _ cV (l2.trans (lo5 |>.trans l26 |>.trans l27 |>.trans l28)) ⟨dV,hk5,hT5,hR28,mV,fun _=>dV,hbag28⟩ dV)
   case n1|n2 =>
    have hl0:0<l5.length:=Avq.2 hemp;refine G.eF (l5.length:Int) 0 ?_;obtain⟨mL,hxl,hrest⟩:=hbag5.take 1 rfl;have hbag26:Bag mL [s.arr k5,Y1 ta5 tc5 T5,Vs ra rc R]:=hrest;rw[Zi]at hxl;refine G.give mL (Ah l5) (.slice la5 l5.length lc5) kV hxl (fun g=>?_) ?_
    ·obtain⟨n26,hs26,_⟩:=hbag26;obtain⟨rfl,_⟩:=Src.split hs26;exact s.h0or k k5 n26 g
    intro u26 l26 hl26;refine G.c call75 (O1 (p:=[114]) (i:=R.length) oV mV) ?_;rintro v27 u27 l27 rfl;refine G.B 155 2 40 (.agg #[.string (mkS []),.slice none 0 0]) [.agg #[.string (mkS (nmR R.length)),.slice la5 l5.length lc5]] (O6 (nmR R.length,l5,(la5,lc5))) ?_;intro g28 u28 l28 e28;obtain⟨mm28,hx28,hput28⟩:=hbag26.focus 2 rfl;rw[Afy]at hx28;refine G.append 155 2 40 (.agg #[.string (mkS []),.slice none 0 0]) mm28 (R.map Gw) [.agg #[.string (mkS (nmR R.length)),.slice la5 l5.length lc5]] (.slice ra R.length rc) g28 0 1 1 kV rfl rfl oV hx28 e28 (O6 (nmR R.length,l5,(la5,lc5))) rfl oV (by simp[Ah];omega) (by simp[Ah];omega) ?_;intro w28 mn28 hy28;rw[show R.map Gw++[.agg #[.string (mkS (nmR R.length)),.slice la5 l5.length lc5]]=(R++[(nmR R.length,l5,(la5,lc5))]).map Gw by rw[Atk];rfl]at hy28;obtain⟨a28,c28,rfl⟩:=hy28.shape;rw[Ata]at hy28⊢;have hbag28:=hput28 (Vs a28 c28 (R++[(nmR R.length,l5,(la5,lc5))])) mn28 hy28;simp only[Avi,Avj]at hbag28;refine G.p (R.length:Int) 1 ((R.length+1:Nat):Int) ?_;have hR28:ROK u28 T5.length (R++[(nmR R.length,l5,(la5,lc5))]):=by
     exact (hR.mono (lo5 |>.trans l26 |>.trans l27 |>.trans l28)).snoc hTle5 hl5 hemp hall5 (hl26.mono (l27.trans l28))
    exact G.b (hJ (R.length+1,k5,T5,(ta5,tc5),R++[(nmR R.length,l5,(la5,lc5))],(a28,c28)) _ _ _ cV (l2.trans (lo5 |>.trans l26 |>.trans l27 |>.trans l28)) ⟨dV,hk5,hT5,hR28,mV,fun _=>dV,hbag28⟩ dV)
 obtain rfl:R.length=n:=oV
 refine G.lF (R.length:Int) (R.length:Int) ?_;have hTpos:=h0 oV;obtain⟨n0,hsrc,hL⟩:=hbag;obtain⟨rfl,hg0⟩:=Src.split hsrc;refine G.giveP (ma:=n0) (sm:=s.M k2) kV rfl (Src.apart hg0) (s.h0 k k2) ?_;intro u3 l3 hm3;have hAL:Ad u3 (.slice ta T.length tc) 2 (T.map Ej):=hL.list hm3 0 rfl;have hRL:Ad u3 (.slice ra R.length rc) 2 (R.map Gw):=hL.list hm3 1 rfl;refine G.l (ι:=Nat×Nat×List Aq×(Option Addr×Nat)×Int) (fun i=>[(0,.v s.ptr),(4,.p 0 0),(5,.p 1001 0),(86,sV ta T.length tc),(87,iV T.length),(88,iV i.1)])
  (fun i=>[(0,⟨30,[sV none 0 0,sV none 0 0,sV none 0 0,iV 0]⟩),(1001,⟨30,[sV ta T.length tc,sV ra R.length rc,sV i.2.2.2.1.1 i.2.2.1.length i.2.2.2.1.2,iV i.2.2.2.2]⟩)])
  (fun i u' m'=>i.1<=T.length/\i.2.1<=s.n/\FOK T i.2.2.1 i.2.2.2.2 i.1/\Bag m' [s.arr i.2.1,Uv i.2.2.2.1.1 i.2.2.2.1.2 i.2.2.1])
  (fun i=>T.length-i.1) (0,k2,[],(none,0),-1)
  ⟨Atu _,hk2,FOK.nil,s.bag0 k2 ⟨PH.mt,Ae.nil _ _ _,trivial⟩⟩ ?_
 rintro J1 ⟨a,k3,F,⟨fa,fc⟩,lab⟩ hJ1 u4 m4 l4 ⟨ha,hk3,hF,hbag4⟩;simp only at ha hk3 hF hbag4 hJ1;have le4:=(le2.trans l3).trans l4;have hFl:=hF.len;by_cases hlt2:a<T.length
 ·refine G.lT (a:Int) (T.length:Int) ?_;have hTa:T[a]?=some T[a]:=As5 hlt2;have hkd:=hT.kd _ (List.getElem_mem hlt2);obtain⟨ba,oa,rfl,ea⟩:=Ad.at' (hAL.mono l4) (j:=a) (e:=Ej T[a]) (by simp[hTa]);generalize T[a]=x at hTa hkd ea;obtain⟨nm,kd⟩:=x;simp only at hkd;refine G.a ba oa T.length tc a 2 hlt2 ?_;refine G.lU (some 2) ba (oa+a*2) (.agg #[.string (mkS nm),.int .i64 (kd:Int)]) ea ?_;by_cases hk2':kd=2
  ·subst hk2';refine G.eT ((2:Nat):Int) 2 ?_;by_cases hlab:lab<0
   ·refine G.lT lab 0 ?_;obtain⟨n5,hsrc5,hL5⟩:=hbag4;obtain⟨rfl,hg5⟩:=Src.split hsrc5;refine G.D call26 (Src.apart hg5) (Ka (n:=2) (h.mono le4) hk3 oV oV) ?_;rintro v5 u5 m5 l5 ⟨r5,k5,rfl,hr5,hk5,rfl⟩ _;have hbag5:Bag _ [s.arr k5,Uv fa fc F]:=⟨_,Src.at hg5,hL5⟩;by_cases hr0:r5=0
    ·refine G.eT (r5:Int) 0 ?_;refine G.i a ?_;exact G.b (hJ1 (a+1,k5,F,(fa,fc),(a:Int)) _ _ _ cV (l4.trans l5) ⟨dV,hk5,hF.lab hTa,hbag5⟩ dV)
    ·refine G.eF (r5:Int) 0 ?_;refine G.eT ((2:Nat):Int) 2 ?_;have hg11:=hg5;have hL11:=hL5;refine G.D call26 (Src.apart hg11) (Ka (n:=4) (h.mono (le4.trans l5)) hk5 oV oV) ?_;rintro v11 u11 m11 l11 ⟨r11,k11,rfl,hr11,hk11,rfl⟩ _;have hbag11:Bag _ [s.arr k11,Uv fa fc F]:=⟨_,Src.at hg11,hL11⟩;by_cases hr1:0<r11
     ·refine G.gT (r11:Int) 0 ?_;have hg12:=hg11;have hL12:=hL11;refine G.D call26 (Src.apart hg12) (Ka (n:=2) (h.mono ((le4.trans l5).trans l11)) hk11 oV oV) ?_;rintro v12 u12 m12 l12 ⟨r12,k12,rfl,hr12,hk12,rfl⟩ _;have hbag12:Bag _ [s.arr k12,Uv fa fc F]:=⟨_,Src.at hg12,hL12⟩;refine G.B 82 3 24 (.agg #[.int .i64 0,.int .i64 0,.int .i64 0]) [.agg #[.int .i64 (a:Int),.int .i64 ((1:Nat):Int),.int .i64 (r12:Int)]] (Id (a,1,r12)) ?_;intro g13 u13 l13 e13;obtain⟨mm13,hx13,hput13⟩:=hbag12.focus 1 rfl;rw[Yq]at hx13;refine G.append 82 3 24 (.agg #[.int .i64 0,.int .i64 0,.int .i64 0]) mm13 (F.map Ce) [.agg #[.int .i64 (a:Int),.int .i64 ((1:Nat):Int),.int .i64 (r12:Int)]] (.slice fa F.length fc) g13 0 1 1 kV rfl rfl oV hx13 e13 (Id (a,1,r12)) rfl oV (by simp[Ah];omega) (by simp[Ah];omega) ?_;intro w13 mn13 hy13;rw[show F.map Ce++[.agg #[.int .i64 (a:Int),.int .i64 ((1:Nat):Int),.int .i64 (r12:Int)]]=(F++[(a,1,r12)]).map Ce by rw[Atk];rfl]at hy13;obtain⟨a13,c13,rfl⟩:=hy13.shape;rw[Ata]at hy13⊢;have hbag13:=hput13 (Uv a13 c13 (F++[(a,1,r12)])) mn13 hy13;simp only[Avi,Avj]at hbag13;refine G.i a ?_;exact G.b (hJ1 (a+1,k12,F++[(a,1,r12)],(a13,c13),lab) _ _ _ cV ((((l4.trans l5).trans l11).trans l12).trans l13) ⟨dV,hk12,hF.put hTa (.inl ⟨rfl,rfl,oV⟩),hbag13⟩ dV)
     ·refine G.gF (r11:Int) 0 ?_;refine G.eF ((2:Nat):Int) 3 ?_;refine G.i a ?_;exact G.b (hJ1 (a+1,k11,F,(fa,fc),lab) _ _ _ cV ((l4.trans l5).trans l11) ⟨dV,hk11,hF.skip,hbag11⟩ dV)
   ·refine G.lF lab 0 ?_;refine G.eT ((2:Nat):Int) 2 ?_;obtain⟨n11,hsrc11,hL11⟩:=hbag4;obtain⟨rfl,hg11⟩:=Src.split hsrc11;refine G.D call26 (Src.apart hg11) (Ka (n:=4) (h.mono le4) hk3 oV oV) ?_;rintro v11 u11 m11 l11 ⟨r11,k11,rfl,hr11,hk11,rfl⟩ _;have hbag11:Bag _ [s.arr k11,Uv fa fc F]:=⟨_,Src.at hg11,hL11⟩;by_cases hr1:0<r11
    ·refine G.gT (r11:Int) 0 ?_;have hg12:=hg11;have hL12:=hL11;refine G.D call26 (Src.apart hg12) (Ka (n:=2) (h.mono (le4.trans l11)) hk11 oV oV) ?_;rintro v12 u12 m12 l12 ⟨r12,k12,rfl,hr12,hk12,rfl⟩ _;have hbag12:Bag _ [s.arr k12,Uv fa fc F]:=⟨_,Src.at hg12,hL12⟩;refine G.B 82 3 24 (.agg #[.int .i64 0,.int .i64 0,.int .i64 0]) [.agg #[.int .i64 (a:Int),.int .i64 ((1:Nat):Int),.int .i64 (r12:Int)]] (Id (a,1,r12)) ?_;intro g13 u13 l13 e13;obtain⟨mm13,hx13,hput13⟩:=hbag12.focus 1 rfl;rw[Yq]at hx13;refine G.append 82 3 24 (.agg #[.int .i64 0,.int .i64 0,.int .i64 0]) mm13 (F.map Ce) [.agg #[.int .i64 (a:Int),.int .i64 ((1:Nat):Int),.int .i64 (r12:Int)]] (.slice fa F.length fc) g13 0 1 1 kV rfl rfl oV hx13 e13 (Id (a,1,r12)) rfl oV (by simp[Ah];omega) (by simp[Ah];omega) ?_;intro w13 mn13 hy13;rw[show F.map Ce++[.agg #[.int .i64 (a:Int),.int .i64 ((1:Nat):Int),.int .i64 (r12:Int)]]=(F++[(a,1,r12)]).map Ce by rw[Atk];rfl]at hy13;obtain⟨a13,c13,rfl⟩:=hy13.shape;rw[Ata]at hy13⊢;have hbag13:=hput13 (Uv a13 c13 (F++[(a,1,r12)])) mn13 hy13;simp only[Avi,Avj]at hbag13;refine G.i a ?_;exact G.b (hJ1 (a+1,k12,F++[(a,1,r12)],(a13,c13),lab) _ _ _ cV (((l4.trans l11).trans l12).trans l13) ⟨dV,hk12,hF.put hTa (.inl ⟨rfl,rfl,oV⟩),hbag13⟩ dV)
    ·refine G.gF (r11:Int) 0 ?_;refine G.eF ((2:Nat):Int) 3 ?_;refine G.i a ?_;exact G.b (hJ1 (a+1,k11,F,(fa,fc),lab) _ _ _ cV (l4.trans l11) ⟨dV,hk11,hF.skip,hbag11⟩ dV)
  ·refine G.eF (kd:Int) 2 ?_;refine G.eF (kd:Int) 2 ?_;by_cases hk3':kd=3
   ·subst hk3';refine G.eT ((3:Nat):Int) 3 ?_;obtain⟨n5,hsrc5,hL5⟩:=hbag4;obtain⟨rfl,hg5⟩:=Src.split hsrc5;refine G.D call26 (Src.apart hg5) (Ka (n:=4) (h.mono le4) hk3 oV oV) ?_;rintro v5 u5 m5 l5 ⟨r5,k5,rfl,hr5,hk5,rfl⟩ _;have hbag5:Bag _ [s.arr k5,Uv fa fc F]:=⟨_,Src.at hg5,hL5⟩;by_cases hr0:0<r5
    ·refine G.gT (r5:Int) 0 ?_;refine G.B 82 3 24 (.agg #[.int .i64 0,.int .i64 0,.int .i64 0]) [.agg #[.int .i64 (a:Int),.int .i64 ((2:Nat):Int),.int .i64 ((0:Nat):Int)]] (Id (a,2,0)) ?_;intro g6 u6 l6 e6;obtain⟨mm6,hx6,hput6⟩:=hbag5.focus 1 rfl;rw[Yq]at hx6;refine G.append 82 3 24 (.agg #[.int .i64 0,.int .i64 0,.int .i64 0]) mm6 (F.map Ce) [.agg #[.int .i64 (a:Int),.int .i64 ((2:Nat):Int),.int .i64 ((0:Nat):Int)]] (.slice fa F.length fc) g6 0 1 1 kV rfl rfl oV hx6 e6 (Id (a,2,0)) rfl oV (by simp[Ah];omega) (by simp[Ah];omega) ?_;intro w6 mn6 hy6;rw[show F.map Ce++[.agg #[.int .i64 (a:Int),.int .i64 ((2:Nat):Int),.int .i64 ((0:Nat):Int)]]=(F++[(a,2,0)]).map Ce by rw[Atk];rfl]at hy6;obtain⟨a6,c6,rfl⟩:=hy6.shape;rw[Ata]at hy6⊢;have hbag6:=hput6 (Uv a6 c6 (F++[(a,2,0)])) mn6 hy6;simp only[Avi,Avj]at hbag6;refine G.i a ?_;exact G.b (hJ1 (a+1,k5,F++[(a,2,0)],(a6,c6),lab) _ _ _ cV ((l4.trans l5).trans l6) ⟨dV,hk5,hF.put hTa (.inr ⟨rfl,rfl,rfl⟩),hbag6⟩ dV)
    ·refine G.gF (r5:Int) 0 ?_;refine G.i a ?_;exact G.b (hJ1 (a+1,k5,F,(fa,fc),lab) _ _ _ cV (l4.trans l5) ⟨dV,hk5,hF.skip,hbag5⟩ dV)
   ·refine G.eF (kd:Int) 3 ?_;refine G.i a ?_;exact G.b (hJ1 (a+1,k3,F,(fa,fc),lab) _ _ _ cV l4 ⟨dV,hk3,hF.skip,hbag4⟩ dV)
 obtain rfl:a=T.length:=oV
 refine G.lF (T.length:Int) (T.length:Int) ?_;obtain⟨n5,hsrc5,hL5⟩:=hbag4;obtain⟨rfl,hg5⟩:=Src.split hsrc5;refine G.giveP (ma:=n5) (sm:=s.M k3) kV rfl (Src.apart hg5) (s.h0 k k3) ?_;intro u5 l5 hm5;have hFL:Ad u5 (.slice fa F.length fc) 3 (F.map Ce):=hL5.list hm5 0 rfl;refine G.gF (F.length:Int) 8 ?_;exact G.r (.agg #[.slice ta T.length tc,.slice ra R.length rc,.slice fa F.length fc,.int .i64 lab]) ⟨T,R,F,lab,k3,⟨_,_,_,_,_,_,rfl,hAL.mono (l4.trans l5),hRL.mono (l4.trans l5),hFL⟩,Aqm hT.toTOK (hR.mono ((l3.trans l4).trans l5)) hF hTpos oV oV,hT6,hk3,rfl,hT.toTOK,hT.lem,As9 hF.len hT.lem⟩
abbrev G7:Type:=List (List UInt8)×Nat×(Option Addr×Nat)
def Lh (y:G7):Value:=.agg #[.slice y.2.2.1 y.1.length y.2.2.2,.int .i64 (y.2.1:Int)]
theorem Aah (x:G7):Ax 2 [Lh x]:=by
 intro e he;simp at he;subst he;exact⟨rfl,fun y hy=>by simp[Lh,Atw]at hy;rcases hy with rfl|rfl<;>rfl⟩
def Am7 (a:Option Addr)(c:Nat)(L:List G7):Arr:=⟨.slice a L.length c,87,2,L.map Lh⟩
theorem Anj {a:Option Addr}{c:Nat}{L:List G7}{m0 m:PH}:(Am7 a c L).At m0 m=Ae m0 m (.slice a L.length c) 87 2 (L.map Lh):=rfl
def WOK (u:PH)(T:List (List UInt8×Nat))(L:List G7):Prop:=∀ y∈L,Ad u (.slice y.2.2.1 y.1.length y.2.2.2) 1 (y.1.map nmV)/\Do T y.1/\1<=y.2.1/\y.2.1<=7
theorem WOK.mono {u u':PH}{T:List (List UInt8×Nat)}{L:List G7}(h:WOK u T L)(hl:PH.le u u'):WOK u' T L:=fun y hy=>⟨(h y hy).1.mono hl,(h y hy).2⟩
def W9 (T:List (List UInt8×Nat))(L:List G7):Prop:=∀ y∈L,∀ (i:Nat) (x:List UInt8×Nat) (t:List UInt8),T[i]?=some x->y.1[i]?=some t->Vt x.2 t
theorem Aeg {u:PH}{s:Src}{ts:List Int}{k most:Nat}{v:Value}{T:List (List UInt8×Nat)}{R:List Ch}{F:List Aq}{lab:Int}(h:Li u s ts)(hk:k<=s.n)(hX:Ir u v T R F lab)(ok:Bz u T R F lab)(hm:most<=100) :
 Ak prog 7 [s.ptr,v,.int .i64 (most:Int)] u (s.M k) fun r u' m'=>∃ (L:List G7) (k':Nat),Ad u' r 2 (L.map Lh)/\L.length<=most/\WOK u' T L/\W9 T L/\k'<=s.n/\m'=s.M k':=by
 obtain⟨xa,xc,xb,xd,xe,xf,rfl,hTL,hRL,hFL⟩:=id hX;have t2:=ok.t2;refine Ak.o func7 ?_;refine G.i most ?_;refine G.A call26 (Ka (n:=most+1) h hk oV oV) ?_;rintro v1 u1 m1 l1 ⟨r,k1,rfl,hr,hk1,rfl⟩ _;rw[C6];refine G.l (ι:=Nat×Nat×List G7×(Option Addr×Nat)) (fun i=>[(0,.v s.ptr),(4,.p 0 0),(7,sV i.2.2.2.1 i.2.2.1.length i.2.2.2.2),(8,iV i.1)])
  (fun _=>[(0,⟨30,[sV xa T.length xc,sV xb R.length xd,sV xe F.length xf,iV lab]⟩)])
  (fun i u' m'=>i.1+i.2.2.1.length=r/\i.2.1<=s.n/\WOK u' T i.2.2.1/\W9 T i.2.2.1/\Bag m' [s.arr i.2.1,Am7 i.2.2.2.1 i.2.2.2.2 i.2.2.1])
  (fun i=>i.1) (r,k1,[],(none,0))
  ⟨rfl,hk1,fun y hy=>by simp at hy,fun y hy=>by simp at hy,s.bag0 k1 ⟨PH.mt,Ae.nil _ _ _,trivial⟩⟩ ?_
 rintro J ⟨i,k2,L,⟨na,nc⟩⟩ hJ u2 m2 l2 ⟨hi,hk2,hW,h9,hbag⟩;simp only at hi hk2 hW h9 hbag hJ;have le2:=l1.trans l2;obtain⟨m0,hsrc,hL⟩:=hbag;obtain⟨rfl,hg0⟩:=Src.split hsrc;by_cases hlt:0<i
 ·refine G.gT (i:Int) 0 ?_;refine G.D call27 (Src.apart hg0) (Aiq (w:=.slice xb R.length xd) (x:=.slice xe F.length xf) (y:=.int .i64 lab) (h.mono le2) hk2 (hTL.mono le2) oV ok.att.kind ⟨_,_,_,rfl⟩ ⟨_,_,_,rfl⟩ ⟨_,rfl⟩) ?_;rintro v3 u3 m3 l3 ⟨ss,k3,hS,hSl,hSv,hk3,rfl⟩ _;obtain⟨ya,yc,rfl⟩:=hS.opn;rw[Ata]at hS⊢;refine G.buildU 3 1 8 (.int .i64 0) (Ei [1,1,2,7]) kV (Lv _) rfl oV (by simp[Ei]) (by simp[Ei]) ?_;intro g4 u4 l4 e4;refine G.D call28 (Src.apart hg0) (Zn (L:=[1,1,2,7]) (h.mono ((le2.trans l3).trans l4)) hk3 e4.listP mV mV) ?_;rintro v5 u5 m5 l5 ⟨z,hz,k5,rfl,hk5,rfl⟩ _;obtain⟨w,rfl,hw1,hw2⟩:∃ w:Nat,z=(w:Int)/\1<=w/\w<=7:=by
   simp at hz;rcases hz with rfl|rfl|rfl
   ·exact⟨1,rfl,oV,oV⟩
   ·exact⟨2,rfl,oV,oV⟩
   ·exact⟨7,rfl,oV,oV⟩
  refine G.B 87 2 32 (.agg #[.slice none 0 0,.int .i64 0]) [.agg #[.slice ya ss.length yc,.int .i64 (w:Int)]] (Aah (ss,w,ya,yc)) ?_;intro g6 u6 l6 e6;have hbag2:Bag (m0.or (s.M k5)) [s.arr k5,Am7 na nc L]:=⟨m0,Src.at hg0,hL⟩;obtain⟨mm,hx0,hput⟩:=hbag2.focus 1 rfl;rw[Anj]at hx0;refine G.k 87 2 32 (.agg #[.slice none 0 0,.int .i64 0]) mm (L.map Lh) [Lh (ss,w,ya,yc)] (.slice na L.length nc) g6 0 1 1 hx0 e6 (Aah (ss,w,ya,yc)) ?_;intro v7 m7 hx7;rw[show L.map Lh++[Lh (ss,w,ya,yc)]=(L++[(ss,w,ya,yc)]).map Lh by rw[Atk];rfl]at hx7;obtain⟨a7,c7,rfl⟩:=hx7.shape;rw[Ata]at hx7⊢;have hbag3:=hput (Am7 a7 c7 (L++[(ss,w,ya,yc)])) m7 hx7;have lx:=((l3.trans l4).trans l5).trans l6;refine G.s (i:Int) 1 ((i-1:Nat):Int) ?_;refine G.b (hJ (i-1,k5,L++[(ss,w,ya,yc)],(a7,c7)) _ _ _ cV (l2.trans lx) ⟨by dsimp only;simp;omega,hk5,?_,?_,hbag3⟩ dV)
  ·intro y hy;rcases Ati.1 hy with hy|hy
   ·exact hW.mono lx y hy
   ·simp only[Aub]at hy;subst hy;exact⟨hS.mono ((l4.trans l5).trans l6),⟨hSl,fun i x t h1 h2=>(hSv i x t h1 h2).ok⟩,hw1,hw2⟩
  ·intro y hy;rcases Ati.1 hy with hy|hy
   ·exact h9 y hy
   ·simp only[Aub]at hy;subst hy;exact hSv
 ·obtain rfl:i=0:=oV
  refine G.gF ((0:Nat):Int) 0 ?_;refine G.giveP (ma:=m0) (sm:=s.M k2) kV rfl (Src.apart hg0) (s.h0 k k2) ?_;intro u3 l3 hm3;exact G.r (.slice na L.length nc) ⟨L,k2,hL.list hm3 0 rfl,oV,hW.mono l3,h9,hk2,rfl⟩
section
variable {F:List Aq}{R:List Ch}{T:List (List UInt8×Nat)}{lab:Int}{u:PH}
theorem L3 {α:Type}{p:List α->Prop}(h0:p [])(h1:∀ l a,p l->p (l++[a]))(l:List α):p l:=by
 have:∀ r:List α,p r.reverse:=fun r=>by
  induction r with
  |nil=>exact h0
  |cons a r ih=>rw[List.reverse_cons];exact h1 _ _ ih
 have:=this l.reverse;rwa[List.reverse_reverse]at this
noncomputable def Fq (F:List Aq)(lab:Int)(L:List G7):CF:=L.foldl (fun C y=>C.add ((cfT F lab y.1).scale (y.2.1:Rat))) (CF.num 0)
theorem Hx (F:List Aq)(lab:Int)(L:List G7)(y:G7):Fq F lab (L++[y])=(Fq F lab L).add ((cfT F lab y.1).scale (y.2.1:Rat)):=by
 unfold Fq;rw[List.foldl_append];rfl
theorem Aoc {w:Nat}(h:w<=7):Dn 0 7 (w:Rat):=⟨(w:Int),by simp[Au6],by simpa using h⟩
theorem Ajy {ss:List (List UInt8)}(ok:Bz u T R F lab)(ht:Do T ss):CFD (2*T.length) (1374926400^T.length) (cfT F lab ss)/\CFV (cfT F lab ss):=by
 have hsm:=Lo ok ht;have hl:(E4 F lab ss).length=T.length:=by rw[Gj];exact ht.len
 have:=O0 hsm (E4 F lab ss).length (Atb _);rw[At9,hl]at this;exact this
theorem Xz (ok:Bz u T R F lab):∀ {L:List G7},(∀ y∈L,Do T y.1/\y.2.1<=7)->CFD (2*T.length) (L.length*(1374926400^T.length*7)) (Fq F lab L)/\CFV (Fq F lab L):=by
 intro L;induction L using L3 with
 |h0=>exact fun _=>⟨CFD.count (Dn.zero _ _),CFV.count 0⟩
 |h1 L y ih =>
  intro h;obtain⟨i1,i2⟩:=ih fun z hz=>h z (Avn _ hz);obtain⟨h1,h2⟩:=h y mV;obtain⟨c1,c2⟩:=Ajy ok h1;rw[Hx];refine⟨?_,i2.add (c2.scale _)⟩;have:=i1.add (c1.scale (Aoc h2));rw[Atg,Aux,At2,Nat.one_mul];exact this
end
section
variable {F:List Aq}{T:List (List UInt8×Nat)}{lab:Int}
theorem Aqx {ss:List (List UInt8)}(hF:Ef T F lab)(ht:Do T ss)(h1:-1<=lab)(h2:∀ l:Nat,lab=(l:Int)->l<ss.length) :
 ((cfT F lab ss).c=1/\∀ p q,(cfT F lab ss).t (A5 p q)=(cfT F lab ss).s p*(cfT F lab ss).s q)\/((cfT F lab ss).c=0/\(∀ p,(cfT F lab ss).s p=0)/\∀ k,(cfT F lab ss).t k=0):=by
 cases hc:Vx F lab ss with
 |false=>right;rw[Amx hF ht h1 h2 hc];exact⟨rfl,fun _=>rfl,fun _=>rfl⟩
 |true =>
  left;have ho:=Ae6 hF ht h1 h2 hc;refine⟨ho.c,fun p q=>?_⟩;rw[ho.t,if_neg (Qc p q)];by_cases h:0<Bd p q
  ·rw[Mc h];grind
  ·rw[F7 h]
theorem Adr (n:Nat):(0:Rat)<=(n:Rat):=by
 have:((0:Nat):Rat)<=(n:Rat):=by exact_mod_cast Atu n
 exact this
theorem Aqg (hF:Ef T F lab)(h1:-1<=lab)(h2:∀ l:Nat,lab=(l:Int)->l<T.length):∀ {L:List G7},(∀ y∈L,Do T y.1/\y.2.1<=7)->∃ k:Nat,(Fq F lab L).c=(k:Rat)/\k<=7*L.length:=by
 intro L;induction L using L3 with
 |h0=>exact fun _=>⟨0,rfl,mV⟩
 |h1 L y ih =>
  intro h;obtain⟨k,hk,hkl⟩:=ih fun z hz=>h z (Avn _ hz);obtain⟨hy,hw⟩:=h y mV;have hlen:=hy.len;rw[Hx];show ∃ k:Nat,(Fq F lab L).c+(cfT F lab y.1).c*(y.2.1:Rat)=(k:Rat)/\_;rw[hk];rw[Atg,Aux];rcases Aqx hF hy h1 (fun l hl=>by have:=h2 l hl;omega) with ⟨e1,_⟩|⟨e1,_⟩
  ·exact⟨k+y.2.1,by rw[e1,Axq];grind,oV⟩
  ·exact⟨k,by rw[e1];grind,oV⟩
end
section
variable {a b c d f n:Nat}{q r:Rat}
def De (a b:Nat)(q:Rat):Prop:=∃ (k:Int) (D:Nat),q*(D:Rat)=(k:Rat)/\0<D/\k.natAbs<10^a/\D<10^b
theorem N7 {D:Nat}(h:0<D):(D:Rat)≠0:=by
 intro e;have h1:(D:Rat)=((0:Nat):Rat):=e;have:=Rat.natCast_inj.1 h1;omega
theorem Gs {x y a b:Nat}(h1:x<10^a)(h2:y<10^b):x*y<10^(a+b):=by
 rw[Nat.pow_add];exact Nat.mul_lt_mul'' h1 h2
theorem De.mul (h:De a b q)(h':De c d r):De (a+c) (b+d) (q*r):=by
 obtain⟨k,D,e,h0,h3,h4⟩:=h;obtain⟨l,E,e',k0,k3,k4⟩:=h';refine⟨k*l,D*E,?_,Axa h0 k0,by rw[Au7];exact Gs h3 k3,Gs h4 k4⟩;rw[Av9,<-e,<-e',Awt];grind
theorem De.add (h:De a b q)(h':De c d r)(h1:a+d<=f)(h2:c+b<=f):De (f+1) (b+d) (q+r):=by
 obtain⟨k,D,e,h0,h3,h4⟩:=h;obtain⟨l,E,e',k0,k3,k4⟩:=h';refine⟨k*(E:Int)+l*(D:Int),D*E,?_,Axa h0 k0,?_,Gs h4 k4⟩
 ·rw[Rat.intCast_add,Av9,Av9,<-e,<-e',Awt,Au6,Au6];grind
 ·have g1:(k*(E:Int)).natAbs<10^f:=by
   rw[Au7];exact Auf (Gs h3 (by simpa using k4)) (Atq oV h1)
  have g2:(l*(D:Int)).natAbs<10^f:=by
   rw[Au7];exact Auf (Gs k3 (by simpa using h4)) (Atq oV h2)
  rw[Auc];omega
theorem De.neg (h:De a b q):De a b (-q):=by
 obtain⟨k,D,e,h0,h3,h4⟩:=h;exact⟨-k,D,by rw[Rat.intCast_neg,<-e];grind,h0,by simpa using h3,h4⟩
theorem De.sub (h:De a b q)(h':De c d r)(h1:a+d<=f)(h2:c+b<=f):De (f+1) (b+d) (q-r):=by
 rw[Rat.sub_eq_add_neg];exact h.add h'.neg h1 h2
theorem De.divn {a b m n:Nat}(h:De a b q)(hn:0<n)(hm:n<10^m):De a (b+m) (q/(n:Rat)):=by
 obtain⟨k,D,e,h0,h3,h4⟩:=h;refine⟨k,D*n,?_,Axa h0 hn,h3,Gs h4 hm⟩;have hi:=Rat.mul_inv_cancel _ (N7 hn);rw[<-e,Awt,Rat.div_def];generalize ((n:Rat))⁻¹=j at hi⊢;grind
theorem De.nat (h:n<10^a):De a 1 (n:Rat):=⟨(n:Int),1,by rw[Au6];show (n:Rat)*1=_;grind,oV,by simpa using h,oV⟩
theorem De.frac (h:De a b q):q.num.natAbs<10^a/\q.den<10^b:=by
 obtain⟨k,D,h1,hp,hk,hD⟩:=h;have hq:q=Au0 k (D:Int):=by
  rw[Rat.divInt_eq_div,Au6,<-h1];have:=N7 hp;grind
 obtain⟨e1,e2,e3⟩:=Kt (y:=k) (z:=(D:Int)) oV;rw[hq];constructor
 ·rw[e1,Int.natAbs_tdiv];exact Nat.lt_of_le_of_lt (Awa _ _) hk
 ·have h2:((Au0 k (D:Int)).den:Int)<=(D:Int):=by
   rw[e2,show ((D:Int)).natAbs=D from rfl,Int.tdiv_eq_ediv_of_nonneg oV,<-Int.natCast_ediv];exact Int.ofNat_le.2 (Awa _ _)
  omega
theorem De.tx (h:De a b q)(ha:0<a)(ha2:a<=400)(hb:0<b)(hb2:b<=400):Tx q:=by
 obtain⟨h1,h2⟩:=h.frac;exact⟨As9 (D9 ha h1) ha2,As9 (D9 hb h2) hb2⟩
theorem De.szn (h:De a b q)(ha:0<a)(ha2:a<=400)(hb:0<b)(hb2:b<=400):Sz q 400:=(h.tx ha ha2 hb hb2).sz
theorem Dn.de {d N a b:Nat}(h:Dn d N q)(h1:N<10^a)(h2:12^d<10^b):De a b q:=by
 obtain⟨k,e,hk⟩:=h;exact⟨k,12^d,e,Y7 d,oV,h2⟩
end
section
variable {H:CF}
def C3 {α:Type}(f:α->Rat):List α->Rat
 |[]=>0
 |a::l=>f a+C3 f l
section
variable {α β:Type} {f g:α->Rat}
theorem Rf:∀ (l l':List α),C3 f (l++l')=C3 f l+C3 f l'
 |[],l'=>by show C3 f l'=0+C3 f l';grind
 |a::l,l'=>by show f a+C3 f (l++l')=f a+C3 f l+C3 f l';rw[Rf l l'];grind
theorem Ahm (l:List α)(a:α):C3 f (l++[a])=C3 f l+f a:=by
 rw[Rf];show _+(f a+0)=_;grind
theorem Gr:∀ {l:List α},(∀ a∈l,f a=g a)->C3 f l=C3 g l
 |[],_=>rfl
 |a::l,h=>by
  show f a+C3 f l=g a+C3 g l;rw[h a (Aw3 ..),Gr fun x hx=>h x (Auv _ hx)]
theorem Tb:∀ (l:List α),C3 (fun a=>f a+g a) l=C3 f l+C3 g l
 |[]=>by show (0:Rat)=0+0;grind
 |a::l=>by show f a+g a+C3 (fun a=>f a+g a) l=(f a+C3 f l)+(g a+C3 g l);rw[Tb l];grind
theorem Md (k:Rat):∀ (l:List α),C3 (fun a=>f a*k) l=C3 f l*k
 |[]=>by show (0:Rat)=0*k;grind
 |a::l=>by show f a*k+C3 (fun a=>f a*k) l=(f a+C3 f l)*k;rw[Md k l];grind
theorem Ai0 (k:Rat)(l:List α):C3 (fun a=>k*f a) l=k*C3 f l:=by
 rw[show (fun a=>k*f a)=fun a=>f a*k from funext fun a=>by grind,Md];grind
theorem Qm:∀ {l:List α},(∀ a∈l,f a=0)->C3 f l=0
 |[],_=>rfl
 |a::l,h=>by
  show f a+C3 f l=0;rw[h a (Aw3 ..),Qm fun x hx=>h x (Auv _ hx)];grind
theorem Ph (h:β->α):∀ (l:List β),C3 f (l.map h)=C3 (fun b=>f (h b)) l
 |[]=>rfl
 |a::l=>by show f (h a)+C3 f (l.map h)=f (h a)+C3 (fun b=>f (h b)) l;rw[Ph h l]
end
def Ahv (P:List Par):List (Option Par):=none::P.map some
def Cd:Par:=(-1,[])
def Gi (C:CF):Option Par->Option Par->Rat
 |none,none=>C.c
 |none,some p=>C.s p
 |some p,none=>C.s p
 |some p,some q=>C.t (A5 p q)
def S6 (C:CF):Option Par->Rat
 |none=>C.s Cd
 |some p=>C.t (A5 Cd p)
def Iv (b:Option Par->Rat)(P:List Par)(C:CF):Rat:=C3 (fun e=>C3 (fun f=>b e*Gi C e f*b f) (Ahv P)) (Ahv P)
theorem W5 (C H:CF)(w:Rat)(e f:Option Par):Gi (C.add (H.scale w)) e f=Gi C e f+Gi H e f*w:=by
 cases e<;>cases f<;>rfl
theorem Aed (C H:CF)(w:Rat)(e:Option Par):S6 (C.add (H.scale w)) e=S6 C e+S6 H e*w:=by
 cases e<;>rfl
theorem Ahq (b:Option Par->Rat)(P:List Par)(C H:CF)(w:Rat):Iv b P (C.add (H.scale w))=Iv b P C+Iv b P H*w:=by
 unfold Iv;rw[<-Md w,<-Tb];refine Gr fun e _=>?_;rw[<-Md w,<-Tb];refine Gr fun f _=>?_;rw[W5];grind
def Ah6 (b:Option Par->Rat)(P:List Par)(x:Par->Rat):Rat:=b none+C3 (fun p=>b (some p)*x p) P
def Ah8 (x:Par->Rat):Option Par->Rat
 |none=>1
 |some p=>x p
theorem Z8 (b:Option Par->Rat)(P:List Par)(x:Par->Rat):C3 (fun e=>b e*Ah8 x e) (Ahv P)=Ah6 b P x:=by
 unfold Ahv Ah6;show b none*1+C3 _ (P.map some)=_;rw[Ph];show b none*1+C3 (fun p=>b (some p)*x p) P=_;grind
structure Acr (H:CF):Prop where
 c:H.c=1
 t:∀ p q,H.t (A5 p q)=H.s p*H.s q
theorem Acr.cell (h:Acr H)(e f:Option Par):Gi H e f=Ah8 H.s e*Ah8 H.s f:=by
 cases e<;>cases f
 ·show H.c=1*1;rw[h.c];grind
 ·show H.s _=1*H.s _;grind
 ·show H.s _=H.s _*1;grind
 ·exact h.t _ _
theorem Acr.right (h:Acr H)(e:Option Par):S6 H e=H.s Cd*Ah8 H.s e:=by
 cases e
 ·show H.s Cd=H.s Cd*1;grind
 ·exact h.t _ _
theorem Acr.norm (h:Acr H)(b:Option Par->Rat)(P:List Par):Iv b P H=Ah6 b P H.s*Ah6 b P H.s:=by
 unfold Iv;have e1:∀ e,C3 (fun f=>b e*Gi H e f*b f) (Ahv P)=(b e*Ah8 H.s e)*Ah6 b P H.s:=fun e=>by
  rw[<-Z8,<-Ai0];exact Gr fun f _=>by rw[h.cell];grind
 rw[Gr fun e _=>e1 e,Md,Z8]
structure Ah0 (H:CF):Prop where
 c:H.c=0
 s:∀ p,H.s p=0
 t:∀ k,H.t k=0
theorem Ah0.cell (h:Ah0 H)(e f:Option Par):Gi H e f=0:=by
 cases e<;>cases f
 ·exact h.c
 ·exact h.s _
 ·exact h.s _
 ·exact h.t _
theorem Ah0.norm (h:Ah0 H)(b:Option Par->Rat)(P:List Par):Iv b P H=0 :=
 Qm fun e _=>Qm fun f _=>by rw[h.cell];grind
theorem W8 {T:List (List UInt8×Nat)}{F:List Aq}{lab:Int}{ss:List (List UInt8)}(hF:Ef T F lab)(ht:Do T ss)(h1:-1<=lab)(h2:∀ l:Nat,lab=(l:Int)->l<ss.length) :
 (Vx F lab ss=true/\Acr (cfT F lab ss))\/(Vx F lab ss=false/\Ah0 (cfT F lab ss)):=by
 cases hc:Vx F lab ss with
 |false=>right;rw[Amx hF ht h1 h2 hc];exact⟨rfl,rfl,fun _=>rfl,fun _=>rfl⟩
 |true =>
  left;have ho:=Ae6 hF ht h1 h2 hc;refine⟨rfl,ho.c,fun p q=>?_⟩;rw[ho.t,if_neg (Qc p q)];by_cases h:0<Bd p q
  ·rw[Mc h];grind
  ·rw[F7 h]
end
section
variable {a b j n r:Nat}{f:Nat->Rat}
def Aj:Nat->(Nat->Rat)->Rat
 |0,_=>0
 |n+1,f=>Aj n f+f n
theorem Af {f g:Nat->Rat}:∀ {n:Nat},(∀ j,j<n->f j=g j)->Aj n f=Aj n g
 |0,_=>rfl
 |n+1,h=>by rw[Aj,Aj,Af fun j hj=>h j oV,h n oV]
theorem B6 (h:∀ j,j<n->f j=0):Aj n f=0:=by
 induction n with
 |zero=>rfl
 |succ n ih=>rw[Aj,ih fun j hj=>h j oV,h n oV];grind
theorem Ab1 {f g:Nat->Rat}(a b:Rat):∀ {n:Nat},Aj n (fun j=>a*f j+b*g j)=a*Aj n f+b*Aj n g
 |0=>by simp only[Aj];grind
 |n+1=>by rw[Aj,Aj,Aj,Ab1 a b];grind
theorem D5 (hj:j<n)(h:∀ t,t<n->t≠j->f t=0):Aj n f=f j:=by
 induction n with
 |zero=>omega
 |succ n ih =>
  rw[Aj];by_cases e:j=n
  ·subst e;rw[B6 fun t ht=>h t oV oV];grind
  ·grind
theorem Ajv (ha:a+1<n)(h:∀ t,t<n->t≠a->t≠a+1->f t=0):Aj n f=f a+f (a+1):=by
 induction n with
 |zero=>omega
 |succ n ih =>
  rw[Aj];by_cases e:a+1=n
  ·subst e;rw[D5 (j:=a) oV fun t ht hn=>h t oV hn oV]
  ·grind
def qsg:Nat->Rat
 |0=>1
 |n+1=>- qsg n
theorem Xy:∀ r:Nat,qsg (r+r)=1
 |0=>rfl
 |r+1=>by rw[show r+1+(r+1)=r+r+1+1 by omega,qsg,qsg,Xy r];rfl
def B9 (j:Nat)(C:Nat->Nat->Rat):Nat->Nat->Rat:=fun t=>if t<j then C t else C (t+1)
def qdt:Nat->(Nat->Nat->Rat)->Rat
 |0,_=>1
 |r+1,C=>Aj (r+1) fun j=>qsg (r+j)*C j r*qdt r (B9 j C)
theorem Dt:∀ {r:Nat} {C D:Nat->Nat->Rat},(∀ t,t<r->∀ i,i<r->C t i=D t i)->qdt r C=qdt r D
 |0,_,_,_=>rfl
 |r+1,C,D,h=>by
  rw[qdt,qdt];refine Af fun j hj=>?_;rw[h j hj r oV,Dt (D:=B9 j D)];intro t ht i hi;unfold B9;split
  ·exact h t oV i oV
  ·exact h (t+1) oV i oV
def Bq (C:Nat->Nat->Rat)(j:Nat)(x:Nat->Rat):Nat->Nat->Rat:=fun t=>if t=j then x else C t
theorem K0 (C:Nat->Nat->Rat)(j:Nat)(x:Nat->Rat):B9 j (Bq C j x)=B9 j C:=by
 funext t
 unfold B9 Bq;split
 ·grind
 ·grind
theorem Ks (C:Nat->Nat->Rat)(h:j<a)(x:Nat->Rat):B9 a (Bq C j x)=Bq (B9 a C) j x:=by
 funext t
 unfold B9 Bq;by_cases ht:t=j
 ·grind
 ·grind
theorem Ho (C:Nat->Nat->Rat)(h:a<j)(x:Nat->Rat):B9 a (Bq C j x)=Bq (B9 a C) (j-1) x:=by
 funext t
 unfold B9 Bq;by_cases ht:t=j-1
 ·grind
 ·grind
theorem Fz (C:Nat->Nat->Rat)(j:Nat)(x:Nat->Rat):Bq C j x j=x:=by simp[Bq]
theorem E5 (C:Nat->Nat->Rat){j t:Nat}(h:t≠j)(x:Nat->Rat):Bq C j x t=C t:=by simp[Bq,h]
theorem Fa (C:Nat->Nat->Rat)(j:Nat):Bq C j (C j)=C:=by
 funext t
 unfold Bq;split
 ·grind
 ·rfl
theorem Iu (a b:Rat)(x y:Nat->Rat):∀ {r:Nat} (C:Nat->Nat->Rat) {j:Nat},j<r->qdt r (Bq C j fun i=>a*x i+b*y i)=a*qdt r (Bq C j x)+b*qdt r (Bq C j y)
 |0,_,_,h=>oV
 |r+1,C,j,h=>by
  rw[qdt,qdt,qdt,<-Ab1];refine Af fun t ht=>?_;by_cases e:t=j
  ·subst e;rw[K0,K0,K0,Fz,Fz,Fz];grind
  ·rw[E5 C e,E5 C e,E5 C e];by_cases hl:j<t
   ·rw[Ks C hl,Ks C hl,Ks C hl,Iu a b x y (B9 t C) oV];grind
   ·have hl:t<j:=oV
    rw[Ho C hl,Ho C hl,Ho C hl,Iu a b x y (B9 t C) oV];grind
theorem Mh (C:Nat->Nat->Rat)(h:j<r):qdt r (Bq C j fun _=>0)=0:=by
 have:=Iu 0 0 (fun _=>0) (fun _=>0) C h;have e0:(0:Rat)+0=0:=by grind
 simpa[e0] using this
theorem R4:∀ {r:Nat} {C:Nat->Nat->Rat} {a:Nat},a+1<r->C a=C (a+1)->qdt r C=0
 |0,_,_,h,_=>oV
 |r+1,C,a,h,e=>by
  rw[qdt,Ajv (a:=a) h]
  ·have:B9 a C=B9 (a+1) C:=by
    funext t
    unfold B9;by_cases h1:t=a
    ·grind
    ·grind
   rw[this,e,show r+(a+1)=(r+a)+1 by omega,qsg];grind
  ·intro t ht h1 h2;have:qdt r (B9 t C)=0:=by
    by_cases hl:t<a
    ·refine R4 (a:=a-1) oV ?_;unfold B9;rw[if_neg oV,if_neg oV,show a-1+1=a by omega];exact e
    ·refine R4 (a:=a) oV ?_;unfold B9;rw[if_pos oV,if_pos oV];exact e
   rw[this];simp
def Aoi (C:Nat->Nat->Rat)(a:Nat):Nat->Nat->Rat:=Bq (Bq C a (C (a+1))) (a+1) (C a)
theorem N0 (C:Nat->Nat->Rat)(h:a≠b)(x y:Nat->Rat):Bq (Bq C a x) b y=Bq (Bq C b y) a x:=by
 funext t
 unfold Bq;by_cases h1:t=a
 ·grind
 ·grind
theorem Ant (C:Nat->Nat->Rat)(h:a+1<r):qdt r (Aoi C a) = - qdt r C:=by
 have ha:a<r:=oV
 let D:(Nat->Rat)->(Nat->Rat)->Rat:=fun x y=>qdt r (Bq (Bq C a x) (a+1) y)
 have l2:∀ x y z,D x (fun i=>1*y i+1*z i)=1*D x y+1*D x z:=fun x y z=>Iu 1 1 y z _ h;have l1:∀ x y z,D (fun i=>1*y i+1*z i) x=1*D y x+1*D z x:=fun x y z=>by
  show qdt r (Bq (Bq C a _) (a+1) x)=1*qdt r (Bq (Bq C a y) (a+1) x)+1*qdt r (Bq (Bq C a z) (a+1) x);rw[N0 C (show a≠a+1 by omega) (fun i=>1*y i+1*z i) x,N0 C (show a≠a+1 by omega) y x,N0 C (show a≠a+1 by omega) z x];exact Iu 1 1 y z _ ha
 have l0:∀ x,D x x=0:=fun x=>R4 h (by rw[Fz,E5 _ oV,Fz]);have e1:=l0 (fun i=>1*C a i+1*C (a+1) i);rw[l1,l2,l2,l0,l0]at e1;have e2:D (C a) (C (a+1))=qdt r C:=by
  show qdt r (Bq (Bq C a (C a)) (a+1) (C (a+1)))=_;rw[Fa,Fa]
 have e3:D (C (a+1)) (C a)=qdt r (Aoi C a):=rfl;grind
theorem Aeh {r:Nat}:∀ {d:Nat} {C:Nat->Nat->Rat} {a:Nat},a+d+1<r->C a=C (a+d+1)->qdt r C=0
 |0,_,_,h,e=>R4 h e
 |d+1,C,a,h,e=>by
  have:=Ant C (a:=a+d+1) (r:=r) oV;rw[Aeh (d:=d) (C:=Aoi C (a+d+1)) (a:=a) oV]at this
  ·grind
  ·unfold Aoi;rw[E5 _ oV,E5 _ oV,E5 _ oV,Fz];exact e
theorem Abu {C:Nat->Nat->Rat}(ha:a<r)(hb:b<r)(hn:a≠b)(e:C a=C b):qdt r C=0:=by
 by_cases h:a<b
 ·exact Aeh (d:=b-a-1) (a:=a) oV (by rw[show a+(b-a-1)+1=b by omega];exact e)
 ·exact Aeh (d:=a-b-1) (a:=b) oV (by rw[show b+(a-b-1)+1=a by omega];exact e.symm)
theorem Aez {r:Nat}(C:Nat->Nat->Rat){j:Nat}(h:j<r)(a:Nat->Rat)(X:Nat->Nat->Rat):∀ n:Nat,qdt r (Bq C j fun i=>Aj n fun t=>a t*X t i)=Aj n fun t=>a t*qdt r (Bq C j (X t))
 |0=>Mh C h
 |n+1=>by
  have:=Iu 1 (a n) (fun i=>Aj n fun t=>a t*X t i) (X n) C h;rw[Aez C h a X n]at this;simp only[Aj];rw[Rat.one_mul]at this;rw[<-this]
  congr 2
  funext i
  rw[Rat.one_mul]
theorem Acm (C:Nat->Nat->Rat)(e:Nat->Rat)(he:∀ i,i<r->e i=0):qdt (r+1) (Bq C r e)=e r*qdt r C:=by
 rw[qdt,D5 (j:=r) oV]
 ·rw[Xy,Fz,Rat.one_mul,Dt (C:=B9 r (Bq C r e)) (D:=C)];intro t ht i hi;unfold B9;rw[if_pos ht,E5 _ oV]
 ·intro t ht hn;rw[Ho C (by omega:t<r),Dt (D:=Bq (B9 t C) (r-1) fun _=>0)]
  ·rw[Mh _ oV];simp
  ·intro s hs i hi;unfold Bq;split
   ·grind
   ·rfl
end
section
variable {d:Nat}{f g:Rat->Rat}
theorem Bj (a:Rat)(f:Nat->Rat):∀ n:Nat,Aj n (fun j=>a*f j)=a*Aj n f
 |0=>by simp only[Aj];grind
 |n+1=>by rw[Aj,Aj,Bj a f n];grind
theorem B2 (f g:Nat->Rat):∀ n:Nat,Aj n (fun j=>f j+g j)=Aj n f+Aj n g
 |0=>by simp only[Aj];grind
 |n+1=>by rw[Aj,Aj,Aj,B2 f g n];grind
def pwR (x:Rat):Nat->Rat
 |0=>1
 |n+1=>pwR x n*x
theorem Sc (x y:Rat):∀ n,pwR (x*y) n=pwR x n*pwR y n
 |0=>by simp only[pwR];grind
 |n+1=>by simp only[pwR];rw[Sc x y n];grind
theorem Aey:∀ n,pwR 1 n=1
 |0=>rfl
 |n+1=>by simp only[pwR];rw[Aey n];grind
theorem Afs:∀ n,0<pwR 2 n
 |0=>by simp only[pwR];decide
 |n+1=>by have:=Afs n;simp only[pwR];grind
theorem Zr:∀ {j d:Nat},j<d->pwR 2 j<pwR 2 d
 |j,0,h=>oV
 |j,d+1,h=>by
  have h1:=Afs d;simp only[pwR];by_cases e:j=d
  ·subst e;grind
  ·have:=Zr (j:=j) (d:=d) oV;grind
def evP (d:Nat)(c:Nat->Rat)(x:Rat):Rat:=Aj d fun j=>c j*pwR x j
theorem Ze:∀ (d:Nat) (c:Nat->Rat),(∀ x,x≠0->evP d c x=0)->∀ j,j<d->c j=0
 |0,_,_,j,h=>oV
 |d+1,c,h,j,hj=>by
  have hI:=Ze d (fun j=>c j*(pwR 2 j-pwR 2 d)) fun x hx=>by
   have h1:=h x hx;have h2:=h (2*x) (by grind);unfold evP at h1 h2⊢;simp only[Aj]at h1 h2;rw[Sc,Af (g:=fun j=>c j*pwR 2 j*pwR x j) fun j hj=>by rw[Sc];grind]at h2;have e:Aj d (fun j=>c j*(pwR 2 j-pwR 2 d)*pwR x j)=Aj d (fun j=>c j*pwR 2 j*pwR x j) + -(pwR 2 d)*Aj d (fun j=>c j*pwR x j):=by
    rw[<-Bj,<-B2];exact Af fun j _=>by grind
   rw[e];grind
  have h0:∀ j,j<d->c j=0:=fun j hj=>by
   have h1:=hI j hj;have h2:=Zr hj;rcases A0a.1 h1 with h3|h3
   ·exact h3
   ·grind
  by_cases e:j=d
  ·have h1:=h 1 fV;unfold evP at h1;simp only[Aj]at h1;rw[B6 fun j hj=>by rw[h0 j hj];grind,Aey]at h1;rw[e];grind
  ·exact h0 j oV
def IsP (d:Nat)(f:Rat->Rat):Prop:=∃ c:Nat->Rat,∀ x,f x=evP d c x
theorem IsP.congr (h:IsP d f)(e:∀ x,g x=f x):IsP d g:=by
 obtain⟨c,hc⟩:=h;exact⟨c,fun x=>by rw[e,hc]⟩
theorem IsP.add (h:IsP d f)(h':IsP d g):IsP d fun x=>f x+g x:=by
 obtain⟨c,hc⟩:=h;obtain⟨c',hc'⟩:=h';refine⟨fun j=>c j+c' j,fun x=>?_⟩;show f x+g x=_;rw[hc,hc'];unfold evP;rw[<-B2];exact Af fun j _=>by grind
theorem IsP.smul (a:Rat)(h:IsP d f):IsP d fun x=>a*f x:=by
 obtain⟨c,hc⟩:=h;refine⟨fun j=>a*c j,fun x=>?_⟩;show a*f x=_;rw[hc];unfold evP;rw[<-Bj];exact Af fun j _=>by grind
theorem IsP.up (h:IsP d f):IsP (d+1) f:=by
 obtain⟨c,hc⟩:=h;refine⟨fun j=>if j=d then 0 else c j,fun x=>?_⟩;rw[hc];unfold evP;simp only[Aj];rw[Af (g:=fun j=>(if j=d then 0 else c j)*pwR x j) fun j hj=>by rw[if_neg oV]];grind
theorem IsP.zero (d:Nat):IsP d fun _=>0:=⟨fun _=>0,fun x=>by unfold evP;rw[B6 fun j _=>by grind]⟩
theorem IsP.const:∀ (d:Nat) (a:Rat),IsP (d+1) fun _=>a
 |0,a=>⟨fun _=>a,fun x=>by unfold evP;simp only[Aj,pwR];grind⟩
 |d+1,a=>(IsP.const d a).up
theorem Mx (c:Nat->Rat)(x:Rat):∀ d:Nat,Aj (d+1) (fun j=>(if j=0 then 0 else c (j-1))*pwR x j)=x*Aj d fun j=>c j*pwR x j
 |0=>by simp only[Aj,if_pos];grind
 |d+1=>by
  rw[Aj,Mx c x d,Aj,if_neg oV,Nat.add_sub_cancel];simp only[pwR];grind
theorem IsP.mulx (h:IsP d f):IsP (d+1) fun x=>x*f x:=by
 obtain⟨c,hc⟩:=h;exact⟨fun j=>if j=0 then 0 else c (j-1),fun x=>by show x*f x=_;rw[hc];unfold evP;rw[Mx]⟩
theorem IsP.mulLin (h:IsP d f)(a b:Rat):IsP (d+1) fun x=>(a+b*x)*f x :=
 ((h.up.smul a).add (h.mulx.smul b)).congr fun x=>by grind
theorem IsP.sum {d:Nat}{f:Nat->Rat->Rat}:∀ n:Nat,(∀ k,k<n->IsP d (f k))->IsP d fun x=>Aj n fun k=>f k x
 |0,_=>IsP.zero d
 |n+1,h=>(IsP.sum n fun k hk=>h k oV).add (h n oV)
theorem IsP.det:∀ (r:Nat) {C:Rat->Nat->Nat->Rat},(∀ t i,∃ a b:Rat,∀ x,C x t i=a+b*x)->IsP (r+1) fun x=>qdt r (C x)
 |0,_,_=>IsP.const 0 1
 |r+1,C,h=>by
  refine IsP.sum (r+1) fun j _=>?_;obtain⟨a,b,e⟩:=h j r;have hd:=IsP.det r (C:=fun x=>B9 j (C x)) fun t i=>by
   unfold B9;split
   ·exact h t i
   ·exact h (t+1) i
  exact ((hd.mulLin a b).smul (qsg (r+j))).congr fun x=>by rw[e];grind
theorem IsP.at0 (h:IsP d f)(h0:∀ x,x≠0->f x=0):f 0=0:=by
 obtain⟨c,hc⟩:=h;have hz:=Ze d c fun x hx=>by rw[<-hc,h0 x hx]
 rw[hc];unfold evP;exact B6 fun j hj=>by rw[hz j hj];grind
def dpw (x:Rat):Nat->Rat
 |0=>0
 |n+1=>dpw x n*x+pwR x n
theorem Ab3 (x:Rat):∀ n:Nat,dpw x (n+1)=((n+1:Nat):Rat)*pwR x n
 |0=>by simp only[dpw,pwR];grind
 |n+1=>by
  rw[dpw,Ab3 x n];simp only[pwR];rw[Axq,Axq,Axq];grind
theorem Xc (x:Rat):∀ n:Nat,∃ d,∃ R:Rat->Rat,IsP d R/\∀ h,pwR (x+h) n=pwR x n+h*dpw x n+h*h*R h
 |0=>⟨0,fun _=>0,IsP.zero 0,fun h=>by simp only[pwR,dpw];grind⟩
 |n+1=>by
  obtain⟨d,R,hR,e⟩:=Xc x n;refine⟨d+1,fun h=>dpw x n+(x+1*h)*R h,(IsP.const d _).add (hR.mulLin x 1),fun h=>?_⟩;simp only[pwR,dpw];rw[e h];grind
def evD (d:Nat)(c:Nat->Rat)(x:Rat):Rat:=Aj d fun j=>c j*dpw x j
theorem IsP.ups {d:Nat}{f:Rat->Rat}(h:IsP d f):∀ k,IsP (d+k) f
 |0=>h
 |k+1=>(h.ups k).up
theorem Wr (c:Nat->Rat)(x:Rat):∀ n:Nat,∃ d,∃ R:Rat->Rat,IsP d R/\∀ h,evP n c (x+h)=evP n c x+h*evD n c x+h*h*R h
 |0=>⟨0,fun _=>0,IsP.zero 0,fun h=>by simp only[evP,evD,Aj];grind⟩
 |n+1=>by
  obtain⟨d,R,hR,e⟩:=Wr c x n;obtain⟨d',R',hR',e'⟩:=Xc x n;refine⟨d+d',fun h=>R h+c n*R' h,(hR.ups d').add (by have:=(hR'.ups d).smul (c n);rwa[Nat.add_comm]at this),fun h=>?_⟩;unfold evP evD at e⊢;simp only[Aj];rw[e h,e' h];grind
theorem Aq1 {n d:Nat}{c:Nat->Rat}{f G:Rat->Rat}{x:Rat}(hf:∀ x,f x=evP n c x)(hG:IsP d G)(h:∀ t,f (x+t)=f x+t*G t):G 0=evD n c x:=by
 obtain⟨d',R,hR,e⟩:=Wr c x n;have h1:IsP (d+d'+1) fun t=>G t+(-1)*(evD n c x+t*R t) :=
  ((hG.ups d').up).add ((((IsP.const (d+d') (evD n c x))).add ((by have:=(hR.ups d).mulx;rwa[show d'+d+1=d+d'+1 by omega]at this))).smul (-1))
 have h2:=h1.at0 fun t ht=>by
  have h3:=h t;rw[hf,hf,e t]at h3;have h4:t*(G t+(-1)*(evD n c x+t*R t))=0:=by grind
  rcases A0a.1 h4 with h5|h5
  ·exact absurd h5 ht
  ·exact h5
 grind
end
section
variable {A:Nat->Nat->Rat}{S:Nat->Bool}{c:Nat->Rat}{j n:Nat}
def idq (t i:Nat):Rat:=if i=t then 1 else 0
def dgS (S:Nat->Bool)(A:Nat->Nat->Rat)(x:Rat):Nat->Nat->Rat:=fun t i=>if S t then idq t i else x*idq t i+A i t
def E2 (n:Nat)(S:Nat->Bool)(A:Nat->Nat->Rat)(x:Rat):Rat:=qdt n (dgS S A x)
def Dh (S:Nat->Bool)(k:Nat):Nat->Bool:=fun t=>if t=k then true else S t
theorem Y5 (S:Nat->Bool)(A:Nat->Nat->Rat)(x:Rat)(t i:Nat):∃ a b:Rat,∀ h,dgS S A (x+h) t i=a+b*h:=by
 unfold dgS;by_cases e:S t=true
 ·exact⟨idq t i,0,fun h=>by rw[if_pos e];grind⟩
 ·exact⟨x*idq t i+A i t,idq t i,fun h=>by rw[if_neg e];grind⟩
theorem Ok (n:Nat)(S:Nat->Bool)(A:Nat->Nat->Rat):IsP (n+1) (E2 n S A) :=
 (IsP.det n (C:=fun x=>dgS S A (0+x)) fun t i=>Y5 S A 0 t i).congr fun x=>by
  show qdt n (dgS S A x)=qdt n (dgS S A (0+x));rw[Rat.zero_add]
def Io (S:Nat->Bool)(A:Nat->Nat->Rat)(x h:Rat)(k:Nat):Nat->Nat->Rat:=fun t=>if t<k then dgS S A (x+h) t else dgS S A x t
def unS (S:Nat->Bool)(k:Nat):Nat->Rat:=fun i=>if S k then 0 else idq k i
theorem Amg (n:Nat)(S:Nat->Bool)(A:Nat->Nat->Rat)(x h:Rat){k:Nat}(hk:k<n) :
 qdt n (Io S A x h (k+1))=qdt n (Io S A x h k)+h*qdt n (Bq (Io S A x h k) k (unS S k)):=by
 have h1:=Iu 1 h (dgS S A x k) (unS S k) (Io S A x h k) hk;have e1:Bq (Io S A x h k) k (fun i=>1*dgS S A x k i+h*unS S k i)=Io S A x h (k+1):=by
  funext t
  unfold Bq;by_cases e:t=k
  ·subst e;rw[if_pos rfl]
   funext i
   unfold Io;rw[if_pos oV];unfold dgS unS;by_cases e:S t=true
   ·rw[if_pos e,if_pos e,if_pos e];grind
   ·rw[if_neg e,if_neg e,if_neg e];grind
  ·rw[if_neg e];unfold Io;by_cases l:t<k
   ·rw[if_pos l,if_pos oV]
   ·rw[if_neg l,if_neg oV]
 have e2:Bq (Io S A x h k) k (dgS S A x k)=Io S A x h k:=by
  have:Io S A x h k k=dgS S A x k:=by unfold Io;rw[if_neg oV]
  rw[<-this];exact Fa _ _
 rw[e1,e2]at h1;rw[h1];grind
theorem Agu (n:Nat)(S:Nat->Bool)(A:Nat->Nat->Rat)(x h:Rat):∀ k,k<=n->qdt n (Io S A x h k)=E2 n S A x+h*Aj k fun j=>qdt n (Bq (Io S A x h j) j (unS S j))
 |0,_=>by
  rw[Aj,show Io S A x h 0=dgS S A x from funext fun t=>by unfold Io;rw[if_neg oV]];unfold E2;grind
 |k+1,hk=>by
  rw[Amg n S A x h hk,Agu n S A x h k oV,Aj];grind
theorem Akm (hc:∀ x,E2 n S A x=evP (n+1) c x)(x:Rat):(Aj n fun k=>if S k then 0 else E2 n (Dh S k) A x)=evD (n+1) c x:=by
 have hG:IsP (n+1) fun h=>Aj n fun j=>qdt n (Bq (Io S A x h j) j (unS S j)):=by
  refine IsP.sum n fun k hk=>IsP.det n (C:=fun h=>Bq (Io S A x h k) k (unS S k)) fun t i=>?_;unfold Bq;by_cases e:t=k
  ·exact⟨unS S k i,0,fun h=>by rw[if_pos e];grind⟩
  ·unfold Io;by_cases l:t<k
   ·obtain⟨a,b,q⟩:=Y5 S A x t i;exact⟨a,b,fun h=>by rw[if_neg e,if_pos l,q]⟩
   ·exact⟨dgS S A x t i,0,fun h=>by rw[if_neg e,if_neg l];grind⟩
 have h1:=Aq1 (x:=x) hc hG fun h=>by
  have h2:=Agu n S A x h n (Atb _);rw[<-h2];unfold E2;refine Dt fun t ht i _=>?_;unfold Io;rw[if_pos ht]
 rw[<-h1];refine Af fun k hk=>?_;have e1:Io S A x 0 k=dgS S A x:=funext fun t=>by
  unfold Io;split
  ·rw[Rat.add_zero]
  ·rfl
 rw[e1];by_cases e:S k=true
 ·rw[if_pos e,show unS S k=fun _=>0 from funext fun i=>by unfold unS;rw[if_pos e],Mh _ hk]
 ·rw[if_neg e];unfold E2
  congr 1
  funext t i
  unfold Bq;by_cases et:t=k
  ·subst et;rw[if_pos rfl];unfold dgS Dh unS;rw[if_pos rfl,if_pos rfl,if_neg e]
  ·rw[if_neg et];unfold dgS Dh;rw[if_neg et]
theorem Aqn (n:Nat)(c:Nat->Rat)(x:Rat):evD (n+1) c x=evP n (fun j=>((j+1:Nat):Rat)*c (j+1)) x:=by
 induction n with
 |zero=>unfold evD evP;simp only[Aj,dpw];grind
 |succ n ih =>
  unfold evD evP at ih⊢;rw[Aj,ih,Aj,Ab3];grind
theorem Ae0 {d:Nat}{c c':Nat->Rat}(h:∀ x,evP d c x=evP d c' x)(hj:j<d):c j=c' j:=by
 have:=Ze d (fun j=>c j+(-1)*c' j) (fun x _=>by
  have e:=h x;unfold evP at e⊢;rw[Af (g:=fun j=>c j*pwR x j+(-1)*(c' j*pwR x j)) fun j _=>by grind,B2,Bj,e];grind) j hj
 grind
theorem H5 (hc:∀ x,E2 n S A x=evP (n+1) c x){cs:Nat->Nat->Rat}(hcs:∀ k,k<n->S k=false->∀ x,E2 n (Dh S k) A x=evP (n+1) (cs k) x)(hj:j<n) :
 ((j+1:Nat):Rat)*c (j+1)=Aj n fun k=>if S k then 0 else cs k j:=by
 have h:=Ae0 (d:=n+1) (c:=fun j=>if j=n then 0 else ((j+1:Nat):Rat)*c (j+1)) (c':=fun j=>Aj n fun k=>if S k then 0 else cs k j) (fun x=>?_) (show j<n+1 by omega)
 ·rw[if_neg oV]at h;exact h
 ·have h1:=Akm hc x;rw[Aqn]at h1;have e1:evP (n+1) (fun j=>if j=n then 0 else ((j+1:Nat):Rat)*c (j+1)) x=evP n (fun j=>((j+1:Nat):Rat)*c (j+1)) x:=by
   have hz:Aj n (fun j=>(if j=n then 0 else ((j+1:Nat):Rat)*c (j+1))*pwR x j)=Aj n (fun j=>((j+1:Nat):Rat)*c (j+1)*pwR x j):=Af fun j hj=>by rw[if_neg oV]
   show Aj n (fun j=>(if j=n then 0 else ((j+1:Nat):Rat)*c (j+1))*pwR x j)+(if n=n then 0 else ((n+1:Nat):Rat)*c (n+1))*pwR x n=Aj n (fun j=>((j+1:Nat):Rat)*c (j+1)*pwR x j);rw[hz,if_pos rfl];grind
  rw[e1,<-h1];unfold evP;have sw:∀ (m:Nat) (f:Nat->Nat->Rat),(Aj m fun k=>Aj (n+1) fun j=>f k j)=Aj (n+1) fun j=>Aj m fun k=>f k j:=fun m f=>by
   induction m with
   |zero=>simp only[Aj];rw[show (Aj n fun _=>(0:Rat))=0 from B6 fun _ _=>rfl];grind
   |succ m ih=>rw[Aj,ih,<-B2];rfl
  rw[Af (g:=fun k=>Aj (n+1) fun j=>(if S k then 0 else cs k j)*pwR x j) fun k hk=>?_,sw]
  ·refine Af fun j _=>?_;rw[Af (g:=fun k=>pwR x j*(if S k then 0 else cs k j)) fun k _=>by grind,Bj];grind
  ·by_cases e:S k=true
   ·rw[if_pos e,B6 fun j _=>by rw[if_pos e];grind]
   ·rw[if_neg e,hcs k hk (by simpa using e)];unfold evP;exact Af fun j _=>by rw[if_neg e]
end
section
variable {A:Nat->Nat->Rat}{r:Nat}
def rfm (n:Nat)(A:Nat->Nat->Rat)(y:Nat->Rat):Rat:=Aj n fun i=>y i*Aj n fun k=>A i k*y k
def M4 (n:Nat)(A:Nat->Nat->Rat):Prop:=∀ i k,i<n->k<n->A i k=A k i
def O4 (n:Nat)(A:Nat->Nat->Rat):Prop:=∀ y,0<=rfm n A y
theorem O9 (hs:M4 (r+1) A)(y:Nat->Rat)(s:Rat) :
 rfm (r+1) A (fun i=>if i=r then s else y i)=rfm r A y+2*s*(Aj r fun k=>A r k*y k)+A r r*s*s:=by
 have e1:∀ i,Aj (r+1) (fun k=>A i k*(if k=r then s else y k))=Aj r (fun k=>A i k*y k)+A i r*s:=fun i=>by
  have hz:Aj r (fun k=>A i k*(if k=r then s else y k))=Aj r (fun k=>A i k*y k):=Af fun k hk=>by rw[if_neg oV]
  show Aj r (fun k=>A i k*(if k=r then s else y k))+A i r*(if r=r then s else y r)=_;rw[hz,if_pos rfl]
 unfold rfm;have e2:Aj (r+1) (fun i=>(if i=r then s else y i)*Aj (r+1) fun k=>A i k*(if k=r then s else y k))=Aj r (fun i=>y i*(Aj r (fun k=>A i k*y k)+A i r*s))+s*(Aj r (fun k=>A r k*y k)+A r r*s):=by
  have hz:Aj r (fun i=>(if i=r then s else y i)*Aj (r+1) fun k=>A i k*(if k=r then s else y k))=Aj r (fun i=>y i*(Aj r (fun k=>A i k*y k)+A i r*s)):=Af fun i hi=>by rw[if_neg oV,e1]
  show Aj r (fun i=>(if i=r then s else y i)*Aj (r+1) fun k=>A i k*(if k=r then s else y k))+(if r=r then s else y r)*Aj (r+1) (fun k=>A r k*(if k=r then s else y k))=_;rw[hz,if_pos rfl,e1]
 rw[e2,Af (g:=fun i=>y i*Aj r (fun k=>A i k*y k)+s*(A r i*y i)) fun i hi=>by rw[hs i r oV oV];grind,B2,Bj];grind
theorem Abr (hs:M4 (r+1) A)(h:O4 (r+1) A):O4 r A:=fun y=>by
 have:=h fun i=>if i=r then 0 else y i
 rw[O9 hs]at this;grind
theorem Abx (hs:M4 (r+1) A)(h:O4 (r+1) A):0<=A r r:=by
 have:=h fun i=>if i=r then 1 else 0
 rw[O9 hs (fun _=>0) 1]at this;have e:rfm r A (fun _=>0)=0:=by unfold rfm;exact B6 fun i _=>by grind
 have e2:Aj r (fun k=>A r k*(fun _=>(0:Rat)) k)=0:=B6 fun i _=>by grind
 rw[e,e2]at this;grind
theorem Aew (hs:M4 (r+1) A)(h:O4 (r+1) A)(h0:A r r=0){j:Nat}(hj:j<r):A r j=0:=by
 refine Au2 fun hn=>?_;have hK:∀ s,0<=rfm r A (idq j)+2*s*A r j:=fun s=>by
  have:=h fun i=>if i=r then s else idq j i
  rw[O9 hs,h0,D5 hj fun t ht hne=>by unfold idq;rw[if_neg hne];grind]at this;have e:idq j j=1:=if_pos rfl;rw[e]at this;grind
 have h1:=hK (-(rfm r A (idq j)+1)/(2*A r j));have e:2*(-(rfm r A (idq j)+1)/(2*A r j))*A r j = -(rfm r A (idq j)+1):=by grind
 rw[e]at h1;grind
def M0 (r:Nat)(A:Nat->Nat->Rat):Nat->Nat->Rat:=fun i k=>A i k-A i r*A r k/A r r
theorem S5 (hs:M4 (r+1) A):M4 r (M0 r A):=fun i k hi hk=>by
 unfold M0;rw[hs i k oV oV,hs i r oV oV,hs k r oV oV];grind
theorem Tc (hs:M4 (r+1) A)(h:O4 (r+1) A)(h0:A r r≠0):O4 r (M0 r A):=fun y=>by
 have h1:=h fun i=>if i=r then -(Aj r fun k=>A r k*y k)/A r r else y i
 rw[O9 hs]at h1;have e:rfm r (M0 r A) y=rfm r A y+(-(Aj r fun k=>A r k*y k)/A r r)*(Aj r fun k=>A r k*y k):=by
  unfold rfm M0;generalize hS:(Aj r fun k=>A r k*y k)=S;have e1:∀ i,Aj r (fun k=>(A i k-A i r*A r k/A r r)*y k)=Aj r (fun k=>A i k*y k)+(-(A i r)/A r r)*S:=fun i=>by
   rw[<-hS,<-Bj,<-B2];exact Af fun k _=>by grind
  rw[Af (g:=fun i=>y i*Aj r (fun k=>A i k*y k)+(-S/A r r)*(A r i*y i)) fun i hi=>by rw[e1,hs i r oV oV];grind,B2,Bj,hS]
 rw[e];generalize (Aj r fun k=>A r k*y k)=S at *
 have e2:2*(-S/A r r)*S+A r r*(-S/A r r)*(-S/A r r)=(-S/A r r)*S:=by grind
 grind
def mnS (S:Nat->Bool)(A:Nat->Nat->Rat):Nat->Nat->Rat:=fun t i=>if S t then idq t i else A i t
def Hm (r:Nat)(C:Nat->Nat->Rat)(m:Nat):Nat->Nat->Rat:=fun t=>if t<m then fun i=>1*C t i+(-(C t r/C r r))*C r i else C t
theorem Agq {r:Nat}(C:Nat->Nat->Rat):∀ m,m<=r->qdt (r+1) (Hm r C m)=qdt (r+1) C
 |0,_=>by
  rw[show Hm r C 0=C from funext fun t=>by unfold Hm;rw[if_neg oV]]
 |m+1,hm=>by
  rw[<-Agq C m oV];have h1:=Iu 1 (-(C m r/C r r)) (C m) (C r) (Hm r C m) (show m<r+1 by omega);have e1:Bq (Hm r C m) m (fun i=>1*C m i+(-(C m r/C r r))*C r i)=Hm r C (m+1):=by
   funext t
   unfold Bq Hm;by_cases e:t=m
   ·subst e;rw[if_pos rfl,if_pos oV]
   ·rw[if_neg e];by_cases l:t<m
    ·rw[if_pos l,if_pos oV]
    ·rw[if_neg l,if_neg oV]
  have e2:Bq (Hm r C m) m (C m)=Hm r C m:=by
   have:Hm r C m m=C m:=by unfold Hm;rw[if_neg oV]
   conv=>lhs;rw[<-this]
   exact Fa _ _
  have e3:qdt (r+1) (Bq (Hm r C m) m (C r))=0:=Abu (a:=m) (b:=r) oV oV oV (by
   rw[Fz,E5 _ oV];unfold Hm;rw[if_neg oV])
  rw[e1,e2,e3]at h1;rw[h1];grind
theorem Aav (C:Nat->Nat->Rat)(h0:C r r≠0):qdt (r+1) C=C r r*qdt r (Hm r C r):=by
 rw[<-Agq C r (Atb _),qdt,D5 (j:=r) oV]
 ·rw[Xy,show Hm r C r r=C r from by unfold Hm;rw[if_neg oV]];rw[Dt (C:=B9 r (Hm r C r)) (D:=Hm r C r) fun t ht i _=>by unfold B9;rw[if_pos ht]];grind
 ·intro t ht hne;have:Hm r C r t r=0:=by unfold Hm;rw[if_pos oV];grind
  rw[this];grind
theorem Pp:∀ (n:Nat) (S:Nat->Bool) (A:Nat->Nat->Rat),M4 n A->O4 n A->0<=qdt n (mnS S A)
 |0,_,_,_,_=>by show (0:Rat)<=1;decide
 |r+1,S,A,hs,h=>by
  have hs':M4 r A:=fun i k hi hk=>hs i k oV oV;by_cases e:S r=true
  ·have h1:=Pp r S A hs' (Abr hs h);have e1:mnS S A=Bq (mnS S A) r (idq r):=by
    have:mnS S A r=idq r:=funext fun i=>by unfold mnS;rw[if_pos e]
    conv=>rhs;rw[<-this]
    exact (Fa _ _).symm
   rw[e1,Acm _ _ fun i hi=>by unfold idq;rw[if_neg oV],show idq r r=1 from if_pos rfl];grind
  ·have hd:=Abx hs h;have hrr:∀ i,mnS S A r i=A i r:=fun i=>by unfold mnS;rw[if_neg e]
   by_cases h0:A r r=0
   ·have e1:qdt (r+1) (mnS S A)=qdt (r+1) (Bq (mnS S A) r fun _=>0):=Dt fun t ht i hi=>by
     unfold Bq;by_cases et:t=r
     ·subst et;rw[if_pos rfl,hrr];by_cases ei:i=t
      ·subst ei;exact h0
      ·rw[hs i t oV oV];exact Aew hs h h0 oV
     ·rw[if_neg et]
    rw[e1,Mh _ oV];exact Ay4
   ·have h1:=Pp r S (M0 r A) (S5 hs) (Tc hs h h0);rw[Aav _ (by rw[hrr];exact h0),hrr];have e1:qdt r (Hm r (mnS S A) r)=qdt r (mnS S (M0 r A)):=Dt fun t ht i hi=>by
     unfold Hm;rw[if_pos ht,hrr,hrr];unfold mnS M0;by_cases et:S t=true
     ·rw[if_pos et,if_pos et,if_pos et];have:idq t r=0:=if_neg oV;rw[this];grind
     ·rw[if_neg et,if_neg et,if_neg et];grind
    rw[e1];exact Rat.mul_nonneg hd h1
def D6 (n:Nat)(S:Nat->Bool):Nat:=((At3 n).filter fun k=>!S k).length
theorem Sd {n:Nat}{A:Nat->Nat->Rat}(hs:M4 n A)(h:O4 n A):∀ (m:Nat) (S:Nat->Bool) (c:Nat->Rat),D6 n S<=m->(∀ x,E2 n S A x=evP (n+1) c x)->∀ j,j<n+1->0<=c j
 |m,S,c,hm,hc,0,_=>by
  have h1:=hc 0;have e1:E2 n S A 0=qdt n (mnS S A):=by
   unfold E2
   congr 1
   funext t i
   unfold dgS mnS;split
   ·rfl
   ·grind
  have e2:evP (n+1) c 0=c 0:=by
   unfold evP;rw[D5 (j:=0) oV fun t ht hne=>by
    obtain⟨s,rfl⟩:∃ s,t=s+1:=⟨t-1,oV⟩;simp only[pwR];grind]
   simp only[pwR];grind
  rw[e1,e2]at h1;rw[<-h1];exact Pp n S A hs h
 |m,S,c,hm,hc,j+1,hj=>by
  have hcs:∀ k,∃ d:Nat->Rat,∀ x,E2 n (Dh S k) A x=evP (n+1) d x:=fun k=>Ok n (Dh S k) A;obtain⟨cs,hcs⟩:∃ cs:Nat->Nat->Rat,∀ k x,E2 n (Dh S k) A x=evP (n+1) (cs k) x:=⟨fun k=>(hcs k).choose,fun k=>(hcs k).choose_spec⟩;have h1:=H5 hc (cs:=cs) (fun k _ _ x=>hcs k x) (show j<n by omega);have h2:0<=Aj n fun k=>if S k then 0 else cs k j:=by
   have hk:∀ k,k<n->0<=(if S k then (0:Rat) else cs k j):=fun k hk=>by
    by_cases e:S k=true
    ·rw[if_pos e];exact Ay4
    ·rw[if_neg e];have hlt:D6 n (Dh S k)<D6 n S:=by
      unfold D6;have hsub:((At3 n).filter fun t=>!Dh S k t)=((At3 n).filter fun t=>!S t).filter fun t=>decide (t≠k):=by
       rw[List.filter_filter];refine List.filter_congr fun t _=>?_;unfold Dh;by_cases et:t=k
       ·simp[et]
       ·simp[et]
      rw[hsub];refine Nat.lt_of_le_of_ne (Aw8 _ _) fun he=>?_;have:=List.length_filter_eq_length_iff.1 he k (Axo.2 ⟨Axf.2 hk,by simpa using e⟩);simp at this
     exact Sd hs h (m-1) (Dh S k) (cs k) oV (hcs k) j oV
   have:∀ m,m<=n->0<=Aj m fun k=>if S k then 0 else cs k j:=fun m=>by
    induction m with
    |zero=>intro _;exact Ay4
    |succ m ih=>intro hm;rw[Aj];exact Rat.add_nonneg (ih oV) (hk m oV)
   exact this n (Atb _)
  rw[<-h1]at h2;have h3:(0:Rat)<((j+1:Nat):Rat):=Rat.natCast_pos.2 oV;refine Rat.not_lt.1 fun hn=>?_;have:=Azv h3 (show 0 < -c (j+1) by grind);grind
end
section
variable {A:Nat->Nat->Rat}{S:Nat->Bool}{k n r:Nat}
theorem Agg (e:S r=true):qdt (r+1) (mnS S A)=qdt r (mnS S A):=by
 have e1:mnS S A=Bq (mnS S A) r (idq r):=by
  have:mnS S A r=idq r:=funext fun i=>by unfold mnS;rw[if_pos e]
  conv=>rhs;rw[<-this]
  exact (Fa _ _).symm
 conv=>lhs;rw[e1]
 rw[Acm _ _ fun i hi=>by unfold idq;rw[if_neg oV],show idq r r=1 from if_pos rfl];grind
theorem Amz (e:S r=false)(h0:A r r≠0):qdt (r+1) (mnS S A)=A r r*qdt r (mnS S (M0 r A)):=by
 have hrr:∀ i,mnS S A r i=A i r:=fun i=>by unfold mnS;rw[if_neg (by simp[e])]
 rw[Aav _ (by rw[hrr];exact h0),hrr];have e1:qdt r (Hm r (mnS S A) r)=qdt r (mnS S (M0 r A)):=Dt fun t ht i hi=>by
  unfold Hm;rw[if_pos ht,hrr,hrr];unfold mnS M0;by_cases et:S t=true
  ·rw[if_pos et,if_pos et,if_pos et];have:idq t r=0:=if_neg oV;rw[this];grind
  ·rw[if_neg et,if_neg et,if_neg et];grind
 rw[e1]
theorem Apd (hs:M4 (r+1) A)(h:O4 (r+1) A)(e:S r=false)(h0:A r r=0):qdt (r+1) (mnS S A)=0:=by
 have e1:qdt (r+1) (mnS S A)=qdt (r+1) (Bq (mnS S A) r fun _=>0):=Dt fun t ht i hi=>by
  unfold Bq;by_cases et:t=r
  ·subst et;rw[if_pos rfl];unfold mnS;rw[if_neg (by simp[e])];by_cases ei:i=t
   ·subst ei;exact h0
   ·rw[hs i t oV oV];exact Aew hs h h0 oV
  ·rw[if_neg et]
 rw[e1,Mh _ oV]
theorem Am1 (S:Nat->Bool)(k:Nat):Dh S k k=true:=if_pos rfl
theorem X9 (S:Nat->Bool){k t:Nat}(h:t≠k):Dh S k t=S t:=if_neg h
theorem Qw:∀ (n:Nat) (S:Nat->Bool) (A:Nat->Nat->Rat),M4 n A->O4 n A->0<qdt n (mnS S A)->(∃ k,k<n/\S k=false)->∃ k,k<n/\S k=false/\0<qdt n (mnS (Dh S k) A)
 |0,_,_,_,_,_,⟨k,hk,_⟩=>oV
 |r+1,S,A,hs,h,hp,⟨k0,hk0,hS0⟩=>by
  have hs':M4 r A:=fun i k hi hk=>hs i k oV oV;cases e:S r with
  |true =>
   rw[Agg e]at hp;have hk:k0<r:=by
    refine Au2 fun hn=>?_;have:k0=r:=oV
    rw[this,e]at hS0;cases hS0
   obtain⟨k,h1,h2,h3⟩:=Qw r S A hs' (Abr hs h) hp ⟨k0,hk,hS0⟩;exact⟨k,oV,h2,by rw[Agg (by rw[X9 _ oV];exact e)];exact h3⟩
  |false =>
   have h0:A r r≠0:=fun h0=>by rw[Apd hs h e h0]at hp;exact absurd hp fV
   have hd:=Abx hs h;rw[Amz e h0]at hp;have hm:=Pp r S (M0 r A) (S5 hs) (Tc hs h h0);have hm':0<qdt r (mnS S (M0 r A)):=by
    refine Au2 fun hn=>?_;have:qdt r (mnS S (M0 r A))=0:=by grind
    rw[this]at hp;grind
   have hd':0<A r r:=by grind
   by_cases hf:∃ k,k<r/\S k=false
   ·obtain⟨k,h1,h2,h3⟩:=Qw r S (M0 r A) (S5 hs) (Tc hs h h0) hm' hf;exact⟨k,oV,h2,by rw[Amz (by rw[X9 _ oV];exact e) h0];exact Azv hd' h3⟩
   ·refine⟨r,oV,e,?_⟩;rw[Agg (Am1 _ _)];have e1:qdt r (mnS (Dh S r) A)=qdt r (mnS S (M0 r A)):=Dt fun t ht i hi=>by
     have hst:S t=true:=by
      cases h2:S t with
      |true=>rfl
      |false=>exact absurd ⟨t,ht,h2⟩ hf
     unfold mnS;rw[X9 _ oV,if_pos hst,if_pos hst]
    rw[e1];exact hm'
theorem Aem {c:Nat->Rat}:evP (n+1) c 0=c 0:=by
 unfold evP;rw[D5 (j:=0) oV fun t ht hne=>by
  obtain⟨s,rfl⟩:∃ s,t=s+1:=⟨t-1,oV⟩;simp only[pwR];grind]
 simp only[pwR];grind
theorem Uy :E2 n S A 0=qdt n (mnS S A):=by
 unfold E2
 congr 1
 funext t i
 unfold dgS mnS;split
 ·rfl
 ·grind
theorem Ae8 {f:Nat->Rat}:∀ {n:Nat},(∀ k,k<n->0<=f k)->0<=Aj n f
 |0,_=>Ay4
 |n+1,h=>by rw[Aj];exact Rat.add_nonneg (Ae8 fun k hk=>h k oV) (h n oV)
theorem Vd {f:Nat->Rat}:∀ {n:Nat},(∀ k,k<n->0<=f k)->∀ {j:Nat},j<n->0<f j->0<Aj n f
 |0,_,j,hj,_=>oV
 |n+1,h,j,hj,hp=>by
  rw[Aj];by_cases e:j=n
  ·subst e;have:=Ae8 (n:=j) (f:=f) fun k hk=>h k oV;grind
  ·have:=Vd (n:=n) (f:=f) (fun k hk=>h k oV) (j:=j) oV hp;have:=h n oV;grind
theorem Aft {f:Nat->Rat}:∀ {n:Nat},0<Aj n f->∃ k,k<n/\0<f k
 |0,h=>absurd h (by simp only[Aj];decide)
 |n+1,h=>by
  rw[Aj]at h;by_cases e:0<f n
  ·exact⟨n,oV,e⟩
  ·obtain⟨k,h1,h2⟩:=Aft (n:=n) (f:=f) (by grind);exact⟨k,oV,h2⟩
theorem Aay (hk:k<n)(e:S k=false):D6 n (Dh S k)<D6 n S:=by
 unfold D6;have hsub:((At3 n).filter fun t=>!Dh S k t)=((At3 n).filter fun t=>!S t).filter fun t=>decide (t≠k):=by
  rw[List.filter_filter];refine List.filter_congr fun t _=>?_;unfold Dh;by_cases et:t=k
  ·simp[et]
  ·simp[et]
 rw[hsub];refine Nat.lt_of_le_of_ne (Aw8 _ _) fun he=>?_;have:=List.length_filter_eq_length_iff.1 he k (Axo.2 ⟨Axf.2 hk,by simp[e]⟩);simp at this
theorem Yo (n:Nat)(S:Nat->Bool)(A:Nat->Nat->Rat):∃ cs:Nat->Nat->Rat,∀ k x,E2 n (Dh S k) A x=evP (n+1) (cs k) x:=by
 have hcs:∀ k,∃ d:Nat->Rat,∀ x,E2 n (Dh S k) A x=evP (n+1) d x:=fun k=>Ok n (Dh S k) A;exact⟨fun k=>(hcs k).choose,fun k=>(hcs k).choose_spec⟩
theorem Ue {j:Nat}{c:Rat}(h:0<((j+1:Nat):Rat)*c):0<c:=by
 have h3:(0:Rat)<((j+1:Nat):Rat):=Rat.natCast_pos.2 oV;refine Au2 fun hn=>?_;by_cases e:c=0
 ·rw[e]at h;grind
 ·have:=Azv h3 (show 0 < -c by grind);grind
theorem Ac2 (k:Nat):∀ {l:List Nat},l.Nodup->l.length<=(l.filter fun t=>decide (t≠k)).length+1
 |[],_=>mV
 |a::l,h=>by
  obtain⟨q1,q2⟩:=List.nodup_cons.1 h;by_cases ea:a=k
  ·have e:l.filter (fun t=>decide (t≠k))=l:=List.filter_eq_self.2 fun t ht=>by
    have:t≠k:=fun e=>q1 (by rw[ea,<-e];exact ht);exact decide_eq_true this
   rw[List.filter_cons_of_neg (by simp[ea]),e,Auh];exact Atb _
  ·have:=Ac2 k q2;rw[List.filter_cons_of_pos (by simp[ea]),Auh,Auh];omega
theorem Zs {n:Nat}{A:Nat->Nat->Rat}(hs:M4 n A)(h:O4 n A):∀ (m:Nat) (S:Nat->Bool) (c:Nat->Rat),D6 n S<=m->(∀ x,E2 n S A x=evP (n+1) c x)->∀ j,j<n->0<c j->(∃ k,k<n/\S k=false)->(∀ k,k<n->S k=false->j<D6 n S)->0<c (j+1)
 |m,S,c,hm,hc,0,hj,hp,hf,hjf=>by
  obtain⟨cs,hcs⟩:=Yo n S A;have h1:=H5 hc (cs:=cs) (fun k _ _ x=>hcs k x) hj;have h0:=hc 0;rw[Uy,Aem]at h0;obtain⟨k,k1,k2,k3⟩:=Qw n S A hs h (by rw[h0];exact hp) hf;refine Ue (j:=0) ?_;rw[h1];refine Vd (fun t ht=>?_) k1 ?_
  ·by_cases e:S t=true
   ·rw[if_pos e];exact Ay4
   ·rw[if_neg e];exact Sd hs h _ (Dh S t) (cs t) (Atb _) (hcs t) 0 oV
  ·rw[if_neg (by simp[k2])];have h4:=hcs k 0;rw[Uy,Aem]at h4;rw[<-h4];exact k3
 |m,S,c,hm,hc,j+1,hj,hp,hf,hjf=>by
  obtain⟨cs,hcs⟩:=Yo n S A;have h1:=H5 hc (cs:=cs) (fun k _ _ x=>hcs k x) (show j<n by omega);have h2:=H5 hc (cs:=cs) (fun k _ _ x=>hcs k x) hj;have h3:0<Aj n fun k=>if S k then 0 else cs k j:=by
   rw[<-h1];exact Azv (Rat.natCast_pos.2 oV) hp
  obtain⟨k,k1,k2⟩:=Aft h3;have k3:S k=false:=by
   cases e:S k with
   |true=>rw[e]at k2;exact absurd k2 mV
   |false=>rfl
  rw[if_neg (by simp[k3])]at k2;have hlt:=Aay k1 k3;have hj2:=hjf k k1 k3;have hfr:D6 n S<=D6 n (Dh S k)+1:=by
   unfold D6;have hsub:((At3 n).filter fun t=>!Dh S k t)=((At3 n).filter fun t=>!S t).filter fun t=>decide (t≠k):=by
    rw[List.filter_filter];refine List.filter_congr fun t _=>?_;unfold Dh;by_cases et:t=k
    ·simp[et]
    ·simp[et]
   rw[hsub];have hnd:((At3 n).filter fun t=>!S t).Nodup:=List.nodup_range.sublist List.filter_sublist;exact Ac2 k hnd
  have k4:0<cs k (j+1):=by
   by_cases hfk:∃ t,t<n/\Dh S k t=false
   ·exact Zs hs h (m-1) (Dh S k) (cs k) oV (hcs k) j oV k2 hfk (fun _ _ _=>oV)
   ·exfalso;have:D6 n (Dh S k)=0:=by
     unfold D6;rw[List.filter_eq_nil_iff.2 fun t ht=>by
      have:=Axf.1 ht;cases e:Dh S k t with
      |true=>simp
      |false=>exact absurd ⟨t,this,e⟩ hfk];rfl
    omega
  refine Ue (j:=j+1) ?_;rw[h2];refine Vd (fun t ht=>?_) k1 (by rw[if_neg (by simp[k3])];exact k4);by_cases e:S t=true
  ·rw[if_pos e];exact Ay4
  ·rw[if_neg e];exact Sd hs h _ (Dh S t) (cs t) (Atb _) (hcs t) (j+1) oV
end
end Go.Proofs.YtnafchoihfnkeaaGreatDoor
