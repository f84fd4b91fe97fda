/- Parts of one proof, joined by a program. -/
import Derived.Test.YtanfagpabkdmiaaGreatDoorL08
set_option linter.unusedVariables false
set_option linter.unusedSimpArgs false
set_option linter.unusedSectionVars false
set_option maxHeartbeats 16000000
namespace Go.Proofs.YtanfagpabkdmiaaGreatDoor
open Go.Proofs.Tryz
section
open Go.RowKit Go.MapKept
variable {F:CF}{N b sz:Nat}{es:List Value}{v:Value}
def Apc (u m:PH)(v:Value)(F:CF)(N:Nat):Prop :=
 ∃ b a n c b' a' n' c' g1 g2 o1 o2,v=.agg #[.bool b,.slice a n c,.bool b',.slice a' n' c',.map (some g1),.map (some g2)]∧QP u (.agg #[.bool b,.slice a n c,.bool b',.slice a' n' c']) F.c∧(u g1=some o1∨m g1=some o1)∧(u g2=some o2∨m g2=some o2)∧C5 An KT u o1 F.s N∧C5 prV KO u o2 F.t N
theorem H6.i {u m:PH}(h:H6 m u v F N):Apc u m v F N:=by
 obtain ⟨b,a,n,c,b',a',n',c',g1,g2,o1,o2,e,h1,h2,rfl,h4,h5⟩:=h;exact ⟨b,a,n,c,b',a',n',c',g1,g2,o1,o2,e,h1,.inr (by rw [Ad _ _ h2,Ac]),.inr (Ac _ _ _),h4,h5⟩
section
variable {P:Program} [Ba P] {fn:Func} {Post:B0} {st:List KI×S} {u m:PH}
theorem G.appendMV (e:TypeId)(sz bt:Nat)(z:Value)(m0:PH)(es xs:List Value)(v:Value)(a:Option Addr)(n c:Nat)(h:Al P (adv P st)=.app (some (e,sz,bt,z)) true [v,.slice a n c])(hz:z.cells.toList.all Be=true)(hzs:z.cells.size=sz)(hsz:0 < sz)
  (ha:Ae m0 m v e sz es) (hn:n=xs.length) (hx:xs≠[]→∃ b off,a=some ⟨b,off,none⟩∧El m b off sz xs) (ho:A3 sz xs) (hb:(es.length+xs.length)*bt≤140737488355328) (hb2:es.length+xs.length≤9223372036854775807)
  (k:∀ v' m',Ae m0 m' v' e sz (es++xs)→G P fn Post (nx (adv P st) v') u m'):G P fn Post st u m:=by
 cases xs with
 | nil =>
  simp only [List.length_nil] at hn;subst hn;obtain ⟨a1,c1,rfl⟩:=ha.shape;refine G.append0 e sz bt z a1 a es.length c1 c h ha.cap ?_;exact k _ _ (by rw [List.append_nil]; exact ha)
 | cons x xs =>
  obtain ⟨b,off,rfl,hx'⟩:=hx (by simp);subst hn;exact G.appendM e sz bt z m0 es (x::xs) v b off _ c h hz hzs hsz ha hx' ho rfl (by simp) hb hb2 k
end
theorem Ae.els {m0 m:PH}{t:TypeId}{b n c:Nat}(h:Ae m0 m (.slice (some ⟨b,0,none⟩) n c) t sz es):El m b 0 sz es:=fun j e hj=>h.el hj
theorem El.drop {m:PH}(h:El m b 0 sz es)(k:Nat):El m b (0+k*sz) sz (es.drop k):=fun j e hj=>by
 have:=h (k+j) e (by rw [List.getElem?_drop] at hj; exact hj);rw [Nat.add_mul,Nat.zero_add] at this;rw [Nat.zero_add]; exact this
theorem Afr (l:List (Par×Rat)):A3 3 (l.map A5):=fun e he=>by
 obtain ⟨p,_,rfl⟩:=List.mem_map.1 he;exact Ot p _ (by simp)
theorem Agm (l:List ((Par×Par)×Rat)):A3 5 (l.map Da):=fun e he=>by
 obtain ⟨p,_,rfl⟩:=List.mem_map.1 he;exact Aei p _ (by simp)
theorem Ok {q:Rat}:q.num=0↔q=0:=Rat.num_eq_zero
theorem Agc {u m:PH}(h:Apc u m v F N)(sF:CFS F)(hN:N≤1000000) :
  FnK prog 67 [v] u m fun r u'=>Apm u' r F N:=by
 obtain ⟨b,a,n,c,b',a',n',c',g1,g2,o1,o2,rfl,hF,hg1,hg2,s1,s2⟩:=h;obtain ⟨l1,⟨es1,clk1,rfl,hkv1,hst1⟩,hl1,hz1,hn1⟩:=s1.at;obtain ⟨l2,⟨es2,clk2,rfl,hkv2,hst2⟩,hl2,hz2,hn2⟩:=s2.at;have hnd1:(l1.map (·.1)).Nodup:=Ec.nodup (enc:=An) ⟨es1,clk1,rfl,hkv1,hst1⟩;have hnd2:(l2.map (·.1)).Nodup:=Ec.nodup (enc:=prV) ⟨es2,clk2,rfl,hkv2,hst2⟩;have sit1:∀ {u' m':PH},PH.le u u'→PH.le m m'→u' g1=some (.map es1 clk1)∨m' g1=some (.map es1 clk1):=fun a b=>hg1.elim (fun e=>.inl (a _ _ e)) (fun e=>.inr (b _ _ e));have sit2:∀ {u' m':PH},PH.le u u'→PH.le m m'→u' g2=some (.map es2 clk2)∨m' g2=some (.map es2 clk2):=fun a b=>hg2.elim (fun e=>.inl (a _ _ e)) (fun e=>.inr (b _ _ e));refine FnK.of func67 (by kernel_rfl) (by kernel_rfl) ?_;refine G.c call35 (Kw hF (SB.tx sF.c)) ?_;rintro v1 u1 le1 rfl;refine G.nF 0 0 ?_;refine G.mapRange g1 es1 clk1 79 68 (by kernel_rfl) (sit1 le1 (fun _ _ h=>h)) ?_;intro it him hiu;have hlem:∀ o,PH.le m (m.upd it o):=fun o=>Jw o him;refine G.l (ι:=List MapEntry×List (Par×Value)×List (Par×Rat)×(Option Addr×Nat)) (fun i=>[(1,.p 0 0),(2,.p 1 0),(6,.p 2002 0),(33,.v (.pointer (some ⟨it,0,none⟩)))])
  (fun i=>[(0,⟨136,[.v (.bool b),.v (.slice a n c),.v (.bool b'),.v (.slice a' n' c'),.v (.map (some g1)),.v (.map (some g2))]⟩),(1,⟨37,[.v (.string (mkS [])),.v (.slice none 0 0),.v (.slice none 0 0)]⟩),(2002,⟨37,[.v (.string (mkS (Af F.c))),.v (.slice i.2.2.2.1 i.2.2.1.length i.2.2.2.2),.v (.slice none 0 0)]⟩)])
  (fun i u' m'=>Eq An es1 l1 i.1 i.2.1∧Ox A8 F.s (i.2.1.map (·.1)) i.2.2.1∧i.2.2.1.length≤i.2.1.length∧Ae (m.upd it (.mapIter (some g1) clk1 (Ar i.1) clk1)) m' (.slice i.2.2.2.1 i.2.2.1.length i.2.2.2.2) 81 3 (i.2.2.1.map A5))
  (fun i=>l1.length - i.2.1.length) ([],[],[],(none,0))
  ⟨Eq.nil _ _,Ox.nil,Nat.le_refl _,Ae.nil _ _ _⟩ ?_
 rintro J ⟨D,L,S,⟨sa,sc⟩⟩ hJ u2 m2 l2' ⟨hS,hI,hSL,hA⟩;simp only at hS hI hSL hA hJ;have le2:=le1.trans l2';have hit:m2 it=some (.mapIter (some g1) clk1 (Ar D) clk1):=hA.see (Ac _ _ _);have hlm2:PH.le m m2:=fun g o hg=>hA.see (hlem _ g o hg);refine G.mapNextL Bt.inj it g1 es1 clk1 l1 D L (by kernel_rfl) (by kernel_rfl) hit (sit1 le2 hlm2) hst1 hkv1 hnd1 hS ?done1 ?next1
 case next1 =>
  rintro ⟨k,xv⟩ e hp hkn he hek hev hS';simp only at hkn hek hev;have hx:=(hl1 _ hp).1;simp only at hx;obtain ⟨yb,ya,yn,yc,ya',yn',yc',rfl,_⟩:=hx.opn;have hA1:=hA.base (b:=it) (o:=.mapIter (some g1) clk1 (Ar (D++[e])) clk1) (by rw [Ac]; simp);rw [Dh] at hA1;have hlm3:PH.le m (m2.upd it (.mapIter (some g1) clk1 (Ar (D++[e])) clk1)):=fun g o hg=>hA1.see (hlem _ g o hg);refine G.mapEntry it g1 es1 clk1 D e (by kernel_rfl) (Ac _ _ _) (sit1 le2 hlm3) hst1 he ?_;rw [hek,hev];have hSlen:=hS'.len;simp only [List.length_append,List.length_cons,List.length_nil] at hSlen;have hqs:=sF.s k;refine G.c call141 (Lm (hx.mono le2) (by have:=(SB.sz hqs).1; omega)) ?_;rintro v3 u3 l3 rfl;by_cases h0:F.s k=0
  ·rw [decide_eq_true (Ok.2 h0)];refine G.b (hJ (D++[e],L++[(k,_)],S,(sa,sc)) _ _ _ cv (l2'.trans l3) ⟨hS',by dsimp only; rw [List.map_append]; exact hI.skip h0,by dsimp only; simp; omega,hA1⟩ (by have:=hS'.len; simp at this; dsimp only; simp; omega))
  ·rw [decide_eq_false (fun e=>h0 (Ok.1 e))];refine G.c call35 (Kw (hx.mono (le2.trans l3)) (SB.tx hqs)) ?_;rintro v4 u4 l4 rfl;refine G.nF 0 0 ?_;have hA4:=hA1;generalize hm3:m2.upd it (.mapIter (some g1) clk1 (Ar (D++[e])) clk1)=m3 at hA4 hlm3;have hkS:k∉L.map (·.1):=hkn;refine G.l (ι:=Nat) (fun n=>[(1,.p 0 0),(2,.p 1 0),(6,.p 2002 0),(7,.p 7003 0),(11,.p 12003 0),(12,.v (.int .i64 (n:Int))),(33,.v (.pointer (some ⟨it,0,none⟩)))])
    (fun _=>[(0,⟨136,[.v (.bool b),.v (.slice a n c),.v (.bool b'),.v (.slice a' n' c'),.v (.map (some g1)),.v (.map (some g2))]⟩),(1,⟨37,[.v (.string (mkS [])),.v (.slice none 0 0),.v (.slice none 0 0)]⟩),(2002,⟨37,[.v (.string (mkS (Af F.c))),.v (.slice sa S.length sc),.v (.slice none 0 0)]⟩),(7003,⟨79,[.v (.int .i64 k.1),.v (.string (mkS k.2))]⟩),(12003,⟨81,[.v (.int .i64 k.1),.v (.string (mkS k.2)),.v (.string (mkS (Af (F.s k))))]⟩)])
    (fun n u' m'=>n≤S.length∧(∀ j x,j < n→S[j]?=some x→A8 x.1 k < 0)∧m'=m3) (fun n=>S.length - n) 0 ⟨by omega,fun j x hj=>by omega,rfl⟩ ?_
   rintro J2 n2 hJ2 u5 m5 l5 ⟨hn2,hlow,rfl⟩;have le5:=((le2.trans l3).trans l4).trans l5;refine G.joinF (ι:=Unit) (fun st=>Xy prog st [.bool false]) (fun _=>[(1,.p 0 0),(2,.p 1 0),(6,.p 2002 0),(11,.p 12003 0),(12,.v (.int .i64 (n2:Int))),(33,.v (.pointer (some ⟨it,0,none⟩)))])
    (fun _=>[(0,⟨136,[.v (.bool b),.v (.slice a n c),.v (.bool b'),.v (.slice a' n' c'),.v (.map (some g1)),.v (.map (some g2))]⟩),(1,⟨37,[.v (.string (mkS [])),.v (.slice none 0 0),.v (.slice none 0 0)]⟩),(2002,⟨37,[.v (.string (mkS (Af F.c))),.v (.slice sa S.length sc),.v (.slice none 0 0)]⟩),(12003,⟨81,[.v (.int .i64 k.1),.v (.string (mkS k.2)),.v (.string (mkS (Af (F.s k))))]⟩)])
    (fun _ u' m'=>m'=m5∧∀ x,S[n2]?=some x→¬ A8 x.1 k < 0) (fun _=>by kernel_rfl) (by kernel_rfl) ?tail ?way
   case way =>
    intro hjoin;by_cases hlt:n2 < S.length
    ·refine G.lT (n2:Int) (S.length:Int) ?_;obtain ⟨x,hSx⟩:∃ x,S[n2]?=some x:=⟨_,List.getElem?_eq_getElem hlt⟩;obtain ⟨gs,cs,hgc⟩:=hA4.ptr (fun e=>by
      have:S.length=0:=by simpa using congrArg List.length e
      omega)
     simp only [Value.slice.injEq] at hgc;obtain ⟨rfl,_,rfl⟩:=hgc;refine G.a gs 0 S.length sc n2 3 hlt ?_;refine G.f 81 gs (0+n2*3) 0 0 ?_;have hel:ElP m5 gs (0+n2*3) (A5 x):=hA4.el (by rw [List.getElem?_map,hSx]; rfl);refine G.lM (some 2) gs (0+n2*3+0) (.agg #[.int .i64 x.1.1,.string (mkS x.1.2)]) (hel.sub (k:=0) fun i y hy=>by
      match i,hy with
      | 0,hy=>simpa [A5,Value.cells] using hy
      | 1,hy=>simpa [A5,Value.cells] using hy
      | i+2,hy=>simp [Value.cells] at hy) ?_
     by_cases hc:A8 x.1 k < 0
     ·refine G.c call93 (Dq x.1 k true (decide_eq_true hc)) ?_;rintro v6 u6 l6 rfl;refine G.i n2 ?_;exact G.b (hJ2 (n2+1) _ _ _ cv (l5.trans l6) ⟨by omega,fun j y hj hy=>by
       rcases (by omega:j < n2∨j=n2) with e | rfl
       ·exact hlow j y e hy
       ·rw [hSx] at hy; cases hy; exact hc,rfl⟩ (by omega))
     ·refine G.c call93 (Dq x.1 k false (decide_eq_false hc)) ?_;rintro v6 u6 l6 rfl;exact hjoin () _ _ _ (by kernel_rfl) cv l6 ⟨rfl,fun y hy=>by rw [hSx] at hy; cases hy; exact hc⟩
    ·refine G.lF (n2:Int) (S.length:Int) ?_;exact hjoin () _ _ _ (by kernel_rfl) cv (PH.le_refl _) ⟨rfl,fun y hy=>by rw [List.getElem?_eq_none (by omega)] at hy; cases hy⟩
   rintro _ u6 m6 l6 ⟨rfl,hhigh⟩;have hcap:=hA4.cap;refine G.sliceTo 3 sa S.length sc n2 (by kernel_rfl) (by omega) ?_;refine G.sliceFromG sa S.length sc n2 3 (by kernel_rfl) hn2 hcap ?_;refine G.buildM 81 3 40 (.agg #[.int .i64 0,.string (mkS []),.string (mkS [])]) [.agg #[.int .i64 k.1,.string (mkS k.2),.string (mkS (Af (F.s k)))]] (by kernel_rfl) (Ot (k,F.s k)) rfl (by omega) (by simp) (by simp) ?_;intro gt m7 hT7;refine G.appendMV 81 3 40 (.agg #[.int .i64 0,.string (mkS []),.string (mkS [])]) m6 [.agg #[.int .i64 k.1,.string (mkS k.2),.string (mkS (Af (F.s k)))]] ((S.drop n2).map A5) (.slice (some ⟨gt,0,none⟩) 1 1) (if sc=n2 then sa else sa.map (·.add (n2*3))) (S.length - n2) (sc - n2) (by kernel_rfl) rfl rfl (by omega) hT7 (by simp) (fun hne=>?_) (Afr _) (by simp; omega) (by simp; omega) ?_
   ·have hlt:n2 < S.length:=by
     rcases Nat.lt_or_ge n2 S.length with h | h
     ·exact h
     ·exact absurd (by rw [List.drop_of_length_le h]; rfl) hne
    obtain ⟨gs,cs,hgc⟩:=hA4.ptr (fun e=>by
     have:S.length=0:=by simpa using congrArg List.length e
     omega)
    simp only [Value.slice.injEq] at hgc;obtain ⟨rfl,_,rfl⟩:=hgc;refine ⟨gs,0+n2*3,?_,?_⟩
    ·rw [if_neg (by omega)];simp [Db]
    ·have:=hA4.els.drop n2;rw [← List.map_drop] at this;exact fun j e hj i y hy=>by
      obtain ⟨cs,t,fr,q1,q2⟩:=this j e hj i y hy;exact ⟨cs,t,fr,hT7.le _ _ q1,q2⟩
   intro v8 m8 hT8;obtain ⟨a8,c8,rfl⟩:=hT8.ptr (by simp);have hAt:=hA4.take (k:=n2) (by rw [List.length_map]; exact hn2);obtain ⟨mx,hy1,hx1,hput⟩:=At.swap (x:=⟨.slice sa n2 sc,81,3,(S.map A5).take n2⟩) (y:=⟨.slice (some ⟨a8,0,none⟩) _ c8,81,3,_⟩) hT8 hAt;refine G.appendM 81 3 40 (.agg #[.int .i64 0,.string (mkS []),.string (mkS [])]) mx ((S.map A5).take n2) _ (.slice sa n2 sc) a8 0 _ c8 (by kernel_rfl) rfl rfl (by omega) hx1 hT8.els hT8.1 rfl (by simp) (by simp; omega) (by simp; omega) ?_;intro v9 m9 hA9;obtain ⟨mz,hz1,hz2⟩:=hput ⟨v9,81,3,_⟩ m9 hA9;have hes:(S.map A5).take n2++([.agg #[.int .i64 k.1,.string (mkS k.2),.string (mkS (Af (F.s k)))]]++(S.drop n2).map A5)=(S.take n2++[(k,F.s k)]++S.drop n2).map A5:=by
    rw [List.map_append,List.map_append,List.map_take,List.append_assoc]; rfl
   have hz3:Ae (m.upd it (.mapIter (some g1) clk1 (Ar (D++[e])) clk1)) mz v9 81 3 ((S.take n2++[(k,F.s k)]++S.drop n2).map A5):=by rw [← hes]; exact hz2
   obtain ⟨a9,c9,rfl⟩:=hz3.shape;rw [List.length_map] at hz3 ⊢;have hS9:(S.take n2++[(k,F.s k)]++S.drop n2).length=S.length+1:=by simp; omega
   refine G.drop mz (by kernel_rfl) (fun g o hg=>Ae.le hz1 g o hg) ?_;refine G.b (hJ (D++[e],L++[(k,_)],S.take n2++[(k,F.s k)]++S.drop n2,(a9,c9)) _ _ _ cv ((((l2'.trans l3).trans l4).trans l5).trans l6) ⟨hS',?_,by dsimp only; rw [hS9]; simp; omega,hz3⟩ (by have:=hS'.len; simp at this; dsimp only; simp; omega));dsimp only;rw [List.map_append];exact hI.put Dp h0 hkS hlow hhigh
 case done1 =>
 intro hall;have hcan1:Can A8 F.s S:=hI.can fun k hk=>hz1 k fun hm=>hk (by
  obtain ⟨p,hp,rfl⟩:=List.mem_map.1 hm;exact List.mem_map.2 ⟨p,hall p hp,rfl⟩)
 have hS1:S.length≤N:=by have:=hS.len; omega
 refine G.give _ _ _ (by kernel_rfl) hA (fun g=>?_) ?_
 ·cases hg:m g with
  | none=>exact .inl hg
  | some o=>exact .inr (by rw [hlem _ g o hg]; simp)
 intro u3 l3 hX;refine G.drop m (by kernel_rfl) (hlem _) ?_;have le3:=le2.trans l3;clear hJ hA hI hSL hit hlm2 hS hall
 revert S sa sc
 intro X xa xc hcan1 hS1 hX;refine G.mapRange g2 es2 clk2 206 68 (by kernel_rfl) (sit2 le3 (fun _ _ h=>h)) ?_;intro it2 him2 hiu2;have hlem2:∀ o,PH.le m (m.upd it2 o):=fun o=>Jw o him2;refine G.l (ι:=List MapEntry×List ((Par×Par)×Value)×List ((Par×Par)×Rat)×(Option Addr×Nat)) (fun i=>[(1,.p 0 0),(2,.p 1 0),(6,.p 2002 0),(85,.v (.pointer (some ⟨it2,0,none⟩)))])
  (fun i=>[(0,⟨136,[.v (.bool b),.v (.slice a n c),.v (.bool b'),.v (.slice a' n' c'),.v (.map (some g1)),.v (.map (some g2))]⟩),(1,⟨37,[.v (.string (mkS [])),.v (.slice none 0 0),.v (.slice none 0 0)]⟩),(2002,⟨37,[.v (.string (mkS (Af F.c))),.v (.slice xa X.length xc),.v (.slice i.2.2.2.1 i.2.2.1.length i.2.2.2.2)]⟩)])
  (fun i u' m'=>Eq prV es2 l2 i.1 i.2.1∧Ox Lg F.t (i.2.1.map (·.1)) i.2.2.1∧i.2.2.1.length≤i.2.1.length∧Ae (m.upd it2 (.mapIter (some g2) clk2 (Ar i.1) clk2)) m' (.slice i.2.2.2.1 i.2.2.1.length i.2.2.2.2) 211 5 (i.2.2.1.map Da))
  (fun i=>l2.length - i.2.1.length) ([],[],[],(none,0))
  ⟨Eq.nil _ _,Ox.nil,Nat.le_refl _,Ae.nil _ _ _⟩ ?_
 rintro J ⟨D,L,S,⟨sa,sc⟩⟩ hJ u2 m2 l2' ⟨hS,hI,hSL,hA⟩;simp only at hS hI hSL hA hJ;have le2:=le3.trans l2';have hit:m2 it2=some (.mapIter (some g2) clk2 (Ar D) clk2):=hA.see (Ac _ _ _);have hlm2:PH.le m m2:=fun g o hg=>hA.see (hlem2 _ g o hg);refine G.mapNextL G1.inj it2 g2 es2 clk2 l2 D L (by kernel_rfl) (by kernel_rfl) hit (sit2 le2 hlm2) hst2 hkv2 hnd2 hS ?done2 ?next2
 case next2 =>
  rintro ⟨k,xv⟩ e hp hkn he hek hev hS';simp only at hkn hek hev;have hx:=(hl2 _ hp).1;simp only at hx;obtain ⟨yb,ya,yn,yc,ya',yn',yc',rfl,_⟩:=hx.opn;have hA1:=hA.base (b:=it2) (o:=.mapIter (some g2) clk2 (Ar (D++[e])) clk2) (by rw [Ac]; simp);rw [Dh] at hA1;have hlm3:PH.le m (m2.upd it2 (.mapIter (some g2) clk2 (Ar (D++[e])) clk2)):=fun g o hg=>hA1.see (hlem2 _ g o hg);refine G.mapEntry it2 g2 es2 clk2 D e (by kernel_rfl) (Ac _ _ _) (sit2 le2 hlm3) hst2 he ?_;rw [hek,hev];have hSlen:=hS'.len;simp only [List.length_append,List.length_cons,List.length_nil] at hSlen;have hqs:=sF.t k;refine G.c call141 (Lm (hx.mono le2) (by have:=(SB.sz hqs).1; omega)) ?_;rintro v3 u3 l3 rfl;by_cases h0:F.t k=0
  ·rw [decide_eq_true (Ok.2 h0)];refine G.b (hJ (D++[e],L++[(k,_)],S,(sa,sc)) _ _ _ cv (l2'.trans l3) ⟨hS',by dsimp only; rw [List.map_append]; exact hI.skip h0,by dsimp only; simp; omega,hA1⟩ (by have:=hS'.len; simp at this; dsimp only; simp; omega))
  ·rw [decide_eq_false (fun e=>h0 (Ok.1 e))];refine G.c call35 (Kw (hx.mono (le2.trans l3)) (SB.tx hqs)) ?_;rintro v4 u4 l4 rfl;refine G.nF 0 0 ?_;refine G.pub 19003 206 [.int .i64 k.1.1,.string (mkS k.1.2),.int .i64 k.2.1,.string (mkS k.2.2)] (by kernel_rfl) (by kernel_rfl) ?_;intro bq hq1 hq2;have hbase:(m.upd it2 (.mapIter (some g2) clk2 (Ar (D++[e])) clk2)) bq=none:=by
    cases hh:(m.upd it2 (.mapIter (some g2) clk2 (Ar (D++[e])) clk2)) bq with
    | none=>rfl
    | some o=>rw [hA1.see hh] at hq2; cases hq2
   have hA4:=hA1.fresh (o:=.cells [Value.int .i64 k.1.1,.string (mkS k.1.2),.int .i64 k.2.1,.string (mkS k.2.2)].toArray 206 (0,0)) hq2;obtain ⟨pe1,pe2⟩:=Aej (m:=(m2.upd it2 (.mapIter (some g2) clk2 (Ar (D++[e])) clk2)).upd bq (.cells [Value.int .i64 k.1.1,.string (mkS k.1.2),.int .i64 k.2.1,.string (mkS k.2.2)].toArray 206 (0,0))) (Ac _ _ _);refine G.addrA 206 79 2 bq 0 0 2 (by kernel_rfl) (by kernel_rfl) (by kernel_rfl) (by kernel_rfl) (by omega) ?_;refine G.lM (some 2) bq (0+0*2) (.agg #[.int .i64 k.1.1,.string (mkS k.1.2)]) pe1 ?_;refine G.addrA 206 79 2 bq 0 1 2 (by kernel_rfl) (by kernel_rfl) (by kernel_rfl) (by kernel_rfl) (by omega) ?_;refine G.lM (some 2) bq (0+1*2) (.agg #[.int .i64 k.2.1,.string (mkS k.2.2)]) pe2 ?_;generalize hm3:(m2.upd it2 (.mapIter (some g2) clk2 (Ar (D++[e])) clk2)).upd bq (.cells [Value.int .i64 k.1.1,.string (mkS k.1.2),.int .i64 k.2.1,.string (mkS k.2.2)].toArray 206 (0,0))=m3 at hA4;have hkS:k∉L.map (·.1):=hkn;refine G.l (ι:=Nat) (fun n=>[(1,.p 0 0),(2,.p 1 0),(6,.p 2002 0),(17,.p 24006 0),(18,.v (.int .i64 (n:Int))),(85,.v (.pointer (some ⟨it2,0,none⟩)))])
    (fun _=>[(0,⟨136,[.v (.bool b),.v (.slice a n c),.v (.bool b'),.v (.slice a' n' c'),.v (.map (some g1)),.v (.map (some g2))]⟩),(1,⟨37,[.v (.string (mkS [])),.v (.slice none 0 0),.v (.slice none 0 0)]⟩),(2002,⟨37,[.v (.string (mkS (Af F.c))),.v (.slice xa X.length xc),.v (.slice sa S.length sc)]⟩),(24006,⟨211,[.v (.int .i64 k.1.1),.v (.string (mkS k.1.2)),.v (.int .i64 k.2.1),.v (.string (mkS k.2.2)),.v (.string (mkS (Af (F.t k))))]⟩)])
    (fun n u' m'=>n≤S.length∧(∀ j x,j < n→S[j]?=some x→Lg x.1 k < 0)∧m'=m3) (fun n=>S.length - n) 0 ⟨by omega,fun j x hj=>by omega,rfl⟩ ?_
   rintro J2 n2 hJ2 u5 m5 l5 ⟨hn2,hlow,rfl⟩;have le5:=((le2.trans l3).trans l4).trans l5;refine G.joinF (ι:=Unit) (fun st=>Xy prog st [.bool false]) (fun _=>[(1,.p 0 0),(2,.p 1 0),(6,.p 2002 0),(17,.p 24006 0),(18,.v (.int .i64 (n2:Int))),(85,.v (.pointer (some ⟨it2,0,none⟩)))])
    (fun _=>[(0,⟨136,[.v (.bool b),.v (.slice a n c),.v (.bool b'),.v (.slice a' n' c'),.v (.map (some g1)),.v (.map (some g2))]⟩),(1,⟨37,[.v (.string (mkS [])),.v (.slice none 0 0),.v (.slice none 0 0)]⟩),(2002,⟨37,[.v (.string (mkS (Af F.c))),.v (.slice xa X.length xc),.v (.slice sa S.length sc)]⟩),(24006,⟨211,[.v (.int .i64 k.1.1),.v (.string (mkS k.1.2)),.v (.int .i64 k.2.1),.v (.string (mkS k.2.2)),.v (.string (mkS (Af (F.t k))))]⟩)])
    (fun _ u' m'=>m'=m5∧∀ x,S[n2]?=some x→¬ Lg x.1 k < 0) (fun _=>by kernel_rfl) (by kernel_rfl) ?tail2 ?way2
   case way2 =>
    intro hjoin;by_cases hlt:n2 < S.length
    ·refine G.lT (n2:Int) (S.length:Int) ?_;obtain ⟨x,hSx⟩:∃ x,S[n2]?=some x:=⟨_,List.getElem?_eq_getElem hlt⟩;obtain ⟨gs,cs,hgc⟩:=hA4.ptr (fun e=>by
      have:S.length=0:=by simpa using congrArg List.length e
      omega)
     simp only [Value.slice.injEq] at hgc;obtain ⟨rfl,_,rfl⟩:=hgc;refine G.a gs 0 S.length sc n2 5 hlt ?_;have hel:ElP m5 gs (0+n2*5) (Da x):=hA4.el (by rw [List.getElem?_map,hSx]; rfl);refine G.lM (some 5) gs (0+n2*5) (Da x) hel ?_;by_cases hc:Lg x.1 k < 0
     ·refine G.c call142 (Mw x (k,F.t k) true (decide_eq_true hc)) ?_;rintro v6 u6 l6 rfl;refine G.i n2 ?_;exact G.b (hJ2 (n2+1) _ _ _ cv (l5.trans l6) ⟨by omega,fun j y hj hy=>by
       rcases (by omega:j < n2∨j=n2) with e | rfl
       ·exact hlow j y e hy
       ·rw [hSx] at hy; cases hy; exact hc,rfl⟩ (by omega))
     ·refine G.c call142 (Mw x (k,F.t k) false (decide_eq_false hc)) ?_;rintro v6 u6 l6 rfl;exact hjoin () _ _ _ (by kernel_rfl) cv l6 ⟨rfl,fun y hy=>by rw [hSx] at hy; cases hy; exact hc⟩
    ·refine G.lF (n2:Int) (S.length:Int) ?_;exact hjoin () _ _ _ (by kernel_rfl) cv (PH.le_refl _) ⟨rfl,fun y hy=>by rw [List.getElem?_eq_none (by omega)] at hy; cases hy⟩
   rintro _ u6 m6 l6 ⟨rfl,hhigh⟩;have hcap:=hA4.cap;refine G.sliceTo 5 sa S.length sc n2 (by kernel_rfl) (by omega) ?_;refine G.sliceFromG sa S.length sc n2 5 (by kernel_rfl) hn2 hcap ?_;refine G.buildM 211 5 64 (.agg #[.int .i64 0,.string (mkS []),.int .i64 0,.string (mkS []),.string (mkS [])]) [.agg #[.int .i64 k.1.1,.string (mkS k.1.2),.int .i64 k.2.1,.string (mkS k.2.2),.string (mkS (Af (F.t k)))]] (by kernel_rfl) (Aei (k,F.t k)) rfl (by omega) (by simp) (by simp) ?_;intro gt m7 hT7;refine G.appendMV 211 5 64 (.agg #[.int .i64 0,.string (mkS []),.int .i64 0,.string (mkS []),.string (mkS [])]) m6 [.agg #[.int .i64 k.1.1,.string (mkS k.1.2),.int .i64 k.2.1,.string (mkS k.2.2),.string (mkS (Af (F.t k)))]] ((S.drop n2).map Da) (.slice (some ⟨gt,0,none⟩) 1 1) (if sc=n2 then sa else sa.map (·.add (n2*5))) (S.length - n2) (sc - n2) (by kernel_rfl) rfl rfl (by omega) hT7 (by simp) (fun hne=>?_) (Agm _) (by simp; omega) (by simp; omega) ?_
   ·have hlt:n2 < S.length:=by
     rcases Nat.lt_or_ge n2 S.length with h | h
     ·exact h
     ·exact absurd (by rw [List.drop_of_length_le h]; rfl) hne
    obtain ⟨gs,cs,hgc⟩:=hA4.ptr (fun e=>by
     have:S.length=0:=by simpa using congrArg List.length e
     omega)
    simp only [Value.slice.injEq] at hgc;obtain ⟨rfl,_,rfl⟩:=hgc;refine ⟨gs,0+n2*5,?_,?_⟩
    ·rw [if_neg (by omega)];simp [Db]
    ·have:=hA4.els.drop n2;rw [← List.map_drop] at this;exact fun j e hj i y hy=>by
      obtain ⟨cs,t,fr,q1,q2⟩:=this j e hj i y hy;exact ⟨cs,t,fr,hT7.le _ _ q1,q2⟩
   intro v8 m8 hT8;obtain ⟨a8,c8,rfl⟩:=hT8.ptr (by simp);have hAt:=hA4.take (k:=n2) (by rw [List.length_map]; exact hn2);obtain ⟨mx,hy1,hxx1,hput⟩:=At.swap (x:=⟨.slice sa n2 sc,211,5,(S.map Da).take n2⟩) (y:=⟨.slice (some ⟨a8,0,none⟩) _ c8,211,5,_⟩) hT8 hAt;refine G.appendM 211 5 64 (.agg #[.int .i64 0,.string (mkS []),.int .i64 0,.string (mkS []),.string (mkS [])]) mx ((S.map Da).take n2) _ (.slice sa n2 sc) a8 0 _ c8 (by kernel_rfl) rfl rfl (by omega) hxx1 hT8.els hT8.1 rfl (by simp) (by simp; omega) (by simp; omega) ?_;intro v9 m9 hA9;obtain ⟨mz,hz1,hz2⟩:=hput ⟨v9,211,5,_⟩ m9 hA9;have hes:(S.map Da).take n2++([.agg #[.int .i64 k.1.1,.string (mkS k.1.2),.int .i64 k.2.1,.string (mkS k.2.2),.string (mkS (Af (F.t k)))]]++(S.drop n2).map Da)=(S.take n2++[(k,F.t k)]++S.drop n2).map Da:=by
    rw [List.map_append,List.map_append,List.map_take,List.append_assoc]; rfl
   have hz4:Ae ((m.upd it2 (.mapIter (some g2) clk2 (Ar (D++[e])) clk2)).upd bq (.cells [Value.int .i64 k.1.1,.string (mkS k.1.2),.int .i64 k.2.1,.string (mkS k.2.2)].toArray 206 (0,0))) mz v9 211 5 ((S.take n2++[(k,F.t k)]++S.drop n2).map Da):=by rw [← hes]; exact hz2
   have hz3:=hz4.del (l:=bq) (by rw [Ac]; simp);rw [W3 hbase] at hz3;obtain ⟨a9,c9,rfl⟩:=hz3.shape;rw [List.length_map] at hz3 ⊢;have hS9:(S.take n2++[(k,F.t k)]++S.drop n2).length=S.length+1:=by simp; omega
   refine G.drop (mz.del bq) (by kernel_rfl) (fun g o hg=>Ae.le hz1 g o (Aox _ _ g o hg)) ?_;refine G.b (hJ (D++[e],L++[(k,_)],S.take n2++[(k,F.t k)]++S.drop n2,(a9,c9)) _ _ _ cv ((((l2'.trans l3).trans l4).trans l5).trans l6) ⟨hS',?_,by dsimp only; rw [hS9]; simp; omega,hz3⟩ (by have:=hS'.len; simp at this; dsimp only; simp; omega));dsimp only;rw [List.map_append];exact hI.put Anq h0 hkS hlow hhigh
 case done2 =>
 intro hall;have hcan2:Can Lg F.t S:=hI.can fun k hk=>hz2 k fun hm=>hk (by
  obtain ⟨p,hp,rfl⟩:=List.mem_map.1 hm;exact List.mem_map.2 ⟨p,hall p hp,rfl⟩)
 have hS2:S.length≤N:=by have:=hS.len; omega
 refine G.give _ _ _ (by kernel_rfl) hA (fun g=>?_) ?_
 ·cases hg:m g with
  | none=>exact .inl hg
  | some o=>exact .inr (by rw [hlem2 _ g o hg]; simp)
 intro u4 l4 hY;refine G.drop m (by kernel_rfl) (hlem2 _) ?_;exact G.r (.tuple #[.agg #[.string (mkS (Af F.c)),.slice xa X.length xc,.slice sa S.length sc],.int .i64 0]) ⟨rfl,_,rfl,X,S,xa,xc,sa,sc,rfl,hX.mono (l2'.trans l4),hY,hcan1,hcan2,hS1,hS2⟩
end
section
open Go.RowKit Go.MapKept
variable {F:List Ao}{a i:Nat}{f:Ao}{z:Int}
def Ag3 (F:List Ao)(a:Nat)(z:Int)(i:Nat)(fe:Int)(dr ho:Bool):Prop :=
 (∃ k f,k < i∧F[k]?=some f∧f.1=a∧fe=(k:Int)∧dr=decide (f.2.2=1)∧ho=decide (f.2.1=2))∨((∀ k f,k < i→F[k]?=some f→f.1≠a)∧fe=z∧dr=true∧ho=false)
theorem Aai (q:Rat):q+0=q:=by grind
theorem Afo {fe:Int}{dr ho:Bool}(h:Ag3 F a z i fe dr ho)(hf:F[i]?=some f)(hne:f.1≠a):Ag3 F a z (i+1) fe dr ho:=by
 rcases h with ⟨k,g,h1,h2,h3⟩ | ⟨h1,h2⟩
 ·exact .inl ⟨k,g,by omega,h2,h3⟩
 ·refine .inr ⟨fun k g hk hg=>?_,h2⟩;rcases (by omega:k < i∨k=i) with e | rfl
  ·exact h1 k g e hg
  ·rw [hf] at hg; cases hg; exact hne
theorem Ahm (hf:F[i]?=some f)(he:f.1=a):Ag3 F a z (i+1) (i:Int) (decide (f.2.2=1)) (decide (f.2.1=2)) :=
 .inl ⟨i,f,by omega,hf,he,rfl,rfl,rfl⟩
theorem Alt {T:List (List UInt8×Nat)}{F:List Ao}{lab:Int}{a:Nat}{z:Int}{x:List UInt8×Nat}{t:List UInt8}{fe:Int}{dr ho:Bool}(hF:Dk T F lab)(l1:-1≤lab)(l2:∀ l:Nat,lab=(l:Int)→∃ n,T[l]?=some (n,2))
  (hx:T[a]?=some x) (hv:Ii x.2 t) (hz:((a:Int)=lab∧z = -1)∨((a:Int)≠lab∧z = -2)) (h:Ag3 F a z F.length fe dr ho) :
  (fe = -2∧Fg F lab a t=some none)∨(fe≠-2∧((ho=true∧Fg F lab a t=some (some ((fe,t),1)))∨(ho=false∧t = []∧Fg F lab a t=(if dr then none else some none))∨(ho=false∧t≠[]∧SmR (K6 t)∧Af (K6 t)=t∧Fg F lab a t=some (some ((fe,[]),K6 t))))):=by
 rcases h with ⟨k,f,hk,hf,rfl,rfl,rfl,rfl⟩ | ⟨hno,rfl,rfl,rfl⟩
 ·obtain ⟨n,kd,hT,hkind,hne⟩:=hF.ok f (List.mem_of_getElem? hf);rw [Vo hF.nodup hf hne];rw [hT] at hx; cases hx;simp only at hv;refine .inr ⟨by omega,?_⟩;unfold Jk;rcases hkind with ⟨k1,rfl,k3⟩ | ⟨k1,rfl,k3⟩
  ·rw [k1,if_neg (by omega)];by_cases ht:t = []
   ·refine .inr (.inl ⟨rfl,ht,?_⟩);rw [if_pos ht];by_cases hm:f.2.2=1
    ·rw [if_pos hm,if_pos (decide_eq_true hm)]
    ·rw [if_neg hm,if_neg (by rw [decide_eq_true_eq]; exact hm)]
   ·obtain ⟨q1,q2⟩:=J6 hv ht;exact .inr (.inr ⟨rfl,ht,q1,q2,by rw [if_neg ht]⟩)
  ·exact .inl ⟨by rw [k1]; rfl,by rw [if_pos k1]⟩
 ·rcases hz with ⟨hl,rfl⟩ | ⟨hl,rfl⟩
  ·refine .inr ⟨by omega,.inr ?_⟩;obtain ⟨n,hn⟩:=l2 a hl.symm;rw [hx] at hn; cases hn;have e:Fg F lab a t=O7 t:=by unfold Fg; rw [if_pos hl]
   rw [e];unfold O7;by_cases ht:t = []
   ·exact .inl ⟨rfl,ht,by rw [if_pos ht]; rfl⟩
   ·obtain ⟨q1,q2⟩:=J6 hv ht;exact .inr ⟨rfl,ht,q1,q2,by rw [if_neg ht]⟩
  ·rcases Ga (F:=F) (w:=t) hl with e | ⟨i,f,hf,he,_⟩
   ·exact .inl ⟨rfl,e⟩
   ·exact absurd he (hno i f (List.getElem?_eq_some_iff.1 hf).1 hf)
theorem Adf {g1 g2:Nat}(hne:g1≠g2)(o1 o2 p1 p2:Obj):(((PH.mt.upd g1 o1).upd g2 o2).upd g1 p1).upd g2 p2=(PH.mt.upd g1 p1).upd g2 p2:=by
 rw [Jg _ _ _ (fun e=>hne e.symm),Dh,Dh]
theorem Aca {u:PH}{v:Value}{T:List (List UInt8×Nat)}{R:List Bk}{lab:Int}{x:List UInt8×Nat}{t:List UInt8}(h:F1 u v T R F lab)(ok:Bn u T R F lab)(hx:T[a]?=some x)(hv:Ii x.2 t) :
  Ai prog 140 [v,.int .i64 (a:Int),.string (mkS t)] u PH.mt fun v' u' m'=>H6 m' u' v' (Fg F lab a t).cf 1:=by
 have hfl:=ok.f2;have l1:=ok.l1;have t2:=ok.t2;have hat:a < T.length:=(List.getElem?_eq_some_iff.1 hx).1;obtain ⟨pa,ca,pb,cb,pe,ce,rfl,hT,hR,hF⟩:=h;refine Ai.o func140 ?_;refine G.joinF (ι:=Int) (fun st=>Xy prog st [.bool false]) (fun z=>[(1,.v (.int .i64 (a:Int))),(2,.v (.string (mkS t))),(3,.p 0 0),(6,.p 1 0),(7,.v (.int .i64 z)),(8,.v (.bool true)),(9,.v (.bool false))])
  (fun _=>[(0,⟨31,[.v (.slice pa T.length ca),.v (.slice pb R.length cb),.v (.slice pe F.length ce),.v (.int .i64 lab)]⟩),(1,⟨136,[.v (.bool false),.v (.slice none 0 0),.v (.bool false),.v (.slice none 0 0),.v (.map none),.v (.map none)]⟩)])
  (fun z u' m'=>u'=u∧m'=PH.mt∧(((a:Int)=lab∧z = -1)∨((a:Int)≠lab∧z = -2))) (fun _=>by kernel_rfl) (by kernel_rfl) ?tail ?way
 case way =>
  intro hjoin;by_cases hl:(a:Int)=lab
  ·refine G.eT' (a:Int) lab hl ?_;refine G.pastI ?_;exact hjoin (-1) _ _ _ (by kernel_rfl) cv (PH.le_refl _) ⟨rfl,rfl,.inl ⟨hl,rfl⟩⟩
  ·refine G.eF' (a:Int) lab hl ?_;exact hjoin (-2) _ _ _ (by kernel_rfl) cv (PH.le_refl _) ⟨rfl,rfl,.inr ⟨hl,rfl⟩⟩
 rintro z _ _ _ ⟨rfl,rfl,hz⟩;refine G.l (ι:=Nat×Int×Bool×Bool) (fun i=>[(1,.v (.int .i64 (a:Int))),(2,.v (.string (mkS t))),(6,.p 1 0),(7,.v (.int .i64 i.2.1)),(8,.v (.bool i.2.2.1)),(9,.v (.bool i.2.2.2)),(20,.v (.slice pe F.length ce)),(21,.v (.int .i64 (F.length:Int))),(22,.v (.int .i64 (i.1:Int)))])
  (fun _=>[(1,⟨136,[.v (.bool false),.v (.slice none 0 0),.v (.bool false),.v (.slice none 0 0),.v (.map none),.v (.map none)]⟩)])
  (fun i u' m'=>i.1≤F.length∧m'=PH.mt∧Ag3 F a z i.1 i.2.1 i.2.2.1 i.2.2.2) (fun i=>F.length - i.1) (0,z,true,false) ⟨by omega,rfl,.inr ⟨fun k f hk=>by dsimp only at hk; omega,rfl,rfl,rfl⟩⟩ ?_
 rintro J ⟨i,fe,dr,ho⟩ hJ u2 m2 l2 ⟨hi,rfl,hI⟩;simp only at hi hI hJ;by_cases hlt:i < F.length
 ·refine G.lT (i:Int) (F.length:Int) ?_;obtain ⟨f,hFi⟩:∃ f,F[i]?=some f:=⟨_,List.getElem?_eq_getElem hlt⟩;obtain ⟨fb,fo,rfl,ef⟩:=Ab.at' (hF.mono l2) (j:=i) (e:=B6 f) (by simp [hFi]);obtain ⟨p1,p2,p3⟩:=f;refine G.a fb fo F.length ce i 3 hlt ?_;refine G.lU (some 3) fb (fo+i*3) (.agg #[.int .i64 (p1:Int),.int .i64 (p2:Int),.int .i64 (p3:Int)]) ef ?_;by_cases hp:(p1:Int)=(a:Int)
  ·refine G.eT' (p1:Int) (a:Int) hp ?_;have hh:=Ahm (z:=z) hFi (show p1=a by omega);simp only at hh;by_cases h3:p3=1
   ·refine G.eT (p3:Int) 1 ?_;by_cases h2:p2=2
    ·refine G.eT (p2:Int) 2 ?_;refine G.i i ?_;rw [decide_eq_true h3,decide_eq_true h2] at hh;exact G.b (hJ (i+1,(i:Int),true,true) _ _ _ cv l2 ⟨by dsimp only; omega,rfl,hh⟩ (by dsimp only; omega))
    ·refine G.eF (p2:Int) 2 ?_;refine G.i i ?_;rw [decide_eq_true h3,decide_eq_false h2] at hh;exact G.b (hJ (i+1,(i:Int),true,false) _ _ _ cv l2 ⟨by dsimp only; omega,rfl,hh⟩ (by dsimp only; omega))
   ·refine G.eF (p3:Int) 1 ?_;by_cases h2:p2=2
    ·refine G.eT (p2:Int) 2 ?_;refine G.i i ?_;rw [decide_eq_false h3,decide_eq_true h2] at hh;exact G.b (hJ (i+1,(i:Int),false,true) _ _ _ cv l2 ⟨by dsimp only; omega,rfl,hh⟩ (by dsimp only; omega))
    ·refine G.eF (p2:Int) 2 ?_;refine G.i i ?_;rw [decide_eq_false h3,decide_eq_false h2] at hh;exact G.b (hJ (i+1,(i:Int),false,false) _ _ _ cv l2 ⟨by dsimp only; omega,rfl,hh⟩ (by dsimp only; omega))
  ·refine G.eF' (p1:Int) (a:Int) hp ?_;refine G.i i ?_;exact G.b (hJ (i+1,fe,dr,ho) _ _ _ cv l2 ⟨by dsimp only; omega,rfl,Afo hI hFi (show ¬ p1=a by omega)⟩ (by dsimp only; omega))
 obtain rfl:i=F.length:=by omega
 refine G.lF (F.length:Int) (F.length:Int) ?_;have n0:(⟨((0:Int):Rat),fun _=>0,fun _=>0⟩:CF)=CF.num 0:=by rw [show ((0:Int):Rat)=0 by decide +kernel]; rfl
 have n1:(⟨((1:Int):Rat),fun _=>0,fun _=>0⟩:CF)=CF.num 1:=by rw [show ((1:Int):Rat)=1 by decide +kernel]; rfl
 rcases Alt ok.feat l1 ok.l2 hx hv hz hI with ⟨rfl,e⟩ | ⟨hfe,hc⟩
 ·rw [e];refine G.eT' (-2) (-2) rfl ?_;refine G.callO _ _ (by kernel_rfl) call63 (Hi (n:=1) (by omega) (by omega)) ?_;intro v3 u3 m3 l3 k3 _;obtain ⟨b,a5,n,c,b',a',n',c',g1,g2,rfl⟩:=Ln k3;rw [C2];exact G.r (.agg #[.bool b,.slice a5 n c,.bool b',.slice a' n' c',.map (some g1),.map (some g2)]) (k3.congr n1 (by omega))
 refine G.eF' fe (-2) hfe ?_;refine G.callO _ _ (by kernel_rfl) call63 (Hi (n:=1) (by omega) (by omega)) ?_;intro v3 u3 m3 l3 k3 _;rw [C2];rcases hc with ⟨rfl,e⟩ | ⟨rfl,ht,e⟩ | ⟨rfl,ht,q1,q2,e⟩
 ·rw [e];obtain ⟨b,a5,n,c,b',a',n',c',g1,g2,o1,o2,rfl,k1,hne,rfl,s1,s2⟩:=k3;have hpp:Ap (fe,t) (fe,t)=((fe,t),(fe,t)):=Ft (by rw [Dp.refl]; omega);refine G.c call27 (Pq (z:=1) (by omega) (by omega)) ?_;intro v4 u4 l4 k4;rw [show ((1:Int):Rat)=1 by decide +kernel] at k4;obtain ⟨b4,a4,n4,c4,a4',n4',c4',rfl,_⟩:=k4.opn;refine G.callG _ _ (by kernel_rfl) (by kernel_rfl) call137 (g:=g1) (o:=o1) (by rw [Ad _ _ hne,Ac])
   (Lp (a:=(fe,t)) (g2:=some g2) (y1:=b) (y2:=(a5,n,c)) (y3:=b') (y4:=(a',n',c')) (s1.mono l4) k4 Ih.sb SB.zero (by rw [Aai]; exact Ih.sb)) ?_
  intro v5 u5 o1' l5 k5;refine G.c call27 (Pq (z:=1) (by omega) (by omega)) ?_;intro v6 u6 l6 k6;rw [show ((1:Int):Rat)=1 by decide +kernel] at k6;obtain ⟨b6,a6,n6,c6,a6',n6',c6',rfl,_⟩:=k6.opn;refine G.callG _ _ (by kernel_rfl) (by kernel_rfl) call138 (g:=g2) (o:=o2) (by rw [Ad _ _ hne.symm,Ac])
   (F7 (p:=(fe,t)) (r:=(fe,t)) (g1:=some g1) (y1:=b) (y2:=(a5,n,c)) (y3:=b') (y4:=(a',n',c')) (((s2.mono l4).mono l5).mono l6) k6 Ih.sb (by rw [hpp]; exact SB.zero) (by rw [hpp,Aai]; exact Ih.sb)) ?_
  intro v7 u7 o2' l7 k7;rw [Adf hne];rw [hpp] at k7;exact G.r (.agg #[.bool b,.slice a5 n c,.bool b',.slice a' n' c',.map (some g1),.map (some g2)]) ⟨b,a5,n,c,b',a',n',c',g1,g2,_,_,rfl,(((k1.mono l4).mono l5).mono l6).mono l7,hne,rfl,((k5.mono l6).mono l7).congr fun k=>by rw [Aai]; rfl,k7.congr fun k=>by
   rw [Aai];show (if k=((fe,t),(fe,t)) then (1:Rat) else 0)=if k=((fe,t),(fe,t)) then (1:Rat)*1 else 0
   rw [show (1:Rat)*1=1 by decide +kernel]⟩
 ·obtain ⟨b,a5,n,c,b',a',n',c',g1,g2,rfl⟩:=Ln k3;refine G.q t [] ht ?_;rw [e];cases dr with
  | true =>
   refine G.drop PH.mt (by kernel_rfl) (PH.mt_le _) ?_;refine G.callO _ _ (by kernel_rfl) call63 (Hi (n:=0) (by omega) (by omega)) ?_;intro v4 u4 m4 l4 k4 _;obtain ⟨b,a5,n,c,b',a',n',c',g1,g2,rfl⟩:=Ln k4;rw [C2];exact G.r (.agg #[.bool b,.slice a5 n c,.bool b',.slice a' n' c',.map (some g1),.map (some g2)]) (k4.congr n0 (by omega))
  | false =>
   exact G.r (.agg #[.bool b,.slice a5 n c,.bool b',.slice a' n' c',.map (some g1),.map (some g2)]) (k3.congr n1 (by omega))
 ·rw [e];obtain ⟨b,a5,n,c,b',a',n',c',g1,g2,o1,o2,rfl,k1,hne,rfl,s1,s2⟩:=k3;refine G.w t [] ht ?_;have hpp:Ap (fe,[]) (fe,[])=((fe,[]),(fe,[])):=Ft (by rw [Dp.refl]; omega);have hrd:=Eh (u:=u3) (q:=K6 t) (SB.tx q1.sb);rw [q2] at hrd;refine G.c call31 hrd ?_;intro v4 u4 l4 k4;obtain ⟨b4,a4,n4,c4,a4',n4',c4',rfl,_⟩:=k4.opn;refine G.callG _ _ (by kernel_rfl) (by kernel_rfl) call137 (g:=g1) (o:=o1) (by rw [Ad _ _ hne,Ac])
   (Lp (a:=(fe,[])) (g2:=some g2) (y1:=b) (y2:=(a5,n,c)) (y3:=b') (y4:=(a',n',c')) (s1.mono l4) k4 q1.sb SB.zero (by rw [Aai]; exact q1.sb)) ?_
  intro v5 u5 o1' l5 k5;refine G.c call34 (Eo (k4.mono l5) (k4.mono l5) (SB.ten q1.sb) (SB.ten q1.sb)) ?_;intro v6 u6 l6 k6;obtain ⟨b6,a6,n6,c6,a6',n6',c6',rfl,_⟩:=k6.opn;refine G.callG _ _ (by kernel_rfl) (by kernel_rfl) call138 (g:=g2) (o:=o2) (by rw [Ad _ _ hne.symm,Ac])
   (F7 (p:=(fe,[])) (r:=(fe,[])) (g1:=some g1) (y1:=b) (y2:=(a5,n,c)) (y3:=b') (y4:=(a',n',c')) (((s2.mono l4).mono l5).mono l6) k6 q1.sb2 (by rw [hpp]; exact SB.zero) (by rw [hpp,Aai]; exact q1.sb2)) ?_
  intro v7 u7 o2' l7 k7;rw [Adf hne];rw [hpp] at k7;exact G.r (.agg #[.bool b,.slice a5 n c,.bool b',.slice a' n' c',.map (some g1),.map (some g2)]) ⟨b,a5,n,c,b',a',n',c',g1,g2,_,_,rfl,(((k1.mono l4).mono l5).mono l6).mono l7,hne,rfl,((k5.mono l6).mono l7).congr fun k=>by rw [Aai]; rfl,k7.congr fun k=>by rw [Aai]; rfl⟩
end
section
open Go.RowKit Go.MapKept
variable {u:PH}
theorem H6.all {f:FuncId}{args:List Value}{F:CF}{N:Nat}(c:Ai prog f args u PH.mt fun v u' m'=>H6 m' u' v F N):Fn0 prog f args u fun v u'=>Ov u' v F N:=by
 refine Fn0.weak c.giveAll ?_;rintro v u' ⟨u1,m1,l1,l2,k⟩;exact k.give l1 l2
theorem Ov.up {u:PH}{v:Value}{F:CF}{N M:Nat}(h:Ov u v F N)(hN:N≤M):Ov u v F M:=by
 obtain ⟨b,a,n,c,b',a',n',c',g1,g2,o1,o2,e,h1,h2,h3,h4,h5⟩:=h;exact ⟨b,a,n,c,b',a',n',c',g1,g2,o1,o2,e,h1,h2,h3,h4.up hN,h5.up hN⟩
theorem Ajz {v tv:Value}{T:List (List UInt8×Nat)}{R:List Bk}{F:List Ao}{lab:Int}{ss:List (List UInt8)}(h:Af5 u v tv T R F lab ss)(hT6:ss.length≤8) :
  Fn0 prog 66 [v,tv] u fun r u'=>Ov u' r (cfT F lab ss) 255∧CFS (cfT F lab ss):=by
 have hX:=h.sch;obtain ⟨⟨xa,xc,xb,xd,xe,xf,rfl,hTL,hRL,hFL⟩,ok,hS,hT⟩:=h;obtain ⟨ya,yc,rfl⟩:=hS.opn;rw [List.length_map] at hS ⊢;have hsm:=Kt ok hT;have hlen:=hT.len;obtain ⟨L,hL⟩:∃ L,L=Em F lab ss:=⟨_,rfl⟩;have hcf:cfT F lab ss=Gr (CF.num 1) L:=by rw [hL]; rfl
 rw [hcf];rw [← hL] at hsm;have hLl:L.length=ss.length:=by rw [hL]; exact F3
 refine Fn0.o func66 ?_;refine G.c call63 (H6.all (Hi (n:=1) (by omega) (by omega))) ?_;intro v2 u2 l2 k2;have n1:(⟨((1:Int):Rat),fun _=>0,fun _=>0⟩:CF)=CF.num 1:=by rw [show ((1:Int):Rat)=1 by decide +kernel]; rfl
 rw [n1] at k2;obtain ⟨b,a,n,c,b',a',n',c',g1,g2,rfl⟩:=No k2;refine G.l (ι:=Nat×(Bool×SlI)×(Bool×SlI)×Nat×Nat) (fun i=>[(2,.p 0 0),(4,.p 1 0),(5,.p 1001 0),(9,.v (.slice ya ss.length yc)),(10,.v (.int .i64 (ss.length:Int))),(11,.v (.int .i64 (i.1:Int)))])
  (fun i=>[(0,⟨31,[.v (.slice xa T.length xc),.v (.slice xb R.length xd),.v (.slice xe F.length xf),.v (.int .i64 lab)]⟩),(1,⟨136,[.v (.bool false),.v (.slice none 0 0),.v (.bool false),.v (.slice none 0 0),.v (.map none),.v (.map none)]⟩),(1001,⟨136,[.v (.bool i.2.1.1),.v (.slice i.2.1.2.1 i.2.1.2.2.1 i.2.1.2.2.2),.v (.bool i.2.2.1.1),.v (.slice i.2.2.1.2.1 i.2.2.1.2.2.1 i.2.2.1.2.2.2),.v (.map (some i.2.2.2.1)),.v (.map (some i.2.2.2.2))]⟩)])
  (fun i u' m'=>i.1≤ss.length∧Ov u' (.agg #[.bool i.2.1.1,.slice i.2.1.2.1 i.2.1.2.2.1 i.2.1.2.2.2,.bool i.2.2.1.1,.slice i.2.2.1.2.1 i.2.2.1.2.2.1 i.2.2.1.2.2.2,.map (some i.2.2.2.1),.map (some i.2.2.2.2)]) (Gr (CF.num 1) (L.take i.1)) (2 ^ i.1 - 1)∧m'=PH.mt)
  (fun i=>ss.length - i.1) (0,(b,a,n,c),(b',a',n',c'),g1,g2) ⟨by omega,k2,rfl⟩ ?_
 rintro J ⟨i,⟨b,a,n,c⟩,⟨b',a',n',c'⟩,g1,g2⟩ hJ u3 m3 l3 ⟨hi,hC,rfl⟩;simp only at hi hC hJ;have le3:=l2.trans l3;by_cases hil:i < ss.length
 ·refine G.lT (i:Int) (ss.length:Int) ?_;obtain ⟨bb,off,rfl,e⟩:=Adx (hS.mono le3) hil;refine G.a bb off ss.length yc i 1 hil ?_;refine G.lU none bb (off+i*1) (.string (mkS (ss.getD i []))) e ?_;have hgd:ss.getD i []=ss[i]:=by simp [List.getD_eq_getElem?_getD,List.getElem?_eq_getElem hil]
  have hTi:T[i]?=some T[i]:=List.getElem?_eq_getElem (by omega);have hLi:L[i]?=some (Fg F lab i (ss.getD i [])):=by rw [hL,hgd]; exact Gq (List.getElem?_eq_getElem hil)
  have hLs:(Fg F lab i (ss.getD i [])).Small:=hsm _ (List.mem_of_getElem? hLi);have hv:=hT.val i _ _ hTi (List.getElem?_eq_getElem hil);rw [← hgd] at hv;refine G.c call140 (H6.all (Aca (hX.mono le3) (ok.mono le3) hTi hv)) ?_;intro v4 u4 l4 k4;obtain ⟨b4,a4,n4,c4,b4',a4',n4',c4',g41,g42,rfl⟩:=No k4;have h2i:2 ^ i≤2 ^ 7:=Nat.pow_le_pow_right (by omega) (by omega);have h1i:1≤2 ^ i:=Nat.one_le_two_pow;obtain ⟨g1',g2'⟩:=Nu hsm i (by omega);have hsnoc:Gr (CF.num 1) (L.take (i+1))=(Gr (CF.num 1) (L.take i)).mul (Fg F lab i (ss.getD i [])).cf:=by
   rw [List.take_add_one,hLi]; exact Vm _ _ _
  refine G.c call139 (H6.all (Ajm (hC.mono l4) k4 (Apk g1' hLs.cfd (by omega) (Ape (by omega)) (Nat.pos_of_ne_zero (by simp)) (by omega)))) ?_;intro v5 u5 l5 k5;obtain ⟨b5,a5,n5,c5,b5',a5',n5',c5',g51,g52,rfl⟩:=No k5;refine G.i i ?_;rw [← hsnoc] at k5;exact G.b (hJ (i+1,(b5,a5,n5,c5),(b5',a5',n5',c5'),g51,g52) _ _ _ cv ((l3.trans l4).trans l5) ⟨by dsimp only; omega,k5.up (by dsimp only; rw [Nat.pow_succ]; omega),rfl⟩ (by dsimp only; omega))
 ·obtain rfl:i=ss.length:=by omega
  refine G.lF (ss.length:Int) (ss.length:Int) ?_;have htk:L.take ss.length=L:=by rw [List.take_of_length_le (by omega)]
  have hsR:CFS (Gr (CF.num 1) L):=by
   obtain ⟨q1,_⟩:=Nu hsm L.length (Nat.le_refl _);rw [List.take_length] at q1;exact q1.cfs (by omega) (Aqb (by omega))
  rw [htk] at hC;have h2i:2 ^ ss.length≤2 ^ 8:=Nat.pow_le_pow_right (by omega) (by omega);exact G.r (.agg #[.bool b,.slice a n c,.bool b',.slice a' n' c',.map (some g1),.map (some g2)]) ⟨rfl,hC.up (by omega),hsR⟩
end
section
open Go.RowKit Go.MapKept
variable {u:PH}
theorem Pp {p:Par}(h:PV p):Fn0 prog 155 [An p] u fun v _=>v=.bool true:=by
 refine Fn0.o func155 ?_;refine G.hT' p.1 (-1) (by have:=h.lo; omega) ?_;by_cases hc:p.2 = []
 ·refine G.q p.2 [] hc ?_;exact G.r (.bool true) ⟨rfl,rfl⟩
 ·refine G.w p.2 [] hc ?_;refine G.c call135 (Nt (h.cat.resolve_left hc)) ?_;rintro v1 u1 l1 rfl;exact G.r (.bool true) ⟨rfl,rfl⟩
theorem ElP.par {b off:Nat}{x:Par×Rat}(h:ElP u b off (A5 x)):ElP u b (off+0) (.agg #[.int .i64 x.1.1,.string (mkS x.1.2)]):=h.sub fun i y hy=>by
 match i,hy with
 | 0,hy=>simpa [A5,Value.cells] using hy
 | 1,hy=>simpa [A5,Value.cells] using hy
 | i+2,hy=>simp [Value.cells] at hy
theorem Aaz {v:Value}{F:CF}{K:Nat}(h:H7 u v F K)(sF:CFS F)(vF:CFV F)(hK:K≤1000000):Fn0 prog 71 [v] u fun r _=>r=.bool true:=by
 obtain ⟨T,Q,a1,c1,a2,c2,rfl,hT,hQ,cT,cQ,kT,kQ⟩:=h;refine Fn0.o func71 ?_;refine G.c call30 (Cp (SB.tx sF.c)) ?_;rintro v1 u1 l1 rfl;refine G.l (ι:=Nat) (fun i=>[(1,.p 0 0),(12,.v (.slice a1 T.length c1)),(13,.v (.int .i64 (T.length:Int))),(14,.v (.int .i64 (i:Int)))])
  (fun _=>[(0,⟨37,[.v (.string (mkS (Af F.c))),.v (.slice a1 T.length c1),.v (.slice a2 Q.length c2)]⟩)])
  (fun i u' m'=>i≤T.length∧m'=PH.mt) (fun i=>T.length - i) 0 ⟨by omega,rfl⟩ ?_
 rintro J i hJ u2 m2 l2 ⟨hi,rfl⟩;have le2:=l1.trans l2;by_cases hlt:i < T.length
 ·refine G.lT (i:Int) (T.length:Int) ?_;obtain ⟨x,hTi⟩:∃ x,T[i]?=some x:=⟨_,List.getElem?_eq_getElem hlt⟩;have hmem:=List.mem_of_getElem? hTi;obtain ⟨hval,hne⟩:=cT.val _ hmem;obtain ⟨ba,oa,rfl,ea⟩:=Ab.at' (hT.mono le2) (j:=i) (e:=A5 x) (by simp [hTi]);have hsq:SB x.2:=by rw [hval]; exact sF.s _
  have hpv:PV x.1:=vF.s x.1 (by rw [← hval]; exact hne);refine G.a ba oa T.length c1 i 3 hlt ?_;refine G.lU (some 3) ba (oa+i*3) (.agg #[.int .i64 x.1.1,.string (mkS x.1.2),.string (mkS (Af x.2))]) ea ?_;refine G.c call155 (Pp hpv) ?_;rintro v3 u3 l3 rfl;refine G.c call30 (Cp (SB.tx hsq)) ?_;rintro v4 u4 l4 rfl;refine G.w (Af x.2) [48] (Rh hne) ?_;by_cases h0:i=0
  ·subst h0;refine G.gF ((0:Nat):Int) 0 ?_;refine G.p ((0:Nat):Int) 1 ((0+1:Nat):Int) ?_;exact G.b (hJ (0+1) _ _ _ cv ((l2.trans l3).trans l4) ⟨by omega,rfl⟩ (by omega))
  ·refine G.gT (i:Int) 0 ?_;refine G.s (i:Int) 1 ((i - 1:Nat):Int) ?_;obtain ⟨y,hTy⟩:∃ y,T[i - 1]?=some y:=⟨_,List.getElem?_eq_getElem (by omega)⟩;have hsrt:A8 y.1 x.1 < 0:=by
    have hp:=cT.srt;obtain ⟨h1,rfl⟩:=List.getElem?_eq_some_iff.1 hTi;obtain ⟨h2,rfl⟩:=List.getElem?_eq_some_iff.1 hTy;have:=List.pairwise_iff_getElem.1 hp (i - 1) i (by rw [List.length_map]; omega) (by rw [List.length_map]; omega) (by omega);rw [List.getElem_map,List.getElem_map] at this;exact this
   obtain ⟨bb,ob,e1,eb⟩:=Ab.at' (hT.mono ((le2.trans l3).trans l4)) (j:=i - 1) (e:=A5 y) (by simp [hTy]);cases e1;refine G.a ba oa T.length c1 (i - 1) 3 (by omega) ?_;refine G.f 81 ba (oa+(i - 1)*3) 0 0 ?_;refine G.lU (some 2) ba (oa+(i - 1)*3+0) (.agg #[.int .i64 y.1.1,.string (mkS y.1.2)]) eb.par ?_;refine G.c call93 (Dq y.1 x.1 true (decide_eq_true hsrt)) ?_;rintro v5 u5 l5 rfl;refine G.i i ?_;exact G.b (hJ (i+1) _ _ _ cv (((l2.trans l3).trans l4).trans l5) ⟨by omega,rfl⟩ (by omega))
 obtain rfl:i=T.length:=by omega
 refine G.lF (T.length:Int) (T.length:Int) ?_;clear hJ;refine G.l (ι:=Nat) (fun i=>[(1,.p 0 0),(53,.v (.slice a2 Q.length c2)),(54,.v (.int .i64 (Q.length:Int))),(55,.v (.int .i64 (i:Int)))])
  (fun _=>[(0,⟨37,[.v (.string (mkS (Af F.c))),.v (.slice a1 T.length c1),.v (.slice a2 Q.length c2)]⟩)])
  (fun i u' m'=>i≤Q.length∧m'=PH.mt) (fun i=>Q.length - i) 0 ⟨by omega,rfl⟩ ?_
 rintro J i hJ u3 m3 l3 ⟨hi,rfl⟩;have le3:=le2.trans l3;by_cases hlt:i < Q.length
 ·refine G.lT (i:Int) (Q.length:Int) ?_;obtain ⟨x,hQi⟩:∃ x,Q[i]?=some x:=⟨_,List.getElem?_eq_getElem hlt⟩;have hmem:=List.mem_of_getElem? hQi;obtain ⟨hval,hne⟩:=cQ.val _ hmem;obtain ⟨ba,oa,rfl,ea⟩:=Ab.at' (hQ.mono le3) (j:=i) (e:=Da x) (by simp [hQi]);have hsq:SB x.2:=by rw [hval]; exact sF.t _
  obtain ⟨hp1,hp2,hord⟩:=vF.t x.1 (by rw [← hval]; exact hne);refine G.a ba oa Q.length c2 i 5 hlt ?_;refine G.lU (some 5) ba (oa+i*5) (.agg #[.int .i64 x.1.1.1,.string (mkS x.1.1.2),.int .i64 x.1.2.1,.string (mkS x.1.2.2),.string (mkS (Af x.2))]) ea ?_;refine G.c call155 (Pp hp1) ?_;rintro v3 u4 l4 rfl;refine G.c call155 (Pp hp2) ?_;rintro v4 u5 l5 rfl;refine G.c call93 (Dq x.1.2 x.1.1 false (decide_eq_false fun e=>hord ((Dp.sym _ _).1 e))) ?_;rintro v5 u6 l6 rfl;refine G.c call30 (Cp (SB.tx hsq)) ?_;rintro v6 u7 l7 rfl;refine G.w (Af x.2) [48] (Rh hne) ?_;by_cases h0:i=0
  ·subst h0;refine G.gF ((0:Nat):Int) 0 ?_;refine G.p ((0:Nat):Int) 1 ((0+1:Nat):Int) ?_;exact G.b (hJ (0+1) _ _ _ cv ((((l3.trans l4).trans l5).trans l6).trans l7) ⟨by omega,rfl⟩ (by omega))
  ·refine G.gT (i:Int) 0 ?_;refine G.s (i:Int) 1 ((i - 1:Nat):Int) ?_;obtain ⟨y,hQy⟩:∃ y,Q[i - 1]?=some y:=⟨_,List.getElem?_eq_getElem (by omega)⟩;have hsrt:Lg y.1 x.1 < 0:=by
    have hp:=cQ.srt;obtain ⟨h1,rfl⟩:=List.getElem?_eq_some_iff.1 hQi;obtain ⟨h2,rfl⟩:=List.getElem?_eq_some_iff.1 hQy;have:=List.pairwise_iff_getElem.1 hp (i - 1) i (by rw [List.length_map]; omega) (by rw [List.length_map]; omega) (by omega);rw [List.getElem_map,List.getElem_map] at this;exact this
   obtain ⟨bb,ob,e1,eb⟩:=Ab.at' (hQ.mono ((((le3.trans l4).trans l5).trans l6).trans l7)) (j:=i - 1) (e:=Da y) (by simp [hQy]);cases e1;refine G.a ba oa Q.length c2 (i - 1) 5 (by omega) ?_;refine G.lU (some 5) ba (oa+(i - 1)*5) (Da y) eb ?_;refine G.c call142 (Mw y x true (decide_eq_true hsrt)) ?_;rintro v5 u8 l8 rfl;refine G.i i ?_;exact G.b (hJ (i+1) _ _ _ cv (((((l3.trans l4).trans l5).trans l6).trans l7).trans l8) ⟨by omega,rfl⟩ (by omega))
 obtain rfl:i=Q.length:=by omega
 refine G.lF (Q.length:Int) (Q.length:Int) ?_;exact G.r (.bool true) ⟨rfl,rfl⟩
end
section
open Go.RowKit Go.MapKept
end
section
open Go.RowKit Go.MapKept
theorem Src.h0or (s:Src)(k k':Nat)(n0:PH)(g:Nat):s.M k g=none∨(n0.or (s.M k')) g≠none:=by
 rcases s.h0 k k' g with e | e
 ·exact .inl e
 ·right;intro h;cases hx:n0 g with
  | some o=>rw [PH.or_l hx] at h; cases h
  | none=>rw [PH.or_r hx] at h; exact e h
theorem Al2 {m:PH}{a b c d:Arr}(h:Bag m [a,b,c,d]):Bag m [a,c,d]:=by
 have h1:Bag m [a,c,d,b]:=Bag.perm (List.Perm.cons a ((List.Perm.swap c b [d]).trans (List.Perm.cons c (List.Perm.swap d b [])))) h;obtain ⟨p0,q0,p1,q1,p2,q2,_⟩:=h1;exact ⟨p0,q0,p1,q1,p2,q2,trivial⟩
theorem Aoo {x:Int}(h:x∈[1,2,2,(3:Int)]):∃ n:Nat,x=(n:Int)∧1≤n∧n≤3:=by
 simp at h;rcases h with rfl | rfl | rfl
 ·exact ⟨1,rfl,by omega,by omega⟩
 ·exact ⟨2,rfl,by omega,by omega⟩
 ·exact ⟨3,rfl,by omega,by omega⟩
theorem Z1 {u:PH}{s:Src}{ts:List Int}{k:Nat}(most:Nat)(hm1:1≤most)(hm6:most≤6)(h:H0 u s ts)(hk:k≤s.n) :
  Ai prog 100 [s.ptr,.int .i64 (most:Int)] u (s.M k) fun v u' m'=>∃ (T:List (List UInt8×Nat)) (R:List Bk) (F:List Ao) (lab:Int) (k':Nat),F1 u' v T R F lab∧Bn u' T R F lab∧T.length≤6∧k'≤s.n∧m'=s.M k'∧TOK T∧T.length≤most∧F.length≤most:=by
 refine Ai.o func100 ?_;refine G.A call156 (Aet (lo:=1) (hi:=3) (n:=3) h hk (by omega) (by omega) (by omega) (by omega) (by omega)) ?_;rintro v1 u1 m1 l1 ⟨r,k1,rfl,hr,hk1,rfl⟩ _;rw [C2];obtain ⟨n,hn⟩:∃ n:Nat,(1:Int)+(r:Int)=(n:Int):=⟨1+r,by omega⟩;rw [hn];refine G.l (ι:=Nat×Nat×List (List UInt8×Nat)×(Option Addr×Nat)×List Bk×(Option Addr×Nat)) (fun i=>[(0,.v s.ptr),(1,.v (.int .i64 (most:Int))),(4,.p 0 0),(5,.p 1001 0),(6,.v (.int .i64 (n:Int))),(7,.v (.int .i64 (i.1:Int)))])
  (fun i=>[(0,⟨31,[.v (.slice none 0 0),.v (.slice none 0 0),.v (.slice none 0 0),.v (.int .i64 0)]⟩),(1001,⟨31,[.v (.slice i.2.2.2.1.1 i.2.2.1.length i.2.2.2.1.2),.v (.slice i.2.2.2.2.2.1 i.2.2.2.2.1.length i.2.2.2.2.2.2),.v (.slice none 0 0),.v (.int .i64 (-1))]⟩)])
  (fun i u' m'=>i.1≤n∧i.2.1≤s.n∧TOM most i.2.2.1∧ROK u' i.2.2.1.length i.2.2.2.2.1∧i.2.2.2.2.1.length=i.1∧(0 < i.1→0 < i.2.2.1.length)∧Bag m' [s.arr i.2.1,Xo i.2.2.2.1.1 i.2.2.2.1.2 i.2.2.1,Uf i.2.2.2.2.2.1 i.2.2.2.2.2.2 i.2.2.2.2.1])
  (fun i=>n - i.1) (0,k1,[],(none,0),[],(none,0))
  ⟨Nat.zero_le _,hk1,TOM.nil most,ROK.nil,rfl,fun h=>absurd h (by simp),s.bag0 k1 ⟨PH.mt,Ae.nil _ _ _,PH.mt,Ae.nil _ _ _,trivial⟩⟩ ?_
 rintro J ⟨i,k2,T,⟨ta,tc⟩,R,⟨ra,rc⟩⟩ hJ u2 m2 l2 ⟨hi,hk2,hT,hR,hRl,h0,hbag⟩;simp only at hi hk2 hT hR hRl h0 hbag hJ;subst hRl;have le2:=l1.trans l2;have hT6:=hT.le;by_cases hlt:R.length < n
 ·refine G.lT (R.length:Int) (n:Int) ?_;refine G.l (ι:=Nat×Nat×List Nat×(Option Addr×Nat)) (fun i=>[(0,.v s.ptr),(1,.v (.int .i64 (most:Int))),(4,.p 0 0),(5,.p 1001 0),(6,.v (.int .i64 (n:Int))),(7,.v (.int .i64 (R.length:Int))),(8,.v (.slice i.2.2.2.1 i.2.2.1.length i.2.2.2.2)),(23,.v (.int .i64 (T.length:Int))),(24,.v (.int .i64 (i.1:Int)))])
   (fun i=>[(0,⟨31,[.v (.slice none 0 0),.v (.slice none 0 0),.v (.slice none 0 0),.v (.int .i64 0)]⟩),(1001,⟨31,[.v (.slice ta T.length tc),.v (.slice ra R.length rc),.v (.slice none 0 0),.v (.int .i64 (-1))]⟩)])
   (fun i u' m'=>i.1≤T.length∧i.2.1≤s.n∧LOK i.2.2.1 i.1∧Bag m' [s.arr i.2.1,Z9 i.2.2.2.1 i.2.2.2.2 i.2.2.1,Xo ta tc T,Uf ra rc R])
   (fun i=>T.length - i.1) (0,k2,[],(none,0))
   ⟨Nat.zero_le _,hk2,LOK.nil,by obtain ⟨m0,hs0,hL⟩:=hbag; exact ⟨m0,hs0,m0,Ae.nil _ _ _,hL⟩⟩ ?_
  rintro J1 ⟨j,k3,l,⟨la,lc⟩⟩ hJ1 u3 m3 l3 ⟨hj,hk3,hl,hbag3⟩;simp only at hj hk3 hl hbag3 hJ1;have hll:=hl.len;by_cases hltj:j < T.length
  ·refine G.lT (j:Int) (T.length:Int) ?_;obtain ⟨n4,hsrc4,hL4⟩:=hbag3;obtain ⟨rfl,hg4⟩:=Src.split hsrc4;refine G.D call73 (Src.apart hg4) (Ia (n:=3) (h.mono (le2.trans l3)) hk3 (by omega) (by omega)) ?_;rintro v4 u4 m4 l4 ⟨r4,k4,rfl,hr4,hk4,rfl⟩ _;have hbag4:Bag _ [s.arr k4,Z9 la lc l,Xo ta tc T,Uf ra rc R]:=⟨_,Src.at hg4,hL4⟩;by_cases hr0:r4=0
   ·refine G.eT (r4:Int) 0 ?_;refine G.B 3 1 8 (.int .i64 0) [.int .i64 (j:Int)] (Ax [j]) ?_;intro g6 u6 l6 e6;obtain ⟨mm6,hx6,hput6⟩:=hbag4.focus 1 rfl;rw [Xf] at hx6;refine G.append 3 1 8 (.int .i64 0) mm6 (Ag l) [.int .i64 (j:Int)] (.slice la l.length lc) g6 0 1 1 (by kernel_rfl) rfl rfl (by omega) hx6 e6 (Ax [j]) rfl (by omega) (by simp [Ag]; omega) (by simp [Ag]; omega) ?_;intro w6 mn6 hy6;rw [Cj] at hy6;obtain ⟨a6,c6,rfl⟩:=hy6.shape;rw [Ah] at hy6 ⊢;have hbag6:=hput6 (Z9 a6 c6 (l++[j])) mn6 hy6;simp only [List.set_cons_succ,List.set_cons_zero] at hbag6;refine G.i j ?_;exact G.b (hJ1 (j+1,k4,l++[j],(a6,c6)) _ _ _ cv ((l3.trans l4).trans l6) ⟨by dsimp only; omega,hk4,hl.snoc,hbag6⟩ (by dsimp only; omega))
   ·refine G.eF (r4:Int) 0 ?_;refine G.i j ?_;exact G.b (hJ1 (j+1,k4,l,(la,lc)) _ _ _ cv (l3.trans l4) ⟨by dsimp only; omega,hk4,hl.up,hbag4⟩ (by dsimp only; omega))
  ·obtain rfl:j=T.length:=by omega
   refine G.lF (T.length:Int) (T.length:Int) ?_;obtain ⟨n4,hsrc4,hL4⟩:=hbag3;obtain ⟨rfl,hg4⟩:=Src.split hsrc4;refine G.D call73 (Src.apart hg4) (Ia (n:=3) (h.mono (le2.trans l3)) hk3 (by omega) (by omega)) ?_;rintro v4 u4 m4 l4 ⟨r4,k4,rfl,hr4,hk4,rfl⟩ _;have hbag4:Bag _ [s.arr k4,Z9 la lc l,Xo ta tc T,Uf ra rc R]:=⟨_,Src.at hg4,hL4⟩;refine G.l (ι:=Int×Nat×List Nat×(Option Addr×Nat)×List (List UInt8×Nat)×(Option Addr×Nat)) (fun i=>[(0,.v s.ptr),(1,.v (.int .i64 (most:Int))),(4,.p 0 0),(5,.p 1001 0),(6,.v (.int .i64 (n:Int))),(7,.v (.int .i64 (R.length:Int))),(8,.v (.slice i.2.2.2.1.1 i.2.2.1.length i.2.2.2.1.2)),(10,.v (.int .i64 i.1))])
    (fun i=>[(0,⟨31,[.v (.slice none 0 0),.v (.slice none 0 0),.v (.slice none 0 0),.v (.int .i64 0)]⟩),(1001,⟨31,[.v (.slice i.2.2.2.2.2.1 i.2.2.2.2.1.length i.2.2.2.2.2.2),.v (.slice ra R.length rc),.v (.slice none 0 0),.v (.int .i64 (-1))]⟩)])
    (fun i u' m'=>i.2.1≤s.n∧(i.2.2.1 = []→0≤i.1)∧-1≤i.1∧i.1≤2∧T.length≤i.2.2.2.2.1.length∧TOM most i.2.2.2.2.1∧LOK i.2.2.1 i.2.2.2.2.1.length∧(∀ a,T.length≤a→a < i.2.2.2.2.1.length→a∈i.2.2.1)∧Bag m' [s.arr i.2.1,Z9 i.2.2.2.1.1 i.2.2.2.1.2 i.2.2.1,Xo i.2.2.2.2.2.1 i.2.2.2.2.2.2 i.2.2.2.2.1,Uf ra rc R])
    (fun i=>(i.1+1).toNat) ((r4:Int),k4,l,(la,lc),T,(ta,tc))
    ⟨hk4,fun _=>by dsimp only; omega,by dsimp only; omega,by dsimp only; omega,Nat.le_refl _,hT,hl,fun a h1 h2=>by dsimp only at h2; omega,hbag4⟩ ?_
   rintro J2 ⟨z,k5,l5,⟨la5,lc5⟩,T5,⟨ta5,tc5⟩⟩ hJ2 u5 m5 l5' ⟨hk5,hz0,hz1,hz2,hTle5,hT5,hl5,hall5,hbag5⟩;simp only at hk5 hz0 hz1 hz2 hTle5 hT5 hl5 hall5 hbag5 hJ2;have hT56:=hT5.le;have hl56:=hl5.len;have le5:=((le2.trans l3).trans l4).trans l5';have lo5:=(l3.trans l4).trans l5';refine dite (0 < z) (fun hz=>?zp) (fun hz=>?zn)
   case' zp =>
    refine G.gT z 0 ?_;refine dite (T5.length < most) (fun hlen=>?g1) (fun hlen=>?l1)
   case' g1=>refine G.lT (T5.length:Int) (most:Int) ?_
   case' l1 =>
    refine G.lF (T5.length:Int) (most:Int) ?_;refine dite (l5 = []) (fun hemp=>?e1) (fun hemp=>?n1)
   case' n1=>have hpos:0 < T5.length:=by omega
   case' zn =>
    refine G.gF z 0 ?_;refine dite (l5 = []) (fun hemp=>?y2) (fun hemp=>?n2)
   case' y2 =>
    have hz':=hz0 hemp;have hle0:l5.length=0:=by rw [hemp]; rfl
    refine G.eT (l5.length:Int) 0 ?_;refine dite (T5.length < most) (fun hlen=>?g2) (fun hlen=>?e2)
   case' g2=>refine G.lT (T5.length:Int) (most:Int) ?_
   case' e2=>refine G.lF (T5.length:Int) (most:Int) ?_
   case' n2 =>
    have hle0:0 < l5.length:=List.length_pos_iff.2 hemp;refine G.eF (l5.length:Int) 0 ?_;have hpos:0 < T5.length:=by
     obtain ⟨x,hx⟩:=List.exists_mem_of_ne_nil _ hemp;have:=hl5.lt x hx;omega
   case g1 | g2 =>
    refine G.B 3 1 8 (.int .i64 0) [.int .i64 (T5.length:Int)] (Ax [T5.length]) ?_;intro g21 u21 l21 e21;obtain ⟨mm21,hx21,hput21⟩:=hbag5.focus 1 rfl;rw [Xf] at hx21;refine G.append 3 1 8 (.int .i64 0) mm21 (Ag l5) [.int .i64 (T5.length:Int)] (.slice la5 l5.length lc5) g21 0 1 1 (by kernel_rfl) rfl rfl (by omega) hx21 e21 (Ax [T5.length]) rfl (by omega) (by simp [Ag]; omega) (by simp [Ag]; omega) ?_;intro w21 mn21 hy21;rw [Cj] at hy21;obtain ⟨a21,c21,rfl⟩:=hy21.shape;rw [Ah] at hy21 ⊢;have hbag21:=hput21 (Z9 a21 c21 (l5++[T5.length])) mn21 hy21;simp only [List.set_cons_succ,List.set_cons_zero] at hbag21;refine G.both [0,1,2,3,4,6] 5 7 [8,9,10,11,12,13] (by kernel_rfl) ?_ ?_;refine G.c call179 (N9 (p:=[97]) (i:=T5.length) (by omega) (by simp)) ?_;rintro v22 u22 l22 rfl;refine G.B 3 1 8 (.int .i64 0) [.int .i64 1,.int .i64 2,.int .i64 2,.int .i64 3] (K9 [1,2,2,3]) ?_;intro g23 u23 l23 e23;have le23:=(((le5).trans l21).trans l22).trans l23;have lq23:=l22.trans l23;have e23p:=e23.listP
    rotate_left
    refine G.B 3 1 8 (.int .i64 0) [.int .i64 1,.int .i64 2,.int .i64 2,.int .i64 3] (K9 [1,2,2,3]) ?_;intro g23 u23 l23 e23;refine G.c call179 (N9 (p:=[97]) (i:=T5.length) (by omega) (by simp)) ?_;rintro v22 u22 l22 rfl;have le23:=(((le5).trans l21).trans l23).trans l22;have lq23:=l23.trans l22;have e23p:=e23.listP.mono l22;all_goals
     obtain ⟨n24,hsrc24,hL24⟩:=hbag21;obtain ⟨rfl,hg24⟩:=Src.split hsrc24;refine G.D call104 (Src.apart hg24) (Za (L:=[1,2,2,3]) (h.mono le23) hk5 e23p (by simp) (by simp)) ?_;rintro v24 u24 m24 l24 ⟨kd,hkd,k24,rfl,hk24,rfl⟩ _;obtain ⟨kn,rfl,hkn1,hkn3⟩:=Aoo hkd;have hbag24:Bag (n24.or (s.M k24)) [s.arr k24,Z9 a21 c21 (l5++[T5.length]),Xo ta5 tc5 T5,Uf ra rc R]:=⟨n24,Src.at hg24,hL24⟩;refine G.B 92 2 24 (.agg #[.string (mkS []),.int .i64 0]) [.agg #[.string (mkS (nmA T5.length)),.int .i64 (kn:Int)]] (Adt (nmA T5.length,kn)) ?_;intro g25 u25 l25 e25;obtain ⟨mm25,hx25,hput25⟩:=hbag24.focus 2 rfl;rw [Amn] at hx25;refine G.append 92 2 24 (.agg #[.string (mkS []),.int .i64 0]) mm25 (T5.map D0) [.agg #[.string (mkS (nmA T5.length)),.int .i64 (kn:Int)]] (.slice ta5 T5.length tc5) g25 0 1 1 (by kernel_rfl) rfl rfl (by omega) hx25 e25 (Adt (nmA T5.length,kn)) rfl (by omega) (by simp [Ag]; omega) (by simp [Ag]; omega) ?_;intro w25 mn25 hy25;rw [show T5.map D0++[.agg #[.string (mkS (nmA T5.length)),.int .i64 (kn:Int)]]=(T5++[(nmA T5.length,kn)]).map D0 by rw [List.map_append]; rfl] at hy25;obtain ⟨a25,c25,rfl⟩:=hy25.shape;rw [List.length_map] at hy25 ⊢;have hbag25:=hput25 (Xo a25 c25 (T5++[(nmA T5.length,kn)])) mn25 hy25;simp only [List.set_cons_succ,List.set_cons_zero] at hbag25;refine G.s z 1 (z - 1) ?_;exact G.b (hJ2 (z - 1,k24,l5++[T5.length],(a21,c21),T5++[(nmA T5.length,kn)],(a25,c25)) _ _ _ cv ((((l5'.trans l21).trans lq23).trans l24).trans l25) ⟨hk24,fun e=>by simp at e,by dsimp only; omega,by dsimp only; omega,by dsimp only; rw [List.length_append]; omega,hT5.snocm hkn1 hkn3 (by omega) hm6,by dsimp only; rw [List.length_append]; exact hl5.snoc,fun a h1 h2=>by
      dsimp only at h2 ⊢;rw [List.length_append,List.length_singleton] at h2;rcases Nat.lt_or_ge a T5.length with e | e
      ·exact List.mem_append_left _ (hall5 a h1 e)
      ·exact List.mem_append_right _ (List.mem_singleton.2 (by omega)),hbag25⟩ (by dsimp only; omega))
   case e1 | e2 =>
    subst hemp;refine G.eT' (([]:List Nat).length:Int) 0 (by simp) ?_;refine G.B 3 1 8 (.int .i64 0) [.int .i64 ((0:Nat):Int)] (Ax [0]) ?_;intro g26 u26 l26 e26;have hl26:Ab u26 (.slice (some ⟨g26,0,none⟩) 1 1) 1 (Ag [0]):=e26.listP;have hbag26:=Al2 hbag5;refine G.c call179 (N9 (p:=[114]) (i:=R.length) (by omega) (by simp)) ?_;rintro v27 u27 l27 rfl;refine G.B 94 2 40 (.agg #[.string (mkS []),.slice none 0 0]) [.agg #[.string (mkS (nmR R.length)),.slice (some ⟨g26,0,none⟩) 1 1]] (Nk (nmR R.length,[0],((some (⟨g26,0,none⟩:Addr)),1))) ?_;intro g28 u28 l28 e28;obtain ⟨mm28,hx28,hput28⟩:=hbag26.focus 2 rfl;rw [Aee] at hx28;refine G.append 94 2 40 (.agg #[.string (mkS []),.slice none 0 0]) mm28 (R.map Gb) [.agg #[.string (mkS (nmR R.length)),.slice (some ⟨g26,0,none⟩) 1 1]] (.slice ra R.length rc) g28 0 1 1 (by kernel_rfl) rfl rfl (by omega) hx28 e28 (Nk (nmR R.length,[0],((some (⟨g26,0,none⟩:Addr)),1))) rfl (by omega) (by simp [Ag]; omega) (by simp [Ag]; omega) ?_;intro w28 mn28 hy28;rw [show R.map Gb++[.agg #[.string (mkS (nmR R.length)),.slice (some ⟨g26,0,none⟩) 1 1]]=(R++[(nmR R.length,[0],((some (⟨g26,0,none⟩:Addr)),1))]).map Gb by rw [List.map_append]; rfl] at hy28;obtain ⟨a28,c28,rfl⟩:=hy28.shape;rw [List.length_map] at hy28 ⊢;have hbag28:=hput28 (Uf a28 c28 (R++[(nmR R.length,[0],((some (⟨g26,0,none⟩:Addr)),1))])) mn28 hy28;simp only [List.set_cons_succ,List.set_cons_zero] at hbag28;refine G.p (R.length:Int) 1 ((R.length+1:Nat):Int) ?_;have hR28:ROK u28 T5.length (R++[(nmR R.length,[0],((some (⟨g26,0,none⟩:Addr)),1))]):=by
     refine (hR.mono (lo5 |>.trans l26 |>.trans l27 |>.trans l28)).snoc hTle5 (LOK.zero (by omega)) (by simp) (fun a h1 h2=>?_) (hl26.mono (l27.trans l28));exact absurd (hall5 a h1 h2) (by simp)
    exact G.b (hJ (R.length+1,k5,T5,(ta5,tc5),R++[(nmR R.length,[0],((some (⟨g26,0,none⟩:Addr)),1))],(a28,c28)) _ _ _ cv (l2.trans (lo5 |>.trans l26 |>.trans l27 |>.trans l28)) ⟨by dsimp only; omega,hk5,hT5,hR28,by simp,fun _=>by dsimp only; omega,hbag28⟩ (by dsimp only; omega))
   case n1 | n2 =>
    have hl0:0 < l5.length:=List.length_pos_iff.2 hemp;refine G.eF (l5.length:Int) 0 ?_;obtain ⟨mL,hxl,hrest⟩:=hbag5.take 1 rfl;have hbag26:Bag mL [s.arr k5,Xo ta5 tc5 T5,Uf ra rc R]:=hrest;rw [Xf] at hxl;refine G.give mL (Ag l5) (.slice la5 l5.length lc5) (by kernel_rfl) hxl (fun g=>?_) ?_
    ·obtain ⟨n26,hs26,_⟩:=hbag26;obtain ⟨rfl,_⟩:=Src.split hs26;exact s.h0or k k5 n26 g
    intro u26 l26 hl26;refine G.c call179 (N9 (p:=[114]) (i:=R.length) (by omega) (by simp)) ?_;rintro v27 u27 l27 rfl;refine G.B 94 2 40 (.agg #[.string (mkS []),.slice none 0 0]) [.agg #[.string (mkS (nmR R.length)),.slice la5 l5.length lc5]] (Nk (nmR R.length,l5,(la5,lc5))) ?_;intro g28 u28 l28 e28;obtain ⟨mm28,hx28,hput28⟩:=hbag26.focus 2 rfl;rw [Aee] at hx28;refine G.append 94 2 40 (.agg #[.string (mkS []),.slice none 0 0]) mm28 (R.map Gb) [.agg #[.string (mkS (nmR R.length)),.slice la5 l5.length lc5]] (.slice ra R.length rc) g28 0 1 1 (by kernel_rfl) rfl rfl (by omega) hx28 e28 (Nk (nmR R.length,l5,(la5,lc5))) rfl (by omega) (by simp [Ag]; omega) (by simp [Ag]; omega) ?_;intro w28 mn28 hy28;rw [show R.map Gb++[.agg #[.string (mkS (nmR R.length)),.slice la5 l5.length lc5]]=(R++[(nmR R.length,l5,(la5,lc5))]).map Gb by rw [List.map_append]; rfl] at hy28;obtain ⟨a28,c28,rfl⟩:=hy28.shape;rw [List.length_map] at hy28 ⊢;have hbag28:=hput28 (Uf a28 c28 (R++[(nmR R.length,l5,(la5,lc5))])) mn28 hy28;simp only [List.set_cons_succ,List.set_cons_zero] at hbag28;refine G.p (R.length:Int) 1 ((R.length+1:Nat):Int) ?_;have hR28:ROK u28 T5.length (R++[(nmR R.length,l5,(la5,lc5))]):=by
     exact (hR.mono (lo5 |>.trans l26 |>.trans l27 |>.trans l28)).snoc hTle5 hl5 hemp hall5 (hl26.mono (l27.trans l28))
    exact G.b (hJ (R.length+1,k5,T5,(ta5,tc5),R++[(nmR R.length,l5,(la5,lc5))],(a28,c28)) _ _ _ cv (l2.trans (lo5 |>.trans l26 |>.trans l27 |>.trans l28)) ⟨by dsimp only; omega,hk5,hT5,hR28,by simp,fun _=>by dsimp only; omega,hbag28⟩ (by dsimp only; omega))
 obtain rfl:R.length=n:=by omega
 refine G.lF (R.length:Int) (R.length:Int) ?_;have hTpos:=h0 (by omega);obtain ⟨n0,hsrc,hL⟩:=hbag;obtain ⟨rfl,hg0⟩:=Src.split hsrc;refine G.giveP (ma:=n0) (sm:=s.M k2) (by kernel_rfl) rfl (Src.apart hg0) (s.h0 k k2) ?_;intro u3 l3 hm3;have hAL:Ab u3 (.slice ta T.length tc) 2 (T.map D0):=hL.list hm3 0 rfl;have hRL:Ab u3 (.slice ra R.length rc) 2 (R.map Gb):=hL.list hm3 1 rfl;refine G.l (ι:=Nat×Nat×List Ao×(Option Addr×Nat)×Int) (fun i=>[(0,.v s.ptr),(4,.p 0 0),(5,.p 1001 0),(86,.v (.slice ta T.length tc)),(87,.v (.int .i64 (T.length:Int))),(88,.v (.int .i64 (i.1:Int)))])
  (fun i=>[(0,⟨31,[.v (.slice none 0 0),.v (.slice none 0 0),.v (.slice none 0 0),.v (.int .i64 0)]⟩),(1001,⟨31,[.v (.slice ta T.length tc),.v (.slice ra R.length rc),.v (.slice i.2.2.2.1.1 i.2.2.1.length i.2.2.2.1.2),.v (.int .i64 i.2.2.2.2)]⟩)])
  (fun i u' m'=>i.1≤T.length∧i.2.1≤s.n∧FOK T i.2.2.1 i.2.2.2.2 i.1∧Bag m' [s.arr i.2.1,Sr i.2.2.2.1.1 i.2.2.2.1.2 i.2.2.1])
  (fun i=>T.length - i.1) (0,k2,[],(none,0),-1)
  ⟨Nat.zero_le _,hk2,FOK.nil,s.bag0 k2 ⟨PH.mt,Ae.nil _ _ _,trivial⟩⟩ ?_
 rintro J1 ⟨a,k3,F,⟨fa,fc⟩,lab⟩ hJ1 u4 m4 l4 ⟨ha,hk3,hF,hbag4⟩;simp only at ha hk3 hF hbag4 hJ1;have le4:=(le2.trans l3).trans l4;have hFl:=hF.len;by_cases hlt2:a < T.length
 ·refine G.lT (a:Int) (T.length:Int) ?_;have hTa:T[a]?=some T[a]:=List.getElem?_eq_getElem hlt2;have hkd:=hT.kd _ (List.getElem_mem hlt2);obtain ⟨ba,oa,rfl,ea⟩:=Ab.at' (hAL.mono l4) (j:=a) (e:=D0 T[a]) (by simp [hTa]);generalize T[a]=x at hTa hkd ea;obtain ⟨nm,kd⟩:=x;simp only at hkd;refine G.a ba oa T.length tc a 2 hlt2 ?_;refine G.lU (some 2) ba (oa+a*2) (.agg #[.string (mkS nm),.int .i64 (kd:Int)]) ea ?_;by_cases hk2':kd=2
  ·subst hk2';refine G.eT ((2:Nat):Int) 2 ?_;by_cases hlab:lab < 0
   ·refine G.lT lab 0 ?_;obtain ⟨n5,hsrc5,hL5⟩:=hbag4;obtain ⟨rfl,hg5⟩:=Src.split hsrc5;refine G.D call73 (Src.apart hg5) (Ia (n:=2) (h.mono le4) hk3 (by omega) (by omega)) ?_;rintro v5 u5 m5 l5 ⟨r5,k5,rfl,hr5,hk5,rfl⟩ _;have hbag5:Bag _ [s.arr k5,Sr fa fc F]:=⟨_,Src.at hg5,hL5⟩;by_cases hr0:r5=0
    ·refine G.eT (r5:Int) 0 ?_;refine G.i a ?_;exact G.b (hJ1 (a+1,k5,F,(fa,fc),(a:Int)) _ _ _ cv (l4.trans l5) ⟨by dsimp only; omega,hk5,hF.lab hTa,hbag5⟩ (by dsimp only; omega))
    ·refine G.eF (r5:Int) 0 ?_;refine G.eT ((2:Nat):Int) 2 ?_;have hg11:=hg5;have hL11:=hL5;refine G.D call73 (Src.apart hg11) (Ia (n:=4) (h.mono (le4.trans l5)) hk5 (by omega) (by omega)) ?_;rintro v11 u11 m11 l11 ⟨r11,k11,rfl,hr11,hk11,rfl⟩ _;have hbag11:Bag _ [s.arr k11,Sr fa fc F]:=⟨_,Src.at hg11,hL11⟩;by_cases hr1:0 < r11
     ·refine G.gT (r11:Int) 0 ?_;have hg12:=hg11;have hL12:=hL11;refine G.D call73 (Src.apart hg12) (Ia (n:=2) (h.mono ((le4.trans l5).trans l11)) hk11 (by omega) (by omega)) ?_;rintro v12 u12 m12 l12 ⟨r12,k12,rfl,hr12,hk12,rfl⟩ _;have hbag12:Bag _ [s.arr k12,Sr fa fc F]:=⟨_,Src.at hg12,hL12⟩;refine G.B 144 3 24 (.agg #[.int .i64 0,.int .i64 0,.int .i64 0]) [.agg #[.int .i64 (a:Int),.int .i64 ((1:Nat):Int),.int .i64 (r12:Int)]] (Hu (a,1,r12)) ?_;intro g13 u13 l13 e13;obtain ⟨mm13,hx13,hput13⟩:=hbag12.focus 1 rfl;rw [Xa] at hx13;refine G.append 144 3 24 (.agg #[.int .i64 0,.int .i64 0,.int .i64 0]) mm13 (F.map B6) [.agg #[.int .i64 (a:Int),.int .i64 ((1:Nat):Int),.int .i64 (r12:Int)]] (.slice fa F.length fc) g13 0 1 1 (by kernel_rfl) rfl rfl (by omega) hx13 e13 (Hu (a,1,r12)) rfl (by omega) (by simp [Ag]; omega) (by simp [Ag]; omega) ?_;intro w13 mn13 hy13;rw [show F.map B6++[.agg #[.int .i64 (a:Int),.int .i64 ((1:Nat):Int),.int .i64 (r12:Int)]]=(F++[(a,1,r12)]).map B6 by rw [List.map_append]; rfl] at hy13;obtain ⟨a13,c13,rfl⟩:=hy13.shape;rw [List.length_map] at hy13 ⊢;have hbag13:=hput13 (Sr a13 c13 (F++[(a,1,r12)])) mn13 hy13;simp only [List.set_cons_succ,List.set_cons_zero] at hbag13;refine G.i a ?_;exact G.b (hJ1 (a+1,k12,F++[(a,1,r12)],(a13,c13),lab) _ _ _ cv ((((l4.trans l5).trans l11).trans l12).trans l13) ⟨by dsimp only; omega,hk12,hF.put hTa (.inl ⟨rfl,rfl,by omega⟩),hbag13⟩ (by dsimp only; omega))
     ·refine G.gF (r11:Int) 0 ?_;refine G.eF ((2:Nat):Int) 3 ?_;refine G.i a ?_;exact G.b (hJ1 (a+1,k11,F,(fa,fc),lab) _ _ _ cv ((l4.trans l5).trans l11) ⟨by dsimp only; omega,hk11,hF.skip,hbag11⟩ (by dsimp only; omega))
   ·refine G.lF lab 0 ?_;refine G.eT ((2:Nat):Int) 2 ?_;obtain ⟨n11,hsrc11,hL11⟩:=hbag4;obtain ⟨rfl,hg11⟩:=Src.split hsrc11;refine G.D call73 (Src.apart hg11) (Ia (n:=4) (h.mono le4) hk3 (by omega) (by omega)) ?_;rintro v11 u11 m11 l11 ⟨r11,k11,rfl,hr11,hk11,rfl⟩ _;have hbag11:Bag _ [s.arr k11,Sr fa fc F]:=⟨_,Src.at hg11,hL11⟩;by_cases hr1:0 < r11
    ·refine G.gT (r11:Int) 0 ?_;have hg12:=hg11;have hL12:=hL11;refine G.D call73 (Src.apart hg12) (Ia (n:=2) (h.mono (le4.trans l11)) hk11 (by omega) (by omega)) ?_;rintro v12 u12 m12 l12 ⟨r12,k12,rfl,hr12,hk12,rfl⟩ _;have hbag12:Bag _ [s.arr k12,Sr fa fc F]:=⟨_,Src.at hg12,hL12⟩;refine G.B 144 3 24 (.agg #[.int .i64 0,.int .i64 0,.int .i64 0]) [.agg #[.int .i64 (a:Int),.int .i64 ((1:Nat):Int),.int .i64 (r12:Int)]] (Hu (a,1,r12)) ?_;intro g13 u13 l13 e13;obtain ⟨mm13,hx13,hput13⟩:=hbag12.focus 1 rfl;rw [Xa] at hx13;refine G.append 144 3 24 (.agg #[.int .i64 0,.int .i64 0,.int .i64 0]) mm13 (F.map B6) [.agg #[.int .i64 (a:Int),.int .i64 ((1:Nat):Int),.int .i64 (r12:Int)]] (.slice fa F.length fc) g13 0 1 1 (by kernel_rfl) rfl rfl (by omega) hx13 e13 (Hu (a,1,r12)) rfl (by omega) (by simp [Ag]; omega) (by simp [Ag]; omega) ?_;intro w13 mn13 hy13;rw [show F.map B6++[.agg #[.int .i64 (a:Int),.int .i64 ((1:Nat):Int),.int .i64 (r12:Int)]]=(F++[(a,1,r12)]).map B6 by rw [List.map_append]; rfl] at hy13;obtain ⟨a13,c13,rfl⟩:=hy13.shape;rw [List.length_map] at hy13 ⊢;have hbag13:=hput13 (Sr a13 c13 (F++[(a,1,r12)])) mn13 hy13;simp only [List.set_cons_succ,List.set_cons_zero] at hbag13;refine G.i a ?_;exact G.b (hJ1 (a+1,k12,F++[(a,1,r12)],(a13,c13),lab) _ _ _ cv (((l4.trans l11).trans l12).trans l13) ⟨by dsimp only; omega,hk12,hF.put hTa (.inl ⟨rfl,rfl,by omega⟩),hbag13⟩ (by dsimp only; omega))
    ·refine G.gF (r11:Int) 0 ?_;refine G.eF ((2:Nat):Int) 3 ?_;refine G.i a ?_;exact G.b (hJ1 (a+1,k11,F,(fa,fc),lab) _ _ _ cv (l4.trans l11) ⟨by dsimp only; omega,hk11,hF.skip,hbag11⟩ (by dsimp only; omega))
  ·refine G.eF (kd:Int) 2 ?_;refine G.eF (kd:Int) 2 ?_;by_cases hk3':kd=3
   ·subst hk3';refine G.eT ((3:Nat):Int) 3 ?_;obtain ⟨n5,hsrc5,hL5⟩:=hbag4;obtain ⟨rfl,hg5⟩:=Src.split hsrc5;refine G.D call73 (Src.apart hg5) (Ia (n:=4) (h.mono le4) hk3 (by omega) (by omega)) ?_;rintro v5 u5 m5 l5 ⟨r5,k5,rfl,hr5,hk5,rfl⟩ _;have hbag5:Bag _ [s.arr k5,Sr fa fc F]:=⟨_,Src.at hg5,hL5⟩;by_cases hr0:0 < r5
    ·refine G.gT (r5:Int) 0 ?_;refine G.B 144 3 24 (.agg #[.int .i64 0,.int .i64 0,.int .i64 0]) [.agg #[.int .i64 (a:Int),.int .i64 ((2:Nat):Int),.int .i64 ((0:Nat):Int)]] (Hu (a,2,0)) ?_;intro g6 u6 l6 e6;obtain ⟨mm6,hx6,hput6⟩:=hbag5.focus 1 rfl;rw [Xa] at hx6;refine G.append 144 3 24 (.agg #[.int .i64 0,.int .i64 0,.int .i64 0]) mm6 (F.map B6) [.agg #[.int .i64 (a:Int),.int .i64 ((2:Nat):Int),.int .i64 ((0:Nat):Int)]] (.slice fa F.length fc) g6 0 1 1 (by kernel_rfl) rfl rfl (by omega) hx6 e6 (Hu (a,2,0)) rfl (by omega) (by simp [Ag]; omega) (by simp [Ag]; omega) ?_;intro w6 mn6 hy6;rw [show F.map B6++[.agg #[.int .i64 (a:Int),.int .i64 ((2:Nat):Int),.int .i64 ((0:Nat):Int)]]=(F++[(a,2,0)]).map B6 by rw [List.map_append]; rfl] at hy6;obtain ⟨a6,c6,rfl⟩:=hy6.shape;rw [List.length_map] at hy6 ⊢;have hbag6:=hput6 (Sr a6 c6 (F++[(a,2,0)])) mn6 hy6;simp only [List.set_cons_succ,List.set_cons_zero] at hbag6;refine G.i a ?_;exact G.b (hJ1 (a+1,k5,F++[(a,2,0)],(a6,c6),lab) _ _ _ cv ((l4.trans l5).trans l6) ⟨by dsimp only; omega,hk5,hF.put hTa (.inr ⟨rfl,rfl,rfl⟩),hbag6⟩ (by dsimp only; omega))
    ·refine G.gF (r5:Int) 0 ?_;refine G.i a ?_;exact G.b (hJ1 (a+1,k5,F,(fa,fc),lab) _ _ _ cv (l4.trans l5) ⟨by dsimp only; omega,hk5,hF.skip,hbag5⟩ (by dsimp only; omega))
   ·refine G.eF (kd:Int) 3 ?_;refine G.i a ?_;exact G.b (hJ1 (a+1,k3,F,(fa,fc),lab) _ _ _ cv l4 ⟨by dsimp only; omega,hk3,hF.skip,hbag4⟩ (by dsimp only; omega))
 obtain rfl:a=T.length:=by omega
 refine G.lF (T.length:Int) (T.length:Int) ?_;obtain ⟨n5,hsrc5,hL5⟩:=hbag4;obtain ⟨rfl,hg5⟩:=Src.split hsrc5;refine G.giveP (ma:=n5) (sm:=s.M k3) (by kernel_rfl) rfl (Src.apart hg5) (s.h0 k k3) ?_;intro u5 l5 hm5;have hFL:Ab u5 (.slice fa F.length fc) 3 (F.map B6):=hL5.list hm5 0 rfl;refine G.gF (F.length:Int) 8 ?_;exact G.r (.agg #[.slice ta T.length tc,.slice ra R.length rc,.slice fa F.length fc,.int .i64 lab]) ⟨T,R,F,lab,k3,⟨_,_,_,_,_,_,rfl,hAL.mono (l4.trans l5),hRL.mono (l4.trans l5),hFL⟩,Aow hT.toTOK (hR.mono ((l3.trans l4).trans l5)) hF hTpos (by omega) (by omega),hT6,hk3,rfl,hT.toTOK,hT.lem,Nat.le_trans hF.len hT.lem⟩
end
section
open Go.RowKit Go.MapKept
abbrev E7:Type:=List (List UInt8)×Nat×(Option Addr×Nat)
def Id (y:E7):Value:=.agg #[.slice y.2.2.1 y.1.length y.2.2.2,.int .i64 (y.2.1:Int)]
theorem Z0 (x:E7):A3 2 [Id x]:=by
 intro e he;simp at he; subst he;exact ⟨rfl,fun y hy=>by simp [Id,Value.cells] at hy; rcases hy with rfl | rfl <;> rfl⟩
def Ale (a:Option Addr)(c:Nat)(L:List E7):Arr:=⟨.slice a L.length c,72,2,L.map Id⟩
theorem Al9 {a:Option Addr}{c:Nat}{L:List E7}{m0 m:PH}:(Ale a c L).At m0 m=Ae m0 m (.slice a L.length c) 72 2 (L.map Id):=rfl
def WOK (u:PH)(T:List (List UInt8×Nat))(L:List E7):Prop:=∀ y∈L,Ab u (.slice y.2.2.1 y.1.length y.2.2.2) 1 (y.1.map nmV)∧Cr T y.1∧1≤y.2.1∧y.2.1≤7
theorem WOK.mono {u u':PH}{T:List (List UInt8×Nat)}{L:List E7}(h:WOK u T L)(hl:PH.le u u'):WOK u' T L:=fun y hy=>⟨(h y hy).1.mono hl,(h y hy).2⟩
theorem Acr {u:PH}{s:Src}{ts:List Int}{k most:Nat}{v:Value}{T:List (List UInt8×Nat)}{R:List Bk}{F:List Ao}{lab:Int}(h:H0 u s ts)(hk:k≤s.n)(hX:F1 u v T R F lab)(ok:Bn u T R F lab)(hm:most≤100) :
  Ai prog 46 [s.ptr,v,.int .i64 (most:Int)] u (s.M k) fun r u' m'=>∃ (L:List E7) (k':Nat),Ab u' r 2 (L.map Id)∧L.length≤most∧WOK u' T L∧k'≤s.n∧m'=s.M k':=by
 obtain ⟨xa,xc,xb,xd,xe,xf,rfl,hTL,hRL,hFL⟩:=id hX;have t2:=ok.t2;refine Ai.o func46 ?_;refine G.i most ?_;refine G.A call73 (Ia (n:=most+1) h hk (by omega) (by omega)) ?_;rintro v1 u1 m1 l1 ⟨r,k1,rfl,hr,hk1,rfl⟩ _;rw [C2];refine G.l (ι:=Nat×Nat×List E7×(Option Addr×Nat)) (fun i=>[(0,.v s.ptr),(4,.p 0 0),(7,.v (.slice i.2.2.2.1 i.2.2.1.length i.2.2.2.2)),(8,.v (.int .i64 (i.1:Int)))])
  (fun _=>[(0,⟨31,[.v (.slice xa T.length xc),.v (.slice xb R.length xd),.v (.slice xe F.length xf),.v (.int .i64 lab)]⟩)])
  (fun i u' m'=>i.1+i.2.2.1.length=r∧i.2.1≤s.n∧WOK u' T i.2.2.1∧Bag m' [s.arr i.2.1,Ale i.2.2.2.1 i.2.2.2.2 i.2.2.1])
  (fun i=>i.1) (r,k1,[],(none,0))
  ⟨rfl,hk1,fun y hy=>by simp at hy,s.bag0 k1 ⟨PH.mt,Ae.nil _ _ _,trivial⟩⟩ ?_
 rintro J ⟨i,k2,L,⟨na,nc⟩⟩ hJ u2 m2 l2 ⟨hi,hk2,hW,hbag⟩;simp only at hi hk2 hW hbag hJ;have le2:=l1.trans l2;obtain ⟨m0,hsrc,hL⟩:=hbag;obtain ⟨rfl,hg0⟩:=Src.split hsrc;by_cases hlt:0 < i
 ·refine G.gT (i:Int) 0 ?_;refine G.D call103 (Src.apart hg0) (Af2 (w:=.slice xb R.length xd) (x:=.slice xe F.length xf) (y:=.int .i64 lab) (h.mono le2) hk2 (hTL.mono le2) (by omega) ok.att.kind ⟨_,_,_,rfl⟩ ⟨_,_,_,rfl⟩ ⟨_,rfl⟩) ?_;rintro v3 u3 m3 l3 ⟨ss,k3,hS,hSl,hSv,hk3,rfl⟩ _;obtain ⟨ya,yc,rfl⟩:=hS.opn;rw [List.length_map] at hS ⊢;refine G.buildU 3 1 8 (.int .i64 0) (Dx [1,1,2,7]) (by kernel_rfl) (K9 _) rfl (by omega) (by simp [Dx]) (by simp [Dx]) ?_;intro g4 u4 l4 e4;refine G.D call104 (Src.apart hg0) (Za (L:=[1,1,2,7]) (h.mono ((le2.trans l3).trans l4)) hk3 e4.listP (by simp) (by simp)) ?_;rintro v5 u5 m5 l5 ⟨z,hz,k5,rfl,hk5,rfl⟩ _;obtain ⟨w,rfl,hw1,hw2⟩:∃ w:Nat,z=(w:Int)∧1≤w∧w≤7:=by
   simp at hz;rcases hz with rfl | rfl | rfl
   ·exact ⟨1,rfl,by omega,by omega⟩
   ·exact ⟨2,rfl,by omega,by omega⟩
   ·exact ⟨7,rfl,by omega,by omega⟩
  refine G.B 72 2 32 (.agg #[.slice none 0 0,.int .i64 0]) [.agg #[.slice ya ss.length yc,.int .i64 (w:Int)]] (Z0 (ss,w,ya,yc)) ?_;intro g6 u6 l6 e6;have hbag2:Bag (m0.or (s.M k5)) [s.arr k5,Ale na nc L]:=⟨m0,Src.at hg0,hL⟩;obtain ⟨mm,hx0,hput⟩:=hbag2.focus 1 rfl;rw [Al9] at hx0;refine G.k 72 2 32 (.agg #[.slice none 0 0,.int .i64 0]) mm (L.map Id) [Id (ss,w,ya,yc)] (.slice na L.length nc) g6 0 1 1 hx0 e6 (Z0 (ss,w,ya,yc)) ?_;intro v7 m7 hx7;rw [show L.map Id++[Id (ss,w,ya,yc)]=(L++[(ss,w,ya,yc)]).map Id by rw [List.map_append]; rfl] at hx7;obtain ⟨a7,c7,rfl⟩:=hx7.shape;rw [List.length_map] at hx7 ⊢;have hbag3:=hput (Ale a7 c7 (L++[(ss,w,ya,yc)])) m7 hx7;have lx:=((l3.trans l4).trans l5).trans l6;refine G.s (i:Int) 1 ((i - 1:Nat):Int) ?_;refine G.b (hJ (i - 1,k5,L++[(ss,w,ya,yc)],(a7,c7)) _ _ _ cv (l2.trans lx) ⟨by dsimp only; simp; omega,hk5,?_,hbag3⟩ (by dsimp only; omega));intro y hy;rcases List.mem_append.1 hy with hy | hy
  ·exact hW.mono lx y hy
  ·simp only [List.mem_singleton] at hy;subst hy;exact ⟨hS.mono ((l4.trans l5).trans l6),⟨hSl,hSv⟩,hw1,hw2⟩
 ·obtain rfl:i=0:=by omega
  refine G.gF ((0:Nat):Int) 0 ?_;refine G.giveP (ma:=m0) (sm:=s.M k2) (by kernel_rfl) rfl (Src.apart hg0) (s.h0 k k2) ?_;intro u3 l3 hm3;exact G.r (.slice na L.length nc) ⟨L,k2,hL.list hm3 0 rfl,by omega,hW.mono l3,hk2,rfl⟩
end
section
open Go.RowKit Go.MapKept
end
section
open Go.RowKit Go.MapKept
end
section
open Go.RowKit Go.MapKept
variable {F:List Ao}{R:List Bk}{T:List (List UInt8×Nat)}{lab:Int}{u:PH}
theorem Iv {α:Type}{p:List α→Prop}(h0:p [])(h1:∀ l a,p l→p (l++[a]))(l:List α):p l:=by
 have:∀ r:List α,p r.reverse:=fun r=>by
  induction r with
  | nil=>exact h0
  | cons a r ih=>rw [List.reverse_cons]; exact h1 _ _ ih
 have:=this l.reverse;rwa [List.reverse_reverse] at this
noncomputable def C8 (F:List Ao)(lab:Int)(L:List E7):CF:=L.foldl (fun C y=>C.add ((cfT F lab y.1).scale (y.2.1:Rat))) (CF.num 0)
theorem F5 (F:List Ao)(lab:Int)(L:List E7)(y:E7):C8 F lab (L++[y])=(C8 F lab L).add ((cfT F lab y.1).scale (y.2.1:Rat)):=by
 unfold C8; rw [List.foldl_append]; rfl
theorem Akk {w:Nat}(h:w≤7):Dn 0 7 (w:Rat):=⟨(w:Int),by simp [Rat.intCast_natCast],by simpa using h⟩
theorem Ag1 {ss:List (List UInt8)}(ok:Bn u T R F lab)(ht:Cr T ss):CFD (2*T.length) (46656 ^ T.length) (cfT F lab ss)∧CFV (cfT F lab ss):=by
 have hsm:=Kt ok ht;have hl:(Em F lab ss).length=T.length:=by rw [F3]; exact ht.len
 have:=Nu hsm (Em F lab ss).length (Nat.le_refl _);rw [List.take_length,hl] at this;exact this
theorem Wr (ok:Bn u T R F lab):∀ {L:List E7},(∀ y∈L,Cr T y.1∧y.2.1≤7)→CFD (2*T.length) (L.length*(46656 ^ T.length*7)) (C8 F lab L)∧CFV (C8 F lab L):=by
 intro L;induction L using Iv with
 | h0=>exact fun _=>⟨CFD.count (Dn.zero _ _),CFV.count 0⟩
 | h1 L y ih =>
  intro h;obtain ⟨i1,i2⟩:=ih fun z hz=>h z (List.mem_append_left _ hz);obtain ⟨h1,h2⟩:=h y (by simp);obtain ⟨c1,c2⟩:=Ag1 ok h1;rw [F5];refine ⟨?_,i2.add (c2.scale _)⟩;have:=i1.add (c1.scale (Akk h2));rw [List.length_append,List.length_singleton,Nat.add_mul,Nat.one_mul];exact this
end
section
open Go.RowKit Go.MapKept
end
section
open Go.RowKit Go.MapKept
variable {F:List Ao}{T:List (List UInt8×Nat)}{lab:Int}
theorem An7 {ss:List (List UInt8)}(hF:Dk T F lab)(ht:Cr T ss)(h1:-1≤lab)(h2:∀ l:Nat,lab=(l:Int)→l < ss.length) :
  ((cfT F lab ss).c=1∧∀ p q,(cfT F lab ss).t (Ap p q)=(cfT F lab ss).s p*(cfT F lab ss).s q)∨((cfT F lab ss).c=0∧(∀ p,(cfT F lab ss).s p=0)∧∀ k,(cfT F lab ss).t k=0):=by
 cases hc:T4 F lab ss with
 | false=>right; rw [Ajf hF ht h1 h2 hc]; exact ⟨rfl,fun _=>rfl,fun _=>rfl⟩
 | true =>
  left;have ho:=Ac8 hF ht h1 h2 hc;refine ⟨ho.c,fun p q=>?_⟩;rw [ho.t,if_neg (Pl p q)];by_cases h:0 < A8 p q
  ·rw [K8 h]; grind
  ·rw [Ft h]
theorem Aci (n:Nat):(0:Rat)≤(n:Rat):=by
 have:((0:Nat):Rat)≤(n:Rat):=by exact_mod_cast Nat.zero_le n
 exact this
theorem An2 (hF:Dk T F lab)(h1:-1≤lab)(h2:∀ l:Nat,lab=(l:Int)→l < T.length):∀ {L:List E7},(∀ y∈L,Cr T y.1∧y.2.1≤7)→∃ k:Nat,(C8 F lab L).c=(k:Rat)∧k≤7*L.length:=by
 intro L;induction L using Iv with
 | h0=>exact fun _=>⟨0,rfl,by simp⟩
 | h1 L y ih =>
  intro h;obtain ⟨k,hk,hkl⟩:=ih fun z hz=>h z (List.mem_append_left _ hz);obtain ⟨hy,hw⟩:=h y (by simp);have hlen:=hy.len;rw [F5];show ∃ k:Nat,(C8 F lab L).c+(cfT F lab y.1).c*(y.2.1:Rat)=(k:Rat)∧_;rw [hk];rw [List.length_append,List.length_singleton];rcases An7 hF hy h1 (fun l hl=>by have:=h2 l hl; omega) with ⟨e1,_⟩ | ⟨e1,_⟩
  ·exact ⟨k+y.2.1,by rw [e1,Rat.natCast_add]; grind,by omega⟩
  ·exact ⟨k,by rw [e1]; grind,by omega⟩
end
section
open Go.RowKit Go.MapKept
variable {a b c d f n:Nat}{q r:Rat}
def De (a b:Nat)(q:Rat):Prop:=∃ (k:Int) (D:Nat),q*(D:Rat)=(k:Rat)∧0 < D∧k.natAbs < 10 ^ a∧D < 10 ^ b
theorem Pr {D:Nat}(h:0 < D):(D:Rat)≠0:=by
 intro e;have h1:(D:Rat)=((0:Nat):Rat):=e;have:=Rat.natCast_inj.1 h1;omega
theorem De.mono (h:De a b q)(h1:a≤c)(h2:b≤d):De c d q:=by
 obtain ⟨k,D,e,h0,h3,h4⟩:=h;exact ⟨k,D,e,h0,Nat.lt_of_lt_of_le h3 (Nat.pow_le_pow_right (by omega) h1),Nat.lt_of_lt_of_le h4 (Nat.pow_le_pow_right (by omega) h2)⟩
theorem Di {x y a b:Nat}(h1:x < 10 ^ a)(h2:y < 10 ^ b):x*y < 10 ^ (a+b):=by
 rw [Nat.pow_add];exact Nat.mul_lt_mul'' h1 h2
theorem De.mul (h:De a b q)(h':De c d r):De (a+c) (b+d) (q*r):=by
 obtain ⟨k,D,e,h0,h3,h4⟩:=h;obtain ⟨l,E,e',k0,k3,k4⟩:=h';refine ⟨k*l,D*E,?_,Nat.mul_pos h0 k0,by rw [Int.natAbs_mul]; exact Di h3 k3,Di h4 k4⟩;rw [Rat.intCast_mul,← e,← e',Rat.natCast_mul]; grind
theorem De.add (h:De a b q)(h':De c d r)(h1:a+d≤f)(h2:c+b≤f):De (f+1) (b+d) (q+r):=by
 obtain ⟨k,D,e,h0,h3,h4⟩:=h;obtain ⟨l,E,e',k0,k3,k4⟩:=h';refine ⟨k*(E:Int)+l*(D:Int),D*E,?_,Nat.mul_pos h0 k0,?_,Di h4 k4⟩
 ·rw [Rat.intCast_add,Rat.intCast_mul,Rat.intCast_mul,← e,← e',Rat.natCast_mul,Rat.intCast_natCast,Rat.intCast_natCast]; grind
 ·have g1:(k*(E:Int)).natAbs < 10 ^ f:=by
   rw [Int.natAbs_mul];exact Nat.lt_of_lt_of_le (Di h3 (by simpa using k4)) (Nat.pow_le_pow_right (by omega) h1)
  have g2:(l*(D:Int)).natAbs < 10 ^ f:=by
   rw [Int.natAbs_mul];exact Nat.lt_of_lt_of_le (Di k3 (by simpa using h4)) (Nat.pow_le_pow_right (by omega) h2)
  rw [Nat.pow_succ];omega
theorem De.neg (h:De a b q):De a b (-q):=by
 obtain ⟨k,D,e,h0,h3,h4⟩:=h;exact ⟨-k,D,by rw [Rat.intCast_neg,← e]; grind,h0,by simpa using h3,h4⟩
theorem De.sub (h:De a b q)(h':De c d r)(h1:a+d≤f)(h2:c+b≤f):De (f+1) (b+d) (q - r):=by
 rw [Rat.sub_eq_add_neg]; exact h.add h'.neg h1 h2
theorem De.divn {a b m n:Nat}(h:De a b q)(hn:0 < n)(hm:n < 10 ^ m):De a (b+m) (q / (n:Rat)):=by
 obtain ⟨k,D,e,h0,h3,h4⟩:=h;refine ⟨k,D*n,?_,Nat.mul_pos h0 hn,h3,Di h4 hm⟩;have hi:=Rat.mul_inv_cancel _ (Pr hn);rw [← e,Rat.natCast_mul,Rat.div_def];generalize ((n:Rat))⁻¹=j at hi ⊢;grind
theorem De.nat (h:n < 10 ^ a):De a 1 (n:Rat):=⟨(n:Int),1,by rw [Rat.intCast_natCast]; show (n:Rat)*1=_; grind,by omega,by simpa using h,by omega⟩
theorem De.frac (h:De a b q):q.num.natAbs < 10 ^ a∧q.den < 10 ^ b:=by
 obtain ⟨k,D,h1,hp,hk,hD⟩:=h;have hq:q=Rat.divInt k (D:Int):=by
  rw [Rat.divInt_eq_div,Rat.intCast_natCast,← h1];have:=Pr hp;grind
 obtain ⟨e1,e2,e3⟩:=Ju (y:=k) (z:=(D:Int)) (by omega);rw [hq];constructor
 ·rw [e1,Int.natAbs_tdiv];exact Nat.lt_of_le_of_lt (Nat.div_le_self _ _) hk
 ·have h2:((Rat.divInt k (D:Int)).den:Int)≤(D:Int):=by
   rw [e2,show ((D:Int)).natAbs=D from rfl,Int.tdiv_eq_ediv_of_nonneg (by omega),← Int.natCast_ediv];exact Int.ofNat_le.2 (Nat.div_le_self _ _)
  omega
theorem De.tx (h:De a b q)(ha:0 < a)(ha2:a≤400)(hb:0 < b)(hb2:b≤400):Tx q:=by
 obtain ⟨h1,h2⟩:=h.frac;exact ⟨Nat.le_trans (Ed ha h1) ha2,Nat.le_trans (Ed hb h2) hb2⟩
theorem De.szn (h:De a b q)(ha:0 < a)(ha2:a≤400)(hb:0 < b)(hb2:b≤400):Sz q 400:=(h.tx ha ha2 hb hb2).sz
theorem Dn.de {d N a b:Nat}(h:Dn d N q)(h1:N < 10 ^ a)(h2:12 ^ d < 10 ^ b):De a b q:=by
 obtain ⟨k,e,hk⟩:=h;exact ⟨k,12 ^ d,e,W7 d,by omega,h2⟩
end
section
open Go.RowKit Go.MapKept
variable {H:CF}
def Au {α:Type}(f:α→Rat):List α→Rat
 | []=>0
 | a::l=>f a+Au f l
section
variable {α β:Type} {f g:α→Rat}
theorem P8:∀ (l l':List α),Au f (l++l')=Au f l+Au f l'
 | [],l'=>by show Au f l'=0+Au f l'; grind
 | a::l,l'=>by show f a+Au f (l++l')=f a+Au f l+Au f l'; rw [P8 l l']; grind
theorem Iu (l:List α)(a:α):Au f (l++[a])=Au f l+f a:=by
 rw [P8]; show _+(f a+0)=_; grind
theorem Bb:∀ {l:List α},(∀ a∈l,f a=g a)→Au f l=Au g l
 | [],_=>rfl
 | a::l,h=>by
  show f a+Au f l=g a+Au g l;rw [h a (List.mem_cons_self ..),Bb fun x hx=>h x (List.mem_cons_of_mem _ hx)]
theorem D1:∀ (l:List α),Au (fun a=>f a+g a) l=Au f l+Au g l
 | []=>by show (0:Rat)=0+0; grind
 | a::l=>by show f a+g a+Au (fun a=>f a+g a) l=(f a+Au f l)+(g a+Au g l); rw [D1 l]; grind
theorem Ej (k:Rat):∀ (l:List α),Au (fun a=>f a*k) l=Au f l*k
 | []=>by show (0:Rat)=0*k; grind
 | a::l=>by show f a*k+Au (fun a=>f a*k) l=(f a+Au f l)*k; rw [Ej k l]; grind
theorem Dr (k:Rat)(l:List α):Au (fun a=>k*f a) l=k*Au f l:=by
 rw [show (fun a=>k*f a)=fun a=>f a*k from funext fun a=>by grind,Ej]; grind
theorem Bv:∀ {l:List α},(∀ a∈l,f a=0)→Au f l=0
 | [],_=>rfl
 | a::l,h=>by
  show f a+Au f l=0;rw [h a (List.mem_cons_self ..),Bv fun x hx=>h x (List.mem_cons_of_mem _ hx)]; grind
theorem On (h:β→α):∀ (l:List β),Au f (l.map h)=Au (fun b=>f (h b)) l
 | []=>rfl
 | a::l=>by show f (h a)+Au f (l.map h)=f (h a)+Au (fun b=>f (h b)) l; rw [On h l]
end
def Ak (P:List Par):List (Option Par):=none::P.map some
def Aq:Par:=(-1,[])
def As (C:CF):Option Par→Option Par→Rat
 | none,none=>C.c
 | none,some p=>C.s p
 | some p,none=>C.s p
 | some p,some q=>C.t (Ap p q)
def Ay (C:CF):Option Par→Rat
 | none=>C.s Aq
 | some p=>C.t (Ap Aq p)
def Bm (b:Option Par→Rat)(P:List Par)(C:CF):Rat:=Au (fun e=>Au (fun f=>b e*As C e f*b f) (Ak P)) (Ak P)
def Kf (b:Option Par→Rat)(P:List Par)(C:CF):Rat:=C.s Aq - Au (fun e=>b e*As C none e) (Ak P)
def sqC (b:Option Par→Rat)(P:List Par)(C:CF):Rat:=Bm b P C+C.t (Ap Aq Aq) - 2*Au (fun e=>b e*Ay C e) (Ak P)
theorem Vv (C H:CF)(w:Rat)(e f:Option Par):As (C.add (H.scale w)) e f=As C e f+As H e f*w:=by
 cases e <;> cases f <;> rfl
theorem T2 (C H:CF)(w:Rat)(e:Option Par):Ay (C.add (H.scale w)) e=Ay C e+Ay H e*w:=by
 cases e <;> rfl
theorem Uu (b:Option Par→Rat)(P:List Par)(C H:CF)(w:Rat):Bm b P (C.add (H.scale w))=Bm b P C+Bm b P H*w:=by
 unfold Bm;rw [← Ej w,← D1];refine Bb fun e _=>?_;rw [← Ej w,← D1];refine Bb fun f _=>?_;rw [Vv]; grind
theorem Alu (b:Option Par→Rat)(P:List Par)(C H:CF)(w:Rat):sqC b P (C.add (H.scale w))=sqC b P C+sqC b P H*w:=by
 unfold sqC;have e1:Au (fun e=>b e*Ay (C.add (H.scale w)) e) (Ak P)=Au (fun e=>b e*Ay C e) (Ak P)+Au (fun e=>b e*Ay H e) (Ak P)*w:=by
  rw [← Ej w,← D1];exact Bb fun e _=>by rw [T2]; grind
 rw [e1,Uu];show _+(C.t (Ap Aq Aq)+H.t (Ap Aq Aq)*w) - _=_;grind
def Ua (b:Option Par→Rat)(P:List Par)(x:Par→Rat):Rat:=b none+Au (fun p=>b (some p)*x p) P
def Afw (x:Par→Rat):Option Par→Rat
 | none=>1
 | some p=>x p
theorem Sm (b:Option Par→Rat)(P:List Par)(x:Par→Rat):Au (fun e=>b e*Afw x e) (Ak P)=Ua b P x:=by
 unfold Ak Ua;show b none*1+Au _ (P.map some)=_;rw [On];show b none*1+Au (fun p=>b (some p)*x p) P=_;grind
structure Ws (H:CF):Prop where
 c:H.c=1
 t:∀ p q,H.t (Ap p q)=H.s p*H.s q
theorem Ws.cell (h:Ws H)(e f:Option Par):As H e f=Afw H.s e*Afw H.s f:=by
 cases e <;> cases f
 ·show H.c=1*1; rw [h.c]; grind
 ·show H.s _=1*H.s _; grind
 ·show H.s _=H.s _*1; grind
 ·exact h.t _ _
theorem Ws.right (h:Ws H)(e:Option Par):Ay H e=H.s Aq*Afw H.s e:=by
 cases e
 ·show H.s Aq=H.s Aq*1; grind
 ·exact h.t _ _
theorem Ws.norm (h:Ws H)(b:Option Par→Rat)(P:List Par):Bm b P H=Ua b P H.s*Ua b P H.s:=by
 unfold Bm;have e1:∀ e,Au (fun f=>b e*As H e f*b f) (Ak P)=(b e*Afw H.s e)*Ua b P H.s:=fun e=>by
  rw [← Sm,← Dr];exact Bb fun f _=>by rw [h.cell]; grind
 rw [Bb fun e _=>e1 e,Ej,Sm]
theorem Ws.sq (h:Ws H)(b:Option Par→Rat)(P:List Par):sqC b P H=(H.s Aq - Ua b P H.s)*(H.s Aq - Ua b P H.s):=by
 unfold sqC;have e1:Au (fun e=>b e*Ay H e) (Ak P)=H.s Aq*Ua b P H.s:=by
  rw [← Sm,← Dr];exact Bb fun e _=>by rw [h.right]; grind
 rw [h.norm,e1,h.t]; grind
structure Yg (H:CF):Prop where
 c:H.c=0
 s:∀ p,H.s p=0
 t:∀ k,H.t k=0
theorem Yg.cell (h:Yg H)(e f:Option Par):As H e f=0:=by
 cases e <;> cases f
 ·exact h.c
 ·exact h.s _
 ·exact h.s _
 ·exact h.t _
theorem Yg.norm (h:Yg H)(b:Option Par→Rat)(P:List Par):Bm b P H=0 :=
 Bv fun e _=>Bv fun f _=>by rw [h.cell]; grind
theorem Yg.sq (h:Yg H)(b:Option Par→Rat)(P:List Par):sqC b P H=0:=by
 unfold sqC;have e1:Au (fun e=>b e*Ay H e) (Ak P)=0:=Bv fun e _=>by
  cases e
  ·show b none*H.s Aq=0; rw [h.s]; grind
  ·show b _*H.t _=0; rw [h.t]; grind
 rw [h.norm,h.t,e1]; grind
theorem L9 {T:List (List UInt8×Nat)}{F:List Ao}{lab:Int}{ss:List (List UInt8)}(hF:Dk T F lab)(ht:Cr T ss)(h1:-1≤lab)(h2:∀ l:Nat,lab=(l:Int)→l < ss.length) :
  (T4 F lab ss=true∧Ws (cfT F lab ss))∨(T4 F lab ss=false∧Yg (cfT F lab ss)):=by
 cases hc:T4 F lab ss with
 | false=>right; rw [Ajf hF ht h1 h2 hc]; exact ⟨rfl,rfl,fun _=>rfl,fun _=>rfl⟩
 | true =>
  left;have ho:=Ac8 hF ht h1 h2 hc;refine ⟨rfl,ho.c,fun p q=>?_⟩;rw [ho.t,if_neg (Pl p q)];by_cases h:0 < A8 p q
  ·rw [K8 h]; grind
  ·rw [Ft h]
end
section
open Go.RowKit Go.MapKept
variable {F:CF}{N:Nat}{q:Rat}{u:PH}{v:Value}
theorem Lx (p:Par)(h:Mf u v F N):Fn0 prog 124 [v,An p] u fun r u'=>Av u' r (F.s p):=by
 obtain ⟨b,a,n,c,b',a',n',c',g1,g2,o1,o2,rfl,hc,e1,e2,h1,h2⟩:=h;obtain ⟨l,ho,hl,hz,_⟩:=h1.at;refine Fn0.o func124 ?_;cases hx:Fi p l with
 | none =>
  refine G.mapNot (et:=116) Bt fz g1 o1 l p (by kernel_rfl) (by kernel_rfl) (.inl e1) ho hx ?_;refine G.c call98 (L8 (z:=0) (by omega) (by omega)) ?_;intro v1 u1 l1 k1;rw [hz p (Fz.1 hx)];rw [show ((0:Int):Rat)=0 by decide +kernel] at k1;obtain ⟨b1,a1,n1,c1,b1',a1',n1',c1',rfl⟩:=k1.opn;exact G.r (.agg #[.bool b1,.slice a1 n1 c1,.bool b1',.slice a1' n1' c1']) ⟨rfl,k1⟩
 | some xv =>
  have hr:=(hl _ (Hk hx)).1;obtain ⟨b1,a1,n1,c1,b1',a1',n1',c1',rfl⟩:=hr.opn;refine G.mapHas (et:=116) Bt fz g1 o1 l p (.agg #[.bool b1,.slice a1 n1 c1,.bool b1',.slice a1' n1' c1']) (by kernel_rfl) (by kernel_rfl) (.inl e1) ho hx ?_;exact G.r (.agg #[.bool b1,.slice a1 n1 c1,.bool b1',.slice a1' n1' c1']) ⟨rfl,hr⟩
theorem Oc (p q:Par)(h:Mf u v F N):Fn0 prog 118 [v,An p,An q] u fun r u'=>Av u' r (F.t (Ap p q)):=by
 obtain ⟨b,a,n,c,b',a',n',c',g1,g2,o1,o2,rfl,hc,e1,e2,h1,h2⟩:=h;obtain ⟨l,ho,hl,hz,_⟩:=h2.at;refine Fn0.o func118 ?_;refine G.c call193 (Apg p q) ?_;rintro v0 u0 l0 rfl;cases hx:Fi (Ap p q) l with
 | none =>
  refine G.mapNot (et:=116) Aiy fz g2 o2 l (Ap p q) (by kernel_rfl) (by kernel_rfl) (.inl (l0 _ _ e2)) ho hx ?_;refine G.c call98 (L8 (z:=0) (by omega) (by omega)) ?_;intro v1 u1 l1 k1;rw [hz _ (Fz.1 hx)];rw [show ((0:Int):Rat)=0 by decide +kernel] at k1;obtain ⟨b1,a1,n1,c1,b1',a1',n1',c1',rfl⟩:=k1.opn;exact G.r (.agg #[.bool b1,.slice a1 n1 c1,.bool b1',.slice a1' n1' c1']) ⟨rfl,k1⟩
 | some xv =>
  have hr:=(hl _ (Hk hx)).1;obtain ⟨b1,a1,n1,c1,b1',a1',n1',c1',rfl⟩:=hr.opn;refine G.mapHas (et:=116) Aiy fz g2 o2 l (Ap p q) (.agg #[.bool b1,.slice a1 n1 c1,.bool b1',.slice a1' n1' c1']) (by kernel_rfl) (by kernel_rfl) (.inl (l0 _ _ e2)) ho hx ?_;exact G.r (.agg #[.bool b1,.slice a1 n1 c1,.bool b1',.slice a1' n1' c1']) ⟨rfl,hr.mono l0⟩
theorem Zw (h:Tx q):Fn0 prog 115 [.string (mkS (Af q))] u fun v _=>v=.int .i64 (sgn q.num):=by
 refine Fn0.o func115 ?_;refine G.c call154 (Jl h) ?_;rintro v1 u1 l1 rfl;refine G.c call77 (Iy h) ?_;intro v2 u2 l2 k2;obtain ⟨b1,a1,n1,c1,b1',a1',n1',c1',rfl⟩:=k2.opn;refine G.c call97 (Vq k2 (Nat.le_trans h.sz.1 (by omega))) ?_;rintro v3 u3 l3 rfl;exact G.r _ ⟨rfl,rfl⟩
theorem Aaq (h:Tx q):Fn0 prog 42 [.string (mkS (Af q))] u fun v _=>v=.int .i64 (sgn q.num):=by
 refine Fn0.o func42 ?_;refine G.c call30 (Cp h) ?_;rintro v1 u1 l1 rfl;refine G.c call31 (Eh h) ?_;intro v3 u3 l3 k3;obtain ⟨b3,a3,n3,c3,a3',n3',c3',rfl,_⟩:=k3.opn;refine G.c call94 (Yn k3 (Nat.le_trans h.sz.1 (by omega))) ?_;rintro v6 u6 l6 rfl;exact G.r _ ⟨rfl,rfl⟩
end
section
open Go.RowKit Go.MapKept
variable {C:CF}{K k:Nat}{q:Rat}{u:PH}{v:Value}
structure Iq (C:CF)(k:Nat):Prop where
 c:C.c=(k:Rat)
 lt:k < 100
 s:∀ p,De 39 18 (C.s p)
 t:∀ p,De 39 18 (C.t p)
theorem Iq.tx {C:CF}{k:Nat}(h:Iq C k):Tx C.c:=by
 rw [h.c]; exact (De.nat (a:=2) (by have:=h.lt; omega)).tx (by omega) (by omega) (by omega) (by omega)
theorem Iq.cpos (h:Iq C k)(h0:k≠0):0 < C.c:=by
 rw [h.c];have h1:=Aci k;refine Rat.lt_of_le_of_ne h1 fun e=>Pr (D:=k) (by omega) e.symm
theorem Iq.cne (h:Iq C k)(h0:k≠0):C.c≠0:=by
 rw [h.c]; exact Pr (by omega)
theorem Iq.csz (h:Iq C k):Sz C.c 1000:=h.tx.sz.mono (by omega)
theorem Iq.mean (h:Iq C k)(h0:k≠0)(p:Par):De 39 20 (C.s p / C.c):=by
 rw [h.c]; exact (h.s p).divn (n:=k) (m:=2) (by omega) (by have:=h.lt; omega)
theorem Iq.tn (h:Iq C k)(h0:k≠0)(p:Par×Par):De 39 20 (C.t p / C.c):=by
 rw [h.c]; exact (h.t p).divn (n:=k) (m:=2) (by omega) (by have:=h.lt; omega)
def Hv (C:CF)(p q:Par):Rat:=C.t (Ap p q) / C.c - C.s p / C.c*(C.s q / C.c)
theorem Iq.cov (h:Iq C k)(h0:k≠0)(p q:Par):De 99 60 (Hv C p q) :=
 (h.tn h0 _).sub ((h.mean h0 p).mul (h.mean h0 q)) (f:=98) (by omega) (by omega)
theorem De.s1000 {a b:Nat}(h:De a b q)(ha:0 < a)(ha2:a≤400)(hb:0 < b)(hb2:b≤400):Sz q 1000000000000:=(h.szn ha ha2 hb hb2).mono (by omega)
theorem An1 (hC:H7 u v C K)(sC:CFS C)(vC:CFV C)(hK:K≤100000)(hS:Iq C k)(h0:k≠0) :
  Fn0 prog 178 [v] u fun r u'=>∃ x,r=.tuple #[x,.int .i64 0]∧Mf u' x C K:=by
 have hof:=fun (u':PH) (l:PH.le u u')=>Fn0.weak (Ai.giveAll (of0 (hC.mono l) sC (by omega))) fun v u' ⟨u1,m1,l1,l2,h⟩=>h.give l1 l2;have hvd:=Ah4 hC sC vC (by omega);obtain ⟨a1,n1,c1,a2,n2,c2,rfl⟩:=hC.opn;refine Fn0.o func178 ?_;refine G.c call184 hvd ?_;rintro v1 u1 l1 rfl;refine G.c call115 (Zw hS.tx) ?_;rintro v2 u2 l2 rfl;have hp:=hS.cpos h0;refine G.leqF (sgn C.c.num) 0 (by kernel_rfl) (by
  have h1:C.c.num=(k:Int):=by rw [hS.c]; exact Rat.num_natCast k
  rw [h1,B9 (by omega)]; omega) ?_
 refine G.c call75 (hof u2 (l1.trans l2)) ?_;intro v3 u3 l3 k3;obtain ⟨b,a,n,c,b',a',n',c',g1,g2,rfl⟩:=S3 k3;exact G.r (.tuple #[.agg #[.bool b,.slice a n c,.bool b',.slice a' n' c',.map (some g1),.map (some g2)],.int .i64 0]) ⟨rfl,_,rfl,k3⟩
def Yy (qs:List Rat):Rat:=qs.foldl (· + ·) 0
theorem Apl {qs:List Rat}(h:M6 u v qs)(hl:qs.length≤1000)(h1:∀ q∈qs,Sz q 1000000000000)(h2:∀ n,Sz (Yy (qs.take n)) 1000000000000) :
  Fn0 prog 175 [v] u fun r u'=>Av u' r (Yy qs):=by
 obtain ⟨es,hL,hF⟩:=h;obtain ⟨xa,xc,rfl⟩:=hL.opn;rw [hF.1] at hL ⊢;refine Fn0.o func175 ?_;refine G.c call98 (L8 (z:=0) (by omega) (by omega)) ?_;intro v1 u1 l1 k1;rw [show ((0:Int):Rat)=0 by decide +kernel] at k1;obtain ⟨b,a,n,c,b',a',n',c',rfl⟩:=k1.opn;refine G.l (ι:=Nat×(Bool×SlI)×(Bool×SlI)) (fun i=>[(2,.p 0 0),(3,.p 1001 0),(7,.v (.slice xa qs.length xc)),(8,.v (.int .i64 (qs.length:Int))),(9,.v (.int .i64 (i.1:Int)))])
  (fun i=>[(0,⟨116,[.v (.bool false),.v (.slice none 0 0),.v (.bool false),.v (.slice none 0 0)]⟩),(1001,⟨116,[.v (.bool i.2.1.1),.v (.slice i.2.1.2.1 i.2.1.2.2.1 i.2.1.2.2.2),.v (.bool i.2.2.1),.v (.slice i.2.2.2.1 i.2.2.2.2.1 i.2.2.2.2.2)]⟩)])
  (fun i u' m'=>i.1≤qs.length∧Av u' (.agg #[.bool i.2.1.1,.slice i.2.1.2.1 i.2.1.2.2.1 i.2.1.2.2.2,.bool i.2.2.1,.slice i.2.2.2.1 i.2.2.2.2.1 i.2.2.2.2.2]) (Yy (qs.take i.1))∧m'=PH.mt) (fun i=>qs.length - i.1) (0,(b,a,n,c),(b',a',n',c')) ⟨by omega,k1,rfl⟩ ?_
 rintro J ⟨i,⟨b,a,n,c⟩,⟨b',a',n',c'⟩⟩ hJ u2 m2 l2 ⟨hi,k2,rfl⟩;simp only at hi k2 hJ;have le2:=l1.trans l2;by_cases hlt:i < qs.length
 ·refine G.lT (i:Int) (qs.length:Int) ?_;obtain ⟨q,hqi⟩:∃ q,qs[i]?=some q:=⟨_,List.getElem?_eq_getElem hlt⟩;obtain ⟨e,he,hfe⟩:=hF.2 i q hqi;obtain ⟨fb,fo,rfl,ef⟩:=Ab.at' (hL.mono le2) (j:=i) (e:=e) he;have hfe:=hfe.mono le2;obtain ⟨b3,a3,n3,c3,b3',a3',n3',c3',rfl⟩:=hfe.opn;have hstep:Yy (qs.take (i+1))=Yy (qs.take i)+q:=by
   unfold Yy; rw [List.take_add_one,hqi]; simp
  refine G.a fb fo qs.length xc i 4 hlt ?_;refine G.lU (some 4) fb (fo+i*4) (.agg #[.bool b3,.slice a3 n3 c3,.bool b3',.slice a3' n3' c3']) ef ?_;refine G.c call76 (O2 k2 hfe (h2 i) (h1 q (List.mem_of_getElem? hqi))) ?_;intro v4 u4 l4 k4;rw [← hstep] at k4;obtain ⟨b4,a4,n4,c4,b4',a4',n4',c4',rfl⟩:=k4.opn;refine G.i i ?_;exact G.b (hJ (i+1,(b4,a4,n4,c4),(b4',a4',n4',c4')) _ _ _ cv (l2.trans l4) ⟨by dsimp only; omega,k4,rfl⟩ (by dsimp only; omega))
 ·obtain rfl:i=qs.length:=by omega
  refine G.lF (qs.length:Int) (qs.length:Int) ?_;rw [List.take_length] at k2;exact G.r (.agg #[.bool b,.slice a n c,.bool b',.slice a' n' c']) ⟨rfl,k2⟩
theorem Ahl {u u':PH}{x y:Value}{q r:Rat}(hx:Av u x q)(hy:Av u' y r):A3 4 [x,y]:=by
 intro e he;simp at he;rcases he with rfl | rfl
 ·exact hx.ok _ (by simp)
 ·exact hy.ok _ (by simp)
theorem Ade {N k:Nat}(p q:Par)(hv:Mf u v C N)(hS:Iq C k)(h0:k≠0) :
  Fn0 prog 95 [v,An p,An q] u fun r u'=>Av u' r (Hv C p q):=by
 have hc:∃ b a n c b' a' n' c' g1 g2,v=.agg #[.bool b,.slice a n c,.bool b',.slice a' n' c',.map (some g1),.map (some g2)]∧Av u (.agg #[.bool b,.slice a n c,.bool b',.slice a' n' c']) C.c:=by
  obtain ⟨b,a,n,c,b',a',n',c',g1,g2,o1,o2,e,h1,_⟩:=id hv;exact ⟨b,a,n,c,b',a',n',c',g1,g2,e,h1⟩
 obtain ⟨b,a,n,c,b',a',n',c',g1,g2,rfl,hcn⟩:=hc;have csz:Sz C.c 1000000000000:=hS.csz.mono (by omega);have ssz:∀ p,Sz (C.s p) 1000000000000:=fun p=>(hS.s p).s1000 (by omega) (by omega) (by omega) (by omega);have tsz:∀ p,Sz (C.t p) 1000000000000:=fun p=>(hS.t p).s1000 (by omega) (by omega) (by omega) (by omega);have hne:=hS.cne h0;have hss:De 78 36 (C.s p*C.s q):=(hS.s p).mul (hS.s q);have hs1:De 78 38 (C.s p*C.s q / C.c):=by rw [hS.c]; exact hss.divn (n:=k) (m:=2) (by omega) (by have:=hS.lt; omega)
 have hs2:De 78 40 (C.s p*C.s q / C.c / C.c):=by
  have:=hs1.divn (n:=k) (m:=2) (by omega) (by have:=hS.lt; omega);rw [← hS.c] at this; exact this
 have htn:=hS.tn h0 (Ap p q);have hcv:=hS.cov h0 p q;have hi:C.c*C.c⁻¹=1:=Rat.mul_inv_cancel _ hne;have ecov:C.t (Ap p q) / C.c + -(C.s p*C.s q / C.c / C.c)=Hv C p q:=by
  unfold Hv;simp only [Rat.div_def];generalize C.c⁻¹=j at hi ⊢;grind
 refine Fn0.o func95 ?_;refine G.c call118 (Oc p q hv) ?_;intro v1 u1 l1 k1;obtain ⟨b1,a1,n1,c1,b1',a1',n1',c1',rfl⟩:=k1.opn;refine G.c call54 (G0 k1 (hcn.mono l1) (tsz _) csz hne) ?_;intro v2 u2 l2 k2;obtain ⟨b2,a2,n2,c2,b2',a2',n2',c2',rfl⟩:=k2.opn;have le2:=l1.trans l2;refine G.c call124 (Lx p (hv.mono le2)) ?_;intro v3 u3 l3 k3;obtain ⟨b3,a3,n3,c3,b3',a3',n3',c3',rfl⟩:=k3.opn;refine G.c call124 (Lx q (hv.mono (le2.trans l3))) ?_;intro v4 u4 l4 k4;obtain ⟨b4,a4,n4,c4,b4',a4',n4',c4',rfl⟩:=k4.opn;refine G.c call78 (Le (k3.mono l4) k4 (ssz _) (ssz _)) ?_;intro v5 u5 l5 k5;obtain ⟨b5,a5,n5,c5,b5',a5',n5',c5',rfl⟩:=k5.opn;have le5:=((le2.trans l3).trans l4).trans l5;refine G.c call54 (G0 k5 (hcn.mono le5) (hss.s1000 (by omega) (by omega) (by omega) (by omega)) csz hne) ?_;intro v6 u6 l6 k6;obtain ⟨b6,a6,n6,c6,b6',a6',n6',c6',rfl⟩:=k6.opn;refine G.c call54 (G0 k6 (hcn.mono (le5.trans l6)) (hs1.s1000 (by omega) (by omega) (by omega) (by omega)) csz hne) ?_;intro v7 u7 l7 k7;obtain ⟨b7,a7,n7,c7,b7',a7',n7',c7',rfl⟩:=k7.opn;refine G.c call126 (Z3 k7 (Nat.le_trans (hs2.szn (by omega) (by omega) (by omega) (by omega)).1 (by omega))) ?_;intro v8 u8 l8 k8;obtain ⟨b8,a8,n8,c8,b8',a8',n8',c8',rfl⟩:=k8.opn;have l28:=((((l3.trans l4).trans l5).trans l6).trans l7).trans l8;have k2':=k2.mono l28;refine G.B 116 4 64 (.agg #[.bool false,.slice none 0 0,.bool false,.slice none 0 0]) [.agg #[.bool b2,.slice a2 n2 c2,.bool b2',.slice a2' n2' c2'],.agg #[.bool b8,.slice a8 n8 c8,.bool b8',.slice a8' n8' c8']] (Ahl k2' k8) ?_;intro g9 u9 l9 e9;have hfs:M6 u9 (.slice (some ⟨g9,0,none⟩) 2 2) [C.t (Ap p q) / C.c,-(C.s p*C.s q / C.c / C.c)]:=⟨_,e9.listP,rfl,fun j q hj=>by
  match j,hj with
  | 0,hj=>simp at hj; subst hj; exact ⟨_,rfl,k2'.mono l9⟩
  | 1,hj=>simp at hj; subst hj; exact ⟨_,rfl,k8.mono l9⟩
  | j+2,hj=>simp at hj⟩
 have z0:∀ x:Rat,0+x=x:=fun x=>by grind
 refine G.c call175 (Apl hfs (by simp) (fun x hx=>by
  simp at hx;rcases hx with rfl | rfl
  ·exact htn.s1000 (by omega) (by omega) (by omega) (by omega)
  ·exact hs2.neg.s1000 (by omega) (by omega) (by omega) (by omega)) (fun m=>by
  match m with
  | 0=>exact (De.nat (n:=0) (a:=1) (by omega)).s1000 (by omega) (by omega) (by omega) (by omega)
  | 1=>show Sz (0+C.t (Ap p q) / C.c) _; rw [z0]; exact htn.s1000 (by omega) (by omega) (by omega) (by omega)
  | m+2 =>
   show Sz (Yy (_::_::([]:List Rat).take m)) _;rw [List.take_nil];show Sz (0+C.t (Ap p q) / C.c + -(C.s p*C.s q / C.c / C.c)) _;rw [z0,ecov]; exact hcv.s1000 (by omega) (by omega) (by omega) (by omega))) ?_
 intro v10 u10 l10 k10;have e10:Yy [C.t (Ap p q) / C.c,-(C.s p*C.s q / C.c / C.c)]=Hv C p q:=by
  show 0+C.t (Ap p q) / C.c + -(C.s p*C.s q / C.c / C.c)=_;rw [z0,ecov]
 rw [e10] at k10;obtain ⟨b0,a0,n0,c0,b0',a0',n0',c0',rfl⟩:=k10.opn;exact G.r (.agg #[.bool b0,.slice a0 n0 c0,.bool b0',.slice a0' n0' c0']) ⟨rfl,k10⟩
theorem S8 (p q:Par)(ht:Lb u)(hC:H7 u v C K)(sC:CFS C)(vC:CFV C)(hK:K≤100000)(hS:Iq C k)(h0:k≠0) :
  Fn0 prog 99 [v,An p,An q] u fun r _=>r=.tuple #[.string (mkS (Af (Hv C p q))),.int .i64 0]:=by
 have hb:=An1 hC sC vC hK hS h0;obtain ⟨a1,n1,c1,a2,n2,c2,rfl⟩:=hC.opn;refine Fn0.o func99 ?_;refine G.c call178 hb ?_;rintro v1 u1 l1 ⟨x,rfl,k1⟩;obtain ⟨b,a,n,c,b',a',n',c',g1,g2,rfl⟩:=S3 k1;refine G.nF 0 0 ?_;refine G.c call95 (Ade p q k1 hS h0) ?_;intro v2 u2 l2 k2;obtain ⟨b2,a2,n2,c2,b2',a2',n2',c2',rfl⟩:=k2.opn;refine G.c call55 (Jj (ht.mono (l1.trans l2)) k2 ((hS.cov h0 p q).tx (by omega) (by omega) (by omega) (by omega))) ?_;rintro v4 u4 l4 rfl;exact G.r (.tuple #[.string (mkS (Af (Hv C p q))),.int .i64 0]) ⟨rfl,rfl⟩
theorem Wl (p:Par)(ht:Lb u)(hC:H7 u v C K)(sC:CFS C)(vC:CFV C)(hK:K≤100000)(hS:Iq C k)(h0:k≠0) :
  Fn0 prog 44 [v,An p] u fun r _=>r=.tuple #[.string (mkS (Af (Hv C p p))),.int .i64 0]:=by
 have hb:=S8 p p ht hC sC vC hK hS h0;obtain ⟨a1,n1,c1,a2,n2,c2,rfl⟩:=hC.opn;refine Fn0.o func44 ?_;refine G.c call99 hb ?_;rintro v1 u1 l1 rfl;exact G.r (.tuple #[.string (mkS (Af (Hv C p p))),.int .i64 0]) ⟨rfl,rfl⟩
end
section
open Go.RowKit Go.MapKept
variable {C:CF}{N i:Nat}{P:List Par}{b:Option Par→Rat}{e:Option Par}{lv v:Value}{u:PH}
structure Nj (u:PH)(v:Value)(P:List Par)(b:Option Par→Rat):Prop where
 val:∃ a c a' c',v=.agg #[.slice a P.length c,.slice a' (P.length+1) c']∧Ab u (.slice a P.length c) 2 (P.map An)∧M6 u (.slice a' (P.length+1) c') ((Ak P).map b)
theorem Nj.mono {u u':PH}{v:Value}{P:List Par}{b:Option Par→Rat}(h:Nj u v P b)(hl:PH.le u u'):Nj u' v P b:=by
 obtain ⟨a,c,a',c',e,h1,h2⟩:=h.val;exact ⟨a,c,a',c',e,h1.mono hl,h2.mono hl⟩
theorem Bo (P:List Par):(Ak P).length=P.length+1:=by unfold Ak; simp
theorem Ra (h:(Ak P)[i]?=some e):(i=0∧e=none)∨∃ j p,i=j+1∧P[j]?=some p∧e=some p:=by
 unfold Ak at h;cases i with
 | zero=>simp at h; exact .inl ⟨rfl,h.symm⟩
 | succ j =>
  rw [List.getElem?_cons_succ,List.getElem?_map] at h;obtain ⟨p,hp,rfl⟩:=Option.map_eq_some_iff.1 h;exact .inr ⟨j,p,rfl,hp,rfl⟩
theorem M4 :Fn0 prog 96 [] u fun r _=>r=An Aq:=by
 refine Fn0.o func96 ?_;exact G.r (An Aq) ⟨rfl,rfl⟩
theorem Ir {F:CF}(h:Mf u v F N):∃ b a n c b' a' n' c' g1 g2,v=.agg #[.bool b,.slice a n c,.bool b',.slice a' n' c',.map (some g1),.map (some g2)]∧Av u (.agg #[.bool b,.slice a n c,.bool b',.slice a' n' c']) F.c:=by
 obtain ⟨b,a,n,c,b',a',n',c',g1,g2,o1,o2,e,h1,_⟩:=h;exact ⟨b,a,n,c,b',a',n',c',g1,g2,e,h1⟩
theorem Sf {N i k:Nat}{e f:Option Par}(hl:Nj u lv P b)(hv:Mf u v C N)(hP:P.length≤1000)(he:(Ak P)[i]?=some e)(hf:(Ak P)[k]?=some f) :
  Fn0 prog 125 [lv,v,.int .i64 (i:Int),.int .i64 (k:Int)] u fun r u'=>Av u' r (As C e f):=by
 obtain ⟨pa,pc,ca,cc,rfl,hPL,_⟩:=hl.val;obtain ⟨b0,a0,n0,c0,b0',a0',n0',c0',g1,g2,rfl,hc⟩:=Ir hv;refine Fn0.o func125 ?_;rcases Ra he with ⟨rfl,rfl⟩ | ⟨i,p,rfl,hpi,rfl⟩
 ·refine G.eT' ((0:Nat):Int) 0 rfl ?_;rcases Ra hf with ⟨rfl,rfl⟩ | ⟨k,q,rfl,hqk,rfl⟩
  ·refine G.eT' ((0:Nat):Int) 0 rfl ?_;exact G.r (.agg #[.bool b0,.slice a0 n0 c0,.bool b0',.slice a0' n0' c0']) ⟨rfl,hc⟩
  ·have hkl:=(List.getElem?_eq_some_iff.1 hqk).1;refine G.eF ((k+1:Nat):Int) 0 ?_;refine G.eT' ((0:Nat):Int) 0 rfl ?_;refine G.s ((k+1:Nat):Int) 1 (k:Int) ?_;obtain ⟨bb,ob,rfl,eb⟩:=Ab.at' hPL (j:=k) (e:=An q) (by simp [hqk]);refine G.a bb ob P.length pc k 2 hkl ?_;refine G.lU (some 2) bb (ob+k*2) (An q) eb ?_;refine G.c call124 (Lx q hv) ?_;intro v1 u1 l1 k1;obtain ⟨b1,a1,n1,c1,b1',a1',n1',c1',rfl⟩:=k1.opn;exact G.r (.agg #[.bool b1,.slice a1 n1 c1,.bool b1',.slice a1' n1' c1']) ⟨rfl,k1⟩
 ·have hil:=(List.getElem?_eq_some_iff.1 hpi).1;obtain ⟨bb,ob,rfl,eb⟩:=Ab.at' hPL (j:=i) (e:=An p) (by simp [hpi]);refine G.eF ((i+1:Nat):Int) 0 ?_;refine G.eF ((i+1:Nat):Int) 0 ?_;rcases Ra hf with ⟨rfl,rfl⟩ | ⟨k,q,rfl,hqk,rfl⟩
  ·refine G.eT' ((0:Nat):Int) 0 rfl ?_;refine G.s ((i+1:Nat):Int) 1 (i:Int) ?_;refine G.a bb ob P.length pc i 2 hil ?_;refine G.lU (some 2) bb (ob+i*2) (An p) eb ?_;refine G.c call124 (Lx p hv) ?_;intro v1 u1 l1 k1;obtain ⟨b1,a1,n1,c1,b1',a1',n1',c1',rfl⟩:=k1.opn;exact G.r (.agg #[.bool b1,.slice a1 n1 c1,.bool b1',.slice a1' n1' c1']) ⟨rfl,k1⟩
  ·have hkl:=(List.getElem?_eq_some_iff.1 hqk).1;obtain ⟨b2,o2,e2,eb2⟩:=Ab.at' hPL (j:=k) (e:=An q) (by simp [hqk]);cases e2;refine G.eF ((k+1:Nat):Int) 0 ?_;refine G.s ((i+1:Nat):Int) 1 (i:Int) ?_;refine G.a bb ob P.length pc i 2 hil ?_;refine G.lU (some 2) bb (ob+i*2) (An p) eb ?_;refine G.s ((k+1:Nat):Int) 1 (k:Int) ?_;refine G.a bb ob P.length pc k 2 hkl ?_;refine G.lU (some 2) bb (ob+k*2) (An q) eb2 ?_;refine G.c call118 (Oc p q hv) ?_;intro v1 u1 l1 k1;obtain ⟨b1,a1,n1,c1,b1',a1',n1',c1',rfl⟩:=k1.opn;exact G.r (.agg #[.bool b1,.slice a1 n1 c1,.bool b1',.slice a1' n1' c1']) ⟨rfl,k1⟩
theorem Anu (hl:Nj u lv P b)(hv:Mf u v C N)(hP:P.length≤1000)(he:(Ak P)[i]?=some e) :
  Fn0 prog 119 [lv,v,.int .i64 (i:Int)] u fun r u'=>Av u' r (Ay C e):=by
 obtain ⟨pa,pc,ca,cc,rfl,hPL,_⟩:=hl.val;obtain ⟨b0,a0,n0,c0,b0',a0',n0',c0',g1,g2,rfl,hc⟩:=Ir hv;refine Fn0.o func119 ?_;rcases Ra he with ⟨rfl,rfl⟩ | ⟨i,p,rfl,hpi,rfl⟩
 ·refine G.eT' ((0:Nat):Int) 0 rfl ?_;refine G.c call96 M4 ?_;rintro v0 u0 l0 rfl;refine G.c call124 (Lx Aq (hv.mono l0)) ?_;intro v1 u1 l1 k1;obtain ⟨b1,a1,n1,c1,b1',a1',n1',c1',rfl⟩:=k1.opn;exact G.r (.agg #[.bool b1,.slice a1 n1 c1,.bool b1',.slice a1' n1' c1']) ⟨rfl,k1⟩
 ·have hil:=(List.getElem?_eq_some_iff.1 hpi).1;obtain ⟨bb,ob,rfl,eb⟩:=Ab.at' hPL (j:=i) (e:=An p) (by simp [hpi]);refine G.eF ((i+1:Nat):Int) 0 ?_;refine G.s ((i+1:Nat):Int) 1 (i:Int) ?_;refine G.a bb ob P.length pc i 2 hil ?_;refine G.lU (some 2) bb (ob+i*2) (An p) eb ?_;refine G.c call96 M4 ?_;rintro v0 u0 l0 rfl;refine G.c call118 (Oc Aq p (hv.mono l0)) ?_;intro v1 u1 l1 k1;obtain ⟨b1,a1,n1,c1,b1',a1',n1',c1',rfl⟩:=k1.opn;exact G.r (.agg #[.bool b1,.slice a1 n1 c1,.bool b1',.slice a1' n1' c1']) ⟨rfl,k1⟩
end
section
open Go.RowKit Go.MapKept
variable {C:CF}{N d:Nat}{P:List Par}{b:Option Par→Rat}{q:Rat}{α:Type}
theorem Dn.lift (j:Nat)(h:Dn d N q):Dn (d+j) (N*12 ^ j) q:=by
 obtain ⟨k,e,hk⟩:=h;refine ⟨k*((12 ^ j:Nat):Int),?_,?_⟩
 ·rw [Rat.intCast_mul,Rat.intCast_natCast,← e,Nat.pow_add,Rat.natCast_mul]; grind
 ·rw [Int.natAbs_mul]; exact Nat.mul_le_mul_right _ hk
theorem Dn.to {d e N M:Nat}(h:Dn d N q)(h1:d≤e)(h2:N*12 ^ (e - d)≤M):Dn e M q:=by
 have:=h.lift (e - d);rw [show d+(e - d)=e by omega] at this;exact this.mono h2
structure QOK (b:Option Par→Rat)(C:CF):Prop where
 b:∀ e,Sz (b e) 1000
 c:∀ e f,Sz (As C e f) 1000
 r:∀ e,Sz (Ay C e) 1000
 l:Sz (C.t (Ap Aq Aq)) 1000
theorem Om {α:Type}{f:α→Rat}{s:Nat}:∀ {l:List α},(∀ a∈l,Sz (f a) s)→Sz (Au f l) (l.length*(s+1)+1)
 | [],_=>Xv.mono (by simp)
 | a::l,h=>by
  have h1:=Ly (h a (List.mem_cons_self ..)) (Om fun x hx=>h x (List.mem_cons_of_mem _ hx));exact h1.mono (by rw [List.length_cons,Nat.add_mul]; omega)
theorem QOK.half (h:QOK b C)(e f:Option Par):Sz (b e*As C e f) 2000:=In (h.b e) (h.c e f)
theorem QOK.term (h:QOK b C)(e f:Option Par):Sz (b e*As C e f*b f) 3000:=In (h.half e f) (h.b f)
theorem QOK.rt (h:QOK b C)(e:Option Par):Sz (b e*Ay C e) 2000:=In (h.b e) (h.r e)
theorem V7 {l:List α}{f:α→Rat}{s k:Nat}(h:Sz (Au f l) (l.length*(s+1)+1))(hl:l.length≤k):Sz (Au f l) (k*(s+1)+1):=h.mono (by have:=Nat.mul_le_mul_right (s+1) hl; omega)
theorem QOK.inner (h:QOK b C)(hP:P.length≤60)(e:Option Par)(l:List (Option Par))(hl:l.length≤61):Sz (Au (fun f=>b e*As C e f*b f) l) 200000 :=
 (V7 (Om fun f _=>h.term e f) hl).mono (by omega)
theorem QOK.outer (h:QOK b C)(hP:P.length≤60)(l:List (Option Par))(hl:l.length≤61):Sz (Au (fun e=>Au (fun f=>b e*As C e f*b f) (Ak P)) l) 20000000 :=
 (V7 (Om fun e _=>h.inner hP e (Ak P) (by rw [Bo]; omega)) hl).mono (by omega)
theorem E6 {l:List α}{i:Nat}{x:α}(h:l[i]?=some x):l.take (i+1)=l.take i++[x]:=by rw [List.take_add_one,h]; rfl
theorem Am3 {u:PH}{lv v:Value}(hl:Nj u lv P b)(hv:Mf u v C N)(hP:P.length≤60)(hq:QOK b C) :
  Fn0 prog 58 [lv,v] u fun r u'=>Av u' r (Bm b P C):=by
 obtain ⟨pa,pc,ca,cc,rfl,hPL,es,hL,hF⟩:=hl.val;have hEl:=Bo P;have hes:es.length=P.length+1:=by rw [hF.1,List.length_map,hEl]
 obtain ⟨b0,a0,n0,c0,b0',a0',n0',c0',g1,g2,rfl,hc⟩:=Ir hv;refine Fn0.o func58 ?_;refine G.c call98 (L8 (z:=0) (by omega) (by omega)) ?_;intro v1 u1 l1 k1;rw [show ((0:Int):Rat)=0 by decide +kernel] at k1;obtain ⟨sb,sa,sn,sc,sb',sa',sn',sc',rfl⟩:=k1.opn;refine G.l (ι:=Nat×(Bool×SlI)×(Bool×SlI)) (fun i=>[(2,.p 0 0),(3,.p 1 0),(4,.p 2 0),(5,.p 1001 0),(12,.v (.slice ca (P.length+1) cc)),(13,.v (.int .i64 ((P.length+1:Nat):Int))),(14,.v (.int .i64 (i.1:Int)))])
  (fun i=>[(0,⟨126,[.v (.slice pa P.length pc),.v (.slice ca (P.length+1) cc)]⟩),(1,⟨120,[.v (.bool b0),.v (.slice a0 n0 c0),.v (.bool b0'),.v (.slice a0' n0' c0'),.v (.map (some g1)),.v (.map (some g2))]⟩),(2,⟨116,[.v (.bool false),.v (.slice none 0 0),.v (.bool false),.v (.slice none 0 0)]⟩),(1001,⟨116,[.v (.bool i.2.1.1),.v (.slice i.2.1.2.1 i.2.1.2.2.1 i.2.1.2.2.2),.v (.bool i.2.2.1),.v (.slice i.2.2.2.1 i.2.2.2.2.1 i.2.2.2.2.2)]⟩)])
  (fun i u' m'=>i.1≤P.length+1∧Av u' (.agg #[.bool i.2.1.1,.slice i.2.1.2.1 i.2.1.2.2.1 i.2.1.2.2.2,.bool i.2.2.1,.slice i.2.2.2.1 i.2.2.2.2.1 i.2.2.2.2.2]) (Au (fun e=>Au (fun f=>b e*As C e f*b f) (Ak P)) ((Ak P).take i.1))∧m'=PH.mt) (fun i=>P.length+1 - i.1) (0,(sb,sa,sn,sc),(sb',sa',sn',sc')) ⟨by omega,k1,rfl⟩ ?_
 rintro J ⟨i,⟨sb,sa,sn,sc⟩,⟨sb',sa',sn',sc'⟩⟩ hJ u2 m2 l2 ⟨hi,k2,rfl⟩;simp only at hi k2 hJ;have le2:=l1.trans l2;by_cases hlt:i < P.length+1
 ·refine G.lT (i:Int) ((P.length+1:Nat):Int) ?_;obtain ⟨e,hEi⟩:∃ e,(Ak P)[i]?=some e:=⟨_,List.getElem?_eq_getElem (by omega)⟩;have hout:=hq.outer hP ((Ak P).take i) (by rw [List.length_take]; omega);have hstep:Au (fun e=>Au (fun f=>b e*As C e f*b f) (Ak P)) ((Ak P).take (i+1))=Au (fun e=>Au (fun f=>b e*As C e f*b f) (Ak P)) ((Ak P).take i)+Au (fun f=>b e*As C e f*b f) (Ak P):=by rw [E6 hEi,Iu]
  obtain ⟨x,hx,hfx⟩:=hF.2 i (b e) (by rw [List.getElem?_map,hEi]; rfl);obtain ⟨fb,fo,rfl,ef⟩:=Ab.at' (hL.mono le2) (j:=i) (e:=x) hx;have hfx:=hfx.mono le2;obtain ⟨xb,xa,xn,xc,xb',xa',xn',xc',rfl⟩:=hfx.opn;refine G.a fb fo (P.length+1) cc i 4 hlt ?_;refine G.lU (some 4) fb (fo+i*4) (.agg #[.bool xb,.slice xa xn xc,.bool xb',.slice xa' xn' xc']) ef ?_;generalize hS:Au (fun e=>Au (fun f=>b e*As C e f*b f) (Ak P)) ((Ak P).take i)=S at k2 hout hstep;have z0:S+0=S:=by grind
  refine G.l (ι:=Nat×(Bool×SlI)×(Bool×SlI)) (fun n=>[(2,.p 0 0),(3,.p 1 0),(4,.p 2 0),(5,.p 1001 0),(6,.v (.int .i64 (i:Int))),(7,.p 4003 0),(12,.v (.slice (some ⟨fb,fo,none⟩) (P.length+1) cc)),(13,.v (.int .i64 ((P.length+1:Nat):Int))),(14,.v (.int .i64 (i:Int))),(20,.v (.slice (some ⟨fb,fo,none⟩) (P.length+1) cc)),(21,.v (.int .i64 ((P.length+1:Nat):Int))),(22,.v (.int .i64 (n.1:Int)))])
   (fun n=>[(0,⟨126,[.v (.slice pa P.length pc),.v (.slice (some ⟨fb,fo,none⟩) (P.length+1) cc)]⟩),(1,⟨120,[.v (.bool b0),.v (.slice a0 n0 c0),.v (.bool b0'),.v (.slice a0' n0' c0'),.v (.map (some g1)),.v (.map (some g2))]⟩),(2,⟨116,[.v (.bool false),.v (.slice none 0 0),.v (.bool false),.v (.slice none 0 0)]⟩),(1001,⟨116,[.v (.bool n.2.1.1),.v (.slice n.2.1.2.1 n.2.1.2.2.1 n.2.1.2.2.2),.v (.bool n.2.2.1),.v (.slice n.2.2.2.1 n.2.2.2.2.1 n.2.2.2.2.2)]⟩),(4003,⟨116,[.v (.bool xb),.v (.slice xa xn xc),.v (.bool xb'),.v (.slice xa' xn' xc')]⟩)])
   (fun n u' m'=>n.1≤P.length+1∧Av u' (.agg #[.bool n.2.1.1,.slice n.2.1.2.1 n.2.1.2.2.1 n.2.1.2.2.2,.bool n.2.2.1,.slice n.2.2.2.1 n.2.2.2.2.1 n.2.2.2.2.2]) (S+Au (fun f=>b e*As C e f*b f) ((Ak P).take n.1))∧m'=PH.mt) (fun n=>P.length+1 - n.1) (0,(sb,sa,sn,sc),(sb',sa',sn',sc')) ⟨by omega,by show Av _ _ (S+0); rw [z0]; exact k2,rfl⟩ ?_
  rintro J2 ⟨n,⟨tb,ta,tn,tc⟩,⟨tb',ta',tn',tc'⟩⟩ hJ2 u3 m3 l3 ⟨hn,k3,rfl⟩;simp only at hn k3 hJ2;have le3:=le2.trans l3;by_cases hnl:n < P.length+1
  ·refine G.lT (n:Int) ((P.length+1:Nat):Int) ?_;obtain ⟨f,hEn⟩:∃ f,(Ak P)[n]?=some f:=⟨_,List.getElem?_eq_getElem (by omega)⟩;have hinn:=hq.inner hP e ((Ak P).take n) (by rw [List.length_take]; omega);have hstep2:S+Au (fun f=>b e*As C e f*b f) ((Ak P).take (n+1))=S+Au (fun f=>b e*As C e f*b f) ((Ak P).take n)+b e*As C e f*b f:=by rw [E6 hEn,Iu]; grind
   obtain ⟨y,hy,hfy⟩:=hF.2 n (b f) (by rw [List.getElem?_map,hEn]; rfl);obtain ⟨f2,o2,e2,ef2⟩:=Ab.at' (hL.mono le3) (j:=n) (e:=y) hy;cases e2;have hfy:=hfy.mono le3;obtain ⟨yb,ya,yn,yc,yb',ya',yn',yc',rfl⟩:=hfy.opn;refine G.a fb fo (P.length+1) cc n 4 hnl ?_;refine G.lU (some 4) fb (fo+n*4) (.agg #[.bool yb,.slice ya yn yc,.bool yb',.slice ya' yn' yc']) ef2 ?_;refine G.c call125 (Sf (hl.mono le3) (hv.mono le3) (by omega) hEi hEn) ?_;intro v4 u4 l4 k4;obtain ⟨b4,a4,n4,c4,b4',a4',n4',c4',rfl⟩:=k4.opn;refine G.c call78 (Le ((hfx.mono l3).mono l4) k4 ((hq.b e).mono (by omega)) ((hq.c e f).mono (by omega))) ?_;intro v5 u5 l5 k5;obtain ⟨b5,a5,n5,c5,b5',a5',n5',c5',rfl⟩:=k5.opn;refine G.c call78 (Le k5 (hfy.mono (l4.trans l5)) ((hq.half e f).mono (by omega)) ((hq.b f).mono (by omega))) ?_;intro v6 u6 l6 k6;obtain ⟨b6,a6,n6,c6,b6',a6',n6',c6',rfl⟩:=k6.opn;have l36:=(l4.trans l5).trans l6;refine G.c call76 (O2 (k3.mono l36) k6 ((Ly hout hinn).mono (by omega)) ((hq.term e f).mono (by omega))) ?_;intro v7 u7 l7 k7;rw [← hstep2] at k7;obtain ⟨b7,a7,n7,c7,b7',a7',n7',c7',rfl⟩:=k7.opn;refine G.i n ?_;exact G.b (hJ2 (n+1,(b7,a7,n7,c7),(b7',a7',n7',c7')) _ _ _ cv (l3.trans (l36.trans l7)) ⟨by dsimp only; omega,k7,rfl⟩ (by dsimp only; omega))
  ·obtain rfl:n=P.length+1:=by omega
   refine G.lF ((P.length+1:Nat):Int) ((P.length+1:Nat):Int) ?_;rw [List.take_of_length_le (by omega),← hstep] at k3;refine G.i i ?_;exact G.b (hJ (i+1,(tb,ta,tn,tc),(tb',ta',tn',tc')) _ _ _ cv (l2.trans l3) ⟨by dsimp only; omega,k3,rfl⟩ (by dsimp only; omega))
 ·obtain rfl:i=P.length+1:=by omega
  refine G.lF ((P.length+1:Nat):Int) ((P.length+1:Nat):Int) ?_;rw [List.take_of_length_le (by omega)] at k2;exact G.r (.agg #[.bool sb,.slice sa sn sc,.bool sb',.slice sa' sn' sc']) ⟨rfl,k2⟩
end
section
open Go.RowKit Go.MapKept
variable {C:CF}{N:Nat}{P:List Par}{b:Option Par→Rat}{lv v:Value}{u:PH}
theorem QOK.bs (h:QOK b C)(l:List (Option Par))(hl:l.length≤61):Sz (Au (fun e=>b e*As C none e) l) 200000 :=
 (V7 (Om fun e _=>In (h.b e) (h.c none e)) hl).mono (by omega)
theorem QOK.rs (h:QOK b C)(l:List (Option Par))(hl:l.length≤61):Sz (Au (fun e=>b e*Ay C e) l) 200000 :=
 (V7 (Om fun e _=>h.rt e) hl).mono (by omega)
theorem Apj (hl:Nj u lv P b)(hv:Mf u v C N)(hP:P.length≤60)(hq:QOK b C) :
  Fn0 prog 56 [lv,v] u fun r u'=>Av u' r (Kf b P C):=by
 obtain ⟨pa,pc,ca,cc,rfl,hPL,es,hL,hF⟩:=hl.val;have hEl:=Bo P;have hes:es.length=P.length+1:=by rw [hF.1,List.length_map,hEl]
 obtain ⟨b0,a0,n0,c0,b0',a0',n0',c0',g1,g2,rfl,hc⟩:=Ir hv;have hls:Sz (C.s Aq) 1000:=hq.r none;have z1:C.s Aq - 0=C.s Aq:=by grind
 refine Fn0.o func56 ?_;refine G.c call96 M4 ?_;rintro v0 u0 l0 rfl;refine G.c call124 (Lx Aq (hv.mono l0)) ?_;intro v1 u1 l1 k1;obtain ⟨sb,sa,sn,sc,sb',sa',sn',sc',rfl⟩:=k1.opn;have le1:=l0.trans l1;refine G.l (ι:=Nat×(Bool×SlI)×(Bool×SlI)) (fun i=>[(2,.p 0 0),(3,.p 1 0),(4,.p 2 0),(5,.p 1003 0),(12,.v (.slice ca (P.length+1) cc)),(13,.v (.int .i64 ((P.length+1:Nat):Int))),(14,.v (.int .i64 (i.1:Int)))])
  (fun i=>[(0,⟨126,[.v (.slice pa P.length pc),.v (.slice ca (P.length+1) cc)]⟩),(1,⟨120,[.v (.bool b0),.v (.slice a0 n0 c0),.v (.bool b0'),.v (.slice a0' n0' c0'),.v (.map (some g1)),.v (.map (some g2))]⟩),(2,⟨116,[.v (.bool false),.v (.slice none 0 0),.v (.bool false),.v (.slice none 0 0)]⟩),(1003,⟨116,[.v (.bool i.2.1.1),.v (.slice i.2.1.2.1 i.2.1.2.2.1 i.2.1.2.2.2),.v (.bool i.2.2.1),.v (.slice i.2.2.2.1 i.2.2.2.2.1 i.2.2.2.2.2)]⟩)])
  (fun i u' m'=>i.1≤P.length+1∧Av u' (.agg #[.bool i.2.1.1,.slice i.2.1.2.1 i.2.1.2.2.1 i.2.1.2.2.2,.bool i.2.2.1,.slice i.2.2.2.1 i.2.2.2.2.1 i.2.2.2.2.2]) (C.s Aq - Au (fun e=>b e*As C none e) ((Ak P).take i.1))∧m'=PH.mt) (fun i=>P.length+1 - i.1) (0,(sb,sa,sn,sc),(sb',sa',sn',sc')) ⟨by omega,by show Av _ _ (C.s Aq - 0); rw [z1]; exact k1,rfl⟩ ?_
 rintro J ⟨i,⟨sb,sa,sn,sc⟩,⟨sb',sa',sn',sc'⟩⟩ hJ u2 m2 l2 ⟨hi,k2,rfl⟩;simp only at hi k2 hJ;have le2:=le1.trans l2;by_cases hlt:i < P.length+1
 ·refine G.lT (i:Int) ((P.length+1:Nat):Int) ?_;obtain ⟨e,hEi⟩:∃ e,(Ak P)[i]?=some e:=⟨_,List.getElem?_eq_getElem (by omega)⟩;have hE0:(Ak P)[0]?=some none:=rfl;have hps:=hq.bs ((Ak P).take i) (by rw [List.length_take]; omega);have hbt:Sz (b e*As C none e) 2000:=In (hq.b e) (hq.c none e);have hstep:C.s Aq - Au (fun e=>b e*As C none e) ((Ak P).take (i+1))=C.s Aq - Au (fun e=>b e*As C none e) ((Ak P).take i) - b e*As C none e:=by rw [E6 hEi,Iu]; grind
  obtain ⟨x,hx,hfx⟩:=hF.2 i (b e) (by rw [List.getElem?_map,hEi]; rfl);obtain ⟨fb,fo,rfl,ef⟩:=Ab.at' (hL.mono le2) (j:=i) (e:=x) hx;have hfx:=hfx.mono le2;obtain ⟨xb,xa,xn,xc,xb',xa',xn',xc',rfl⟩:=hfx.opn;refine G.a fb fo (P.length+1) cc i 4 hlt ?_;refine G.lU (some 4) fb (fo+i*4) (.agg #[.bool xb,.slice xa xn xc,.bool xb',.slice xa' xn' xc']) ef ?_;refine G.c call125 (Sf (i:=0) (hl.mono le2) (hv.mono le2) (by omega) hE0 hEi) ?_;intro v4 u4 l4 k4;obtain ⟨b4,a4,n4,c4,b4',a4',n4',c4',rfl⟩:=k4.opn;refine G.c call78 (Le (hfx.mono l4) k4 ((hq.b e).mono (by omega)) ((hq.c none e).mono (by omega))) ?_;intro v5 u5 l5 k5;obtain ⟨b5,a5,n5,c5,b5',a5',n5',c5',rfl⟩:=k5.opn;refine G.c call57 (Lf (k2.mono (l4.trans l5)) k5 ((Ie hls hps).mono (by omega)) (hbt.mono (by omega))) ?_;intro v7 u7 l7 k7;rw [← hstep] at k7;obtain ⟨b7,a7,n7,c7,b7',a7',n7',c7',rfl⟩:=k7.opn;refine G.i i ?_;exact G.b (hJ (i+1,(b7,a7,n7,c7),(b7',a7',n7',c7')) _ _ _ cv (((l2.trans l4).trans l5).trans l7) ⟨by dsimp only; omega,k7,rfl⟩ (by dsimp only; omega))
 ·obtain rfl:i=P.length+1:=by omega
  refine G.lF ((P.length+1:Nat):Int) ((P.length+1:Nat):Int) ?_;rw [List.take_of_length_le (by omega)] at k2;exact G.r (.agg #[.bool sb,.slice sa sn sc,.bool sb',.slice sa' sn' sc']) ⟨rfl,k2⟩
theorem Agv {q:Rat}{k:Nat}(h:Sz q k):Sz (2*q) (2*k+1):=by
 rw [show 2*q=q+q by grind]; exact (Ly h h).mono (by omega)
theorem QOK.nm (h:QOK b C)(hP:P.length≤60):Sz (Bm b P C) 20000000 :=
 h.outer hP (Ak P) (by rw [Bo]; omega)
theorem sq0 (hl:Nj u lv P b)(hv:Mf u v C N)(hP:P.length≤60)(hq:QOK b C) :
  Fn0 prog 53 [lv,v] u fun r u'=>Av u' r (sqC b P C):=by
 obtain ⟨pa,pc,ca,cc,rfl,hPL,es,hL,hF⟩:=hl.val;have hEl:=Bo P;have hes:es.length=P.length+1:=by rw [hF.1,List.length_map,hEl]
 obtain ⟨b0,a0,n0,c0,b0',a0',n0',c0',g1,g2,rfl,hc⟩:=Ir hv;have hlt2:=hq.l;have hnm:=hq.nm hP;refine Fn0.o func53 ?_;refine G.c call58 (Am3 hl hv hP hq) ?_;intro v1 u1 l1 k1;obtain ⟨b1,a1,n1,c1,b1',a1',n1',c1',rfl⟩:=k1.opn;refine G.c call96 M4 ?_;rintro v2 u2 l2 rfl;refine G.c call96 M4 ?_;rintro v3 u3 l3 rfl;have le3:=(l1.trans l2).trans l3;refine G.c call118 (Oc Aq Aq (hv.mono le3)) ?_;intro v4 u4 l4 k4;obtain ⟨b4,a4,n4,c4,b4',a4',n4',c4',rfl⟩:=k4.opn;refine G.c call76 (O2 (k1.mono ((l2.trans l3).trans l4)) k4 (hnm.mono (by omega)) (hlt2.mono (by omega))) ?_;intro v5 u5 l5 k5;have le5:=(le3.trans l4).trans l5;have hA:Sz (Bm b P C+C.t (Ap Aq Aq)) 20001001:=Ly hnm hlt2;have hfin:Bm b P C+C.t (Ap Aq Aq) - 2*Au (fun e=>b e*Ay C e) (Ak P)=sqC b P C:=rfl;generalize Bm b P C+C.t (Ap Aq Aq)=A at k5 hA hfin;obtain ⟨sb,sa,sn,sc,sb',sa',sn',sc',rfl⟩:=k5.opn;have z1:A - 2*0=A:=by grind
 refine G.l (ι:=Nat×(Bool×SlI)×(Bool×SlI)) (fun i=>[(2,.p 0 0),(3,.p 1 0),(4,.p 2 0),(5,.p 1008 0),(18,.v (.slice ca (P.length+1) cc)),(19,.v (.int .i64 ((P.length+1:Nat):Int))),(20,.v (.int .i64 (i.1:Int)))])
  (fun i=>[(0,⟨126,[.v (.slice pa P.length pc),.v (.slice ca (P.length+1) cc)]⟩),(1,⟨120,[.v (.bool b0),.v (.slice a0 n0 c0),.v (.bool b0'),.v (.slice a0' n0' c0'),.v (.map (some g1)),.v (.map (some g2))]⟩),(2,⟨116,[.v (.bool false),.v (.slice none 0 0),.v (.bool false),.v (.slice none 0 0)]⟩),(1008,⟨116,[.v (.bool i.2.1.1),.v (.slice i.2.1.2.1 i.2.1.2.2.1 i.2.1.2.2.2),.v (.bool i.2.2.1),.v (.slice i.2.2.2.1 i.2.2.2.2.1 i.2.2.2.2.2)]⟩)])
  (fun i u' m'=>i.1≤P.length+1∧Av u' (.agg #[.bool i.2.1.1,.slice i.2.1.2.1 i.2.1.2.2.1 i.2.1.2.2.2,.bool i.2.2.1,.slice i.2.2.2.1 i.2.2.2.2.1 i.2.2.2.2.2]) (A - 2*Au (fun e=>b e*Ay C e) ((Ak P).take i.1))∧m'=PH.mt) (fun i=>P.length+1 - i.1) (0,(sb,sa,sn,sc),(sb',sa',sn',sc')) ⟨by omega,by show Av _ _ (A - 2*0); rw [z1]; exact k5,rfl⟩ ?_
 rintro J ⟨i,⟨sb,sa,sn,sc⟩,⟨sb',sa',sn',sc'⟩⟩ hJ u6 m6 l6 ⟨hi,k6,rfl⟩;simp only at hi k6 hJ;have le6:=le5.trans l6;by_cases hlt:i < P.length+1
 ·refine G.lT (i:Int) ((P.length+1:Nat):Int) ?_;obtain ⟨e,hEi⟩:∃ e,(Ak P)[i]?=some e:=⟨_,List.getElem?_eq_getElem (by omega)⟩;have hps:=hq.rs ((Ak P).take i) (by rw [List.length_take]; omega);have hbt:=hq.rt e;have hd1:=Ie hA (Agv hps);have hd2:=Ie hd1 hbt;have hstep:A - 2*Au (fun e=>b e*Ay C e) ((Ak P).take (i+1))=A - 2*Au (fun e=>b e*Ay C e) ((Ak P).take i) - b e*Ay C e - b e*Ay C e:=by rw [E6 hEi,Iu]; grind
  obtain ⟨x,hx,hfx⟩:=hF.2 i (b e) (by rw [List.getElem?_map,hEi]; rfl);obtain ⟨fb,fo,rfl,ef⟩:=Ab.at' (hL.mono le6) (j:=i) (e:=x) hx;have hfx:=hfx.mono le6;obtain ⟨xb,xa,xn,xc,xb',xa',xn',xc',rfl⟩:=hfx.opn;refine G.a fb fo (P.length+1) cc i 4 hlt ?_;refine G.lU (some 4) fb (fo+i*4) (.agg #[.bool xb,.slice xa xn xc,.bool xb',.slice xa' xn' xc']) ef ?_;refine G.c call119 (Anu (hl.mono le6) (hv.mono le6) (by omega) hEi) ?_;intro v7 u7 l7 k7;obtain ⟨b7,a7,n7,c7,b7',a7',n7',c7',rfl⟩:=k7.opn;refine G.c call78 (Le (hfx.mono l7) k7 ((hq.b e).mono (by omega)) ((hq.r e).mono (by omega))) ?_;intro v8 u8 l8 k8;obtain ⟨b8,a8,n8,c8,b8',a8',n8',c8',rfl⟩:=k8.opn;refine G.c call57 (Lf (k6.mono (l7.trans l8)) k8 (hd1.mono (by omega)) (hbt.mono (by omega))) ?_;intro v9 u9 l9 k9;obtain ⟨b9,a9,n9,c9,b9',a9',n9',c9',rfl⟩:=k9.opn;refine G.c call57 (Lf k9 (k8.mono l9) (hd2.mono (by omega)) (hbt.mono (by omega))) ?_;intro v10 u10 l10 k10;rw [← hstep] at k10;obtain ⟨bx,ax,nx',cx,bx',ax',nx'',cx',rfl⟩:=k10.opn;refine G.i i ?_;exact G.b (hJ (i+1,(bx,ax,nx',cx),(bx',ax',nx'',cx')) _ _ _ cv ((((l6.trans l7).trans l8).trans l9).trans l10) ⟨by dsimp only; omega,k10,rfl⟩ (by dsimp only; omega))
 ·obtain rfl:i=P.length+1:=by omega
  refine G.lF ((P.length+1:Nat):Int) ((P.length+1:Nat):Int) ?_;rw [List.take_of_length_le (by omega),hfin] at k6;exact G.r (.agg #[.bool sb,.slice sa sn sc,.bool sb',.slice sa' sn' sc']) ⟨rfl,k6⟩
end
end Go.Proofs.YtanfagpabkdmiaaGreatDoor
