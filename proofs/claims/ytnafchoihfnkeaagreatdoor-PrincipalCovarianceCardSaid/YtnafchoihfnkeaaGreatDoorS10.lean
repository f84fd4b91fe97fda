/- Parts of one proof, joined by a program. -/
import Derived.Test.YtnafchoihfnkeaaGreatDoorS09
set_option linter.defProp false
set_option linter.unusedVariables false
set_option linter.unusedSimpArgs false
set_option linter.unusedSectionVars false
set_option maxHeartbeats 16000000
namespace Go.Proofs.YtnafchoihfnkeaaGreatDoor
open Go.Proofs.Tryz
open Go.RowKit Go.MapKept
def Axq:=@Rat.natCast_add
def A0a:=@Rat.mul_eq_zero
def Ay4:=@Rat.le_refl
def A0i:=@Rat.mul_nonneg
def Aw8:=@List.length_filter_le
def Azv:=@Rat.mul_pos
def A09:=@List.filter_cons_of_neg
def A1a:=@List.filter_cons_of_pos
section
variable {F:CF}{N b sz:Nat}{es:List Value}{v:Value}
def Asj (u m:PH)(v:Value)(F:CF)(N:Nat):Prop :=
 ∃ b a n c b' a' n' c' g1 g2 o1 o2,v=.agg #[.bool b,.slice a n c,.bool b',.slice a' n' c',.map (some g1),.map (some g2)]/\QP u (.agg #[.bool b,.slice a n c,.bool b',.slice a' n' c']) F.c/\(u g1=some o1\/m g1=some o1)/\(u g2=some o2\/m g2=some o2)/\Dh A3 KT u o1 F.s N/\Dh prV KO u o2 F.t N
def Ip.i {u m:PH}(h:Ip m u v F N):Asj u m v F N:=by
 obtain⟨b,a,n,c,b',d,C,c',g1,g2,E,H,e,g,j,rfl,t,z⟩:=h;exact⟨b,a,n,c,b',d,C,c',g1,g2,E,H,e,g,.inr (by rw[Ac _ _ j,Ab]),.inr (Ab _ _ _),t,z⟩
section
variable {P:Program} [A7 P] {fn:Func} {Post:Bz} {st:List KI×S} {u m:PH}
def G.appendMV (e:TypeId)(sz d:Nat)(z:Value)(m0:PH)(es xs:List Value)(v:Value)(a:Option Addr)(n c:Nat)(h:Al P (adv P st)=.app (some (e,sz,d,z)) true [v,.slice a n c])(T:z.cells.toList.all Bh=true)(E:z.cells.size=sz)(t:0<sz)
 (g:Ae m0 m v e sz es) (H:n=xs.length) (R:xs≠[]->∃ b off,a=some ⟨b,off,none⟩/\Ex m b off sz xs) (Q:Ax sz xs) (O:(es.length+xs.length)*d<=140737488355328) (j:es.length+xs.length<=9223372036854775807)
 (k:∀ J I,Ae m0 I J e sz (es++xs)->G P fn Post (nx (adv P st) J) u I):G P fn Post st u m:=by
 cases xs with
 |nil =>
  subst H;obtain⟨K,L,rfl⟩:=g.shape;refine G.append0 e sz d z K a es.length L c h g.cap ?_;exact k _ _ (by rw[Auu];exact g)
 |cons x xs =>
  obtain⟨b,off,rfl,C⟩:=R mV;subst H;exact G.appendM e sz d z m0 es (x::xs) v b off _ c h T E t g C Q rfl mV O j k
end
def Ae.els {m0 m:PH}{t:TypeId}{b n c:Nat}(h:Ae m0 m (.slice (some ⟨b,0,none⟩) n c) t sz es):Ex m b 0 sz es:=fun j e d=>h.el d
def Ex.drop {m:PH}(h:Ex m b 0 sz es)(k:Nat):Ex m b (0+k*sz) sz (es.drop k):=fun j e d=>by
 have:=h (k+j) e (by rw[Axm]at d;exact d);rw[At2,Aud]at this;rw[Aud];exact this
def Ahq (l:List (Par×Rat)):Ax 3 (l.map Bj):=fun e d=>by
 obtain⟨p,_,rfl⟩:=Ate.1 d;exact Abx p _ mV
def Ak5 (l:List ((Par×Par)×Rat)):Ax 5 (l.map Dy):=fun e d=>by
 obtain⟨p,_,rfl⟩:=Ate.1 d;exact Afw p _ mV
def Py {q:Rat}:q.num=0↔q=0:=Axp
def Ahx {u m:PH}(h:Asj u m v F N)(sF:CFS F)(hN:N<=1000000) :
 FnK prog 34 [v] u m fun r u'=>Ar1 u' r F N:=by
 obtain⟨b,a,n,c,b',a',n',c',g1,g2,o1,o2,rfl,hF,bg,bh,s1,s2⟩:=h;obtain⟨l1,⟨a2,C,rfl,au,ak⟩,bj,am,bz⟩:=s1.at;obtain⟨l2,⟨a3,z,rfl,av,al⟩,bk,an,ae⟩:=s2.at;have b9:(l1.map (·.1)).Nodup:=Eo.nodup (enc:=A3) ⟨a2,C,rfl,au,ak⟩;have ba:(l2.map (·.1)).Nodup:=Eo.nodup (enc:=prV) ⟨a3,z,rfl,av,al⟩;have ao:∀ {u' m':PH},PH.le u u'->PH.le m m'->u' g1=some (.map a2 C)\/m' g1=some (.map a2 C):=fun a b=>bg.elim (fun e=>.inl (a _ _ e)) (fun e=>.inr (b _ _ e));have ap:∀ {u' m':PH},PH.le u u'->PH.le m m'->u' g2=some (.map a3 z)\/m' g2=some (.map a3 z):=fun a b=>bh.elim (fun e=>.inl (a _ _ e)) (fun e=>.inr (b _ _ e));refine FnK.of func34 kV kV<|G.c call18 (O1 hF (SB.tx sF.c)) ?_;rintro v1 u1 bc rfl;refine G.nF 0 0<|G.mapRange g1 a2 C 110 57 kV (ao bc (fun _ _ h=>h)) ?_;intro it bi bx;have ab:∀ o,PH.le m (m.upd it o):=fun o=>K5 o bi;refine G.l (ι:=List MapEntry×List (Par×Value)×List (Par×Rat)×(Option Addr×Nat)) (fun i=>[(1,.p 0 0),(2,.p 1 0),(6,.p 2002 0),(33,.v (.pointer (some ⟨it,0,none⟩)))])
  (fun i=>[(0,⟨92,[bV b,sV a n c,bV b',sV a' n' c',.v (.map (some g1)),.v (.map (some g2))]⟩),(1,⟨38,[tV [],sV none 0 0,sV none 0 0]⟩),(2002,⟨38,[tV (Ap F.c),sV i.2.2.2.1 i.2.2.1.length i.2.2.2.2,sV none 0 0]⟩)])
  (fun i u' m'=>E9 A3 a2 l1 i.1 i.2.1/\Ow Bd F.s (i.2.1.map (·.1)) i.2.2.1/\i.2.2.1.length<=i.2.1.length/\Ae (m.upd it (.mapIter (some g1) C (Ar i.1) C)) m' (.slice i.2.2.2.1 i.2.2.1.length i.2.2.2.2) 116 3 (i.2.2.1.map Bj))
  (fun i=>l1.length-i.2.1.length) ([],[],[],(none,0))
  ⟨E9.nil _ _,Ow.nil,Atb _,Ae.nil _ _ _⟩ ?_
 rintro J ⟨D,L,S,⟨T,O⟩⟩ hJ u2 m2 a1 ⟨hS,hI,aq,hA⟩;simp only at hS hI aq hA hJ;have K:=bc.trans a1;have ar:m2 it=some (.mapIter (some g1) C (Ar D) C):=hA.see (Ab _ _ _);have ac:PH.le m m2:=fun g o Y=>hA.see (ab _ g o Y);refine G.mapNextL Dq.inj it g1 a2 C l1 D L kV kV ar (ao K ac) ak au b9 hS ?done1 ?next1
 case next1 =>
  rintro⟨k,xv⟩ e hp hkn he hek hev hS';simp only at hkn hek hev;have hx:=(bj _ hp).1;simp only at hx;obtain⟨yb,ya,yn,yc,bt,bv,bu,rfl,_⟩:=hx.opn;have U:=hA.base (b:=it) (o:=.mapIter (some g1) C (Ar (D++[e])) C) (by rw[Ab];simp);rw[Dz]at U;have ad:PH.le m (m2.upd it (.mapIter (some g1) C (Ar (D++[e])) C)):=fun g o Y=>U.see (ab _ g o Y);refine G.mapEntry it g1 a2 C D e kV (Ab _ _ _) (ao K ad) ak he ?_;rw[hek,hev];have a4:=hS'.len;simp only[Atg,Auh,Av1]at a4;have aj:=sF.s k;refine G.c call85 (Ud (hx.mono K) (by have:=(SB.sz aj).1;omega)) ?_;rintro v3 u3 l3 rfl;by_cases h0:F.s k=0
  ·rw[decide_eq_true (Py.2 h0)];refine G.b (hJ (D++[e],L++[(k,_)],S,(T,O)) _ _ _ cV (a1.trans l3) ⟨hS',by dsimp only;rw[Atk];exact hI.skip h0,by dsimp only;simp;omega,U⟩ (by have:=hS'.len;simp at this;dsimp only;simp;omega))
  rw[decide_eq_false (fun e=>h0 (Py.1 e))];refine G.c call18 (O1 (hx.mono (K.trans l3)) (SB.tx aj)) ?_;rintro v4 u4 l4 rfl;refine G.nF 0 0 ?_;have E:=U;generalize bl:m2.upd it (.mapIter (some g1) C (Ar (D++[e])) C)=m3 at E ad;have b4:k∉L.map (·.1):=hkn;refine G.l (ι:=Nat) (fun n=>[(1,.p 0 0),(2,.p 1 0),(6,.p 2002 0),(7,.p 7003 0),(11,.p 12003 0),(12,iV n),(33,.v (.pointer (some ⟨it,0,none⟩)))])
   (fun _=>[(0,⟨92,[bV b,sV a n c,bV b',sV a' n' c',.v (.map (some g1)),.v (.map (some g2))]⟩),(1,⟨38,[tV [],sV none 0 0,sV none 0 0]⟩),(2002,⟨38,[tV (Ap F.c),sV T S.length O,sV none 0 0]⟩),(7003,⟨110,[iV k.1,tV k.2]⟩),(12003,⟨116,[iV k.1,tV k.2,tV (Ap (F.s k))]⟩)])
   (fun n u' m'=>n<=S.length/\(∀ j x,j<n->S[j]?=some x->Bd x.1 k<0)/\m'=m3) (fun n=>S.length-n) 0 ⟨oV,fun j x hj=>oV,rfl⟩ ?_
  rintro J2 d ay u5 m5 l5 ⟨ae,Z,rfl⟩;have bp:=((K.trans l3).trans l4).trans l5;refine G.joinF (ι:=Unit) (fun st=>Ac6 prog st [.bool false]) (fun _=>[(1,.p 0 0),(2,.p 1 0),(6,.p 2002 0),(11,.p 12003 0),(12,iV d),(33,.v (.pointer (some ⟨it,0,none⟩)))])
   (fun _=>[(0,⟨92,[bV b,sV a n c,bV b',sV a' n' c',.v (.map (some g1)),.v (.map (some g2))]⟩),(1,⟨38,[tV [],sV none 0 0,sV none 0 0]⟩),(2002,⟨38,[tV (Ap F.c),sV T S.length O,sV none 0 0]⟩),(12003,⟨116,[iV k.1,tV k.2,tV (Ap (F.s k))]⟩)])
   (fun _ u' m'=>m'=m5/\∀ x,S[d]?=some x->¬ Bd x.1 k<0) (fun _=>kV) kV ?tail ?way
  case way =>
   intro R;by_cases a7:d<S.length
   ·refine G.lT d S.length ?_;obtain⟨x,a5⟩:∃ x,S[d]?=some x:=⟨_,As5 a7⟩;obtain⟨gs,cs,Q⟩:=E.ptr (fun e=>by
     have:S.length=0:=by simpa using congrArg List.length e
     omega)
    simp only[Value.slice.injEq]at Q;obtain⟨rfl,_,rfl⟩:=Q;refine G.a gs 0 S.length O d 3 a7<|G.f 116 gs (0+d*3) 0 0 ?_;have b2:ElP m5 gs (0+d*3) (Bj x):=E.el (by rw[Aty,a5];rfl);refine G.lM (some 2) gs (0+d*3+0) (.agg #[.int .i64 x.1.1,.string (mkS x.1.2)]) (b2.sub (k:=0) fun i y H=>by
     match i,H with
     |0,H=>simpa[Bj,Value.cells] using H
     |1,H=>simpa[Bj,Value.cells] using H
     |i+2,H=>simp[Value.cells]at H) ?_
    by_cases hc:Bd x.1 k<0
    ·refine G.c call86 (F0 x.1 k true (decide_eq_true hc)) ?_;rintro v6 u6 l6 rfl;refine G.i d ?_;exact G.b (ay (d+1) _ _ _ cV (l5.trans l6) ⟨oV,fun j y hj H=>by
      rcases (by omega:j<d\/j=d) with e|rfl
      ·exact Z j y e H
      rw[a5]at H;cases H;exact hc,rfl⟩ oV)
    refine G.c call86 (F0 x.1 k false (decide_eq_false hc)) ?_;rintro v6 u6 l6 rfl;exact R () _ _ _ kV cV l6 ⟨rfl,fun y H=>by rw[a5]at H;cases H;exact hc⟩
   refine G.lF d S.length ?_;exact R () _ _ _ kV cV (PH.le_refl _) ⟨rfl,fun y H=>by rw[Att oV]at H;cases H⟩
  rintro _ u6 m6 l6 ⟨rfl,a6⟩;have ah:=E.cap;refine G.sliceTo 3 T S.length O d kV oV<|G.sliceFromG T S.length O d 3 kV ae ah<|G.buildM 116 3 40 (.agg #[.int .i64 0,.string (mkS []),.string (mkS [])]) [.agg #[.int .i64 k.1,.string (mkS k.2),.string (mkS (Ap (F.s k)))]] kV (Abx (k,F.s k)) rfl oV mV mV ?_;intro gt m7 af;refine G.appendMV 116 3 40 (.agg #[.int .i64 0,.string (mkS []),.string (mkS [])]) m6 [.agg #[.int .i64 k.1,.string (mkS k.2),.string (mkS (Ap (F.s k)))]] ((S.drop d).map Bj) (.slice (some ⟨gt,0,none⟩) 1 1) (if O=d then T else T.map (·.add (d*3))) (S.length-d) (O-d) kV rfl rfl oV af mV (fun b5=>?_) (Ahq _) gV gV ?_
  ·have a7:d<S.length:=by
    rcases At8 d S.length with h|h
    ·exact h
    exact absurd (by rw[Aue h];rfl) b5
   obtain⟨gs,cs,Q⟩:=E.ptr (fun e=>by
    have:S.length=0:=by simpa using congrArg List.length e
    omega)
   simp only[Value.slice.injEq]at Q;obtain⟨rfl,_,rfl⟩:=Q;refine⟨gs,0+d*3,?_,?_⟩
   ·rw[if_neg oV];simp[Dt]
   have:=E.els.drop d;rw[<-List.map_drop]at this;exact fun j e hj i y H=>by
    obtain⟨cs,t,fr,q1,q2⟩:=this j e hj i y H;exact⟨cs,t,fr,af.le _ _ q1,q2⟩
  intro v8 m8 V;obtain⟨a8,c8,rfl⟩:=V.ptr mV;have ax:=E.take (k:=d) (by rw[Ata];exact ae);obtain⟨mx,bn,bm,ai⟩:=At.swap (x:=⟨.slice T d O,116,3,(S.map Bj).take d⟩) (y:=⟨.slice (some ⟨a8,0,none⟩) _ c8,116,3,_⟩) V ax;refine G.appendM 116 3 40 (.agg #[.int .i64 0,.string (mkS []),.string (mkS [])]) mx ((S.map Bj).take d) _ (.slice T d O) a8 0 _ c8 kV rfl rfl oV bm V.els V.1 rfl mV gV gV ?_;intro v9 m9 aw;obtain⟨mz,am,an⟩:=ai ⟨v9,116,3,_⟩ m9 aw;have b3:(S.map Bj).take d++([.agg #[.int .i64 k.1,.string (mkS k.2),.string (mkS (Ap (F.s k)))]]++(S.drop d).map Bj)=(S.take d++[(k,F.s k)]++S.drop d).map Bj:=by
   rw[Atk,Atk,Ayy,Au1];rfl
  have a0:Ae (m.upd it (.mapIter (some g1) C (Ar (D++[e])) C)) mz v9 116 3 ((S.take d++[(k,F.s k)]++S.drop d).map Bj):=by rw[<-b3];exact an
  obtain⟨a9,c9,rfl⟩:=a0.shape;rw[Ata]at a0⊢;have az:(S.take d++[(k,F.s k)]++S.drop d).length=S.length+1:=gV;refine G.drop mz kV (fun g o Y=>Ae.le am g o Y)<|G.b (hJ (D++[e],L++[(k,_)],S.take d++[(k,F.s k)]++S.drop d,(a9,c9)) _ _ _ cV ((((a1.trans l3).trans l4).trans l5).trans l6) ⟨hS',?_,by dsimp only;rw[az];simp;omega,a0⟩ (by have:=hS'.len;simp at this;dsimp only;simp;omega));dsimp only;rw[Atk];exact hI.put Fr h0 b4 Z a6
 case done1 =>
 intro aa;have ag:Can Bd F.s S:=hI.can fun k hk=>am k fun hm=>hk (by
  obtain⟨p,hp,rfl⟩:=Ate.1 hm;exact Ate.2 ⟨p,aa p hp,rfl⟩)
 have b7:S.length<=N:=by have:=hS.len;omega
 refine G.give _ _ _ kV hA (fun g=>?_) ?_
 ·cases Y:m g with
  |none=>exact .inl Y
  |some o=>exact .inr (by rw[ab _ g o Y];simp)
 intro u3 l3 hX;refine G.drop m kV (ab _) ?_;have be:=K.trans l3;clear hJ hA hI aq ar ac hS aa
 revert S T O
 intro X xa xc ag b7 hX;refine G.mapRange g2 a3 z 162 57 kV (ap be (fun _ _ h=>h)) ?_;intro I b8 bw;have W:∀ o,PH.le m (m.upd I o):=fun o=>K5 o b8;refine G.l (ι:=List MapEntry×List ((Par×Par)×Value)×List ((Par×Par)×Rat)×(Option Addr×Nat)) (fun i=>[(1,.p 0 0),(2,.p 1 0),(6,.p 2002 0),(85,.v (.pointer (some ⟨I,0,none⟩)))])
  (fun i=>[(0,⟨92,[bV b,sV a n c,bV b',sV a' n' c',.v (.map (some g1)),.v (.map (some g2))]⟩),(1,⟨38,[tV [],sV none 0 0,sV none 0 0]⟩),(2002,⟨38,[tV (Ap F.c),sV xa X.length xc,sV i.2.2.2.1 i.2.2.1.length i.2.2.2.2]⟩)])
  (fun i u' m'=>E9 prV a3 l2 i.1 i.2.1/\Ow Lw F.t (i.2.1.map (·.1)) i.2.2.1/\i.2.2.1.length<=i.2.1.length/\Ae (m.upd I (.mapIter (some g2) z (Ar i.1) z)) m' (.slice i.2.2.2.1 i.2.2.1.length i.2.2.2.2) 168 5 (i.2.2.1.map Dy))
  (fun i=>l2.length-i.2.1.length) ([],[],[],(none,0))
  ⟨E9.nil _ _,Ow.nil,Atb _,Ae.nil _ _ _⟩ ?_
 rintro J ⟨D,L,S,⟨T,O⟩⟩ hJ u2 m2 a1 ⟨hS,hI,aq,hA⟩;simp only at hS hI aq hA hJ;have K:=be.trans a1;have ar:m2 I=some (.mapIter (some g2) z (Ar D) z):=hA.see (Ab _ _ _);have ac:PH.le m m2:=fun g o Y=>hA.see (W _ g o Y);refine G.mapNextL Hj.inj I g2 a3 z l2 D L kV kV ar (ap K ac) al av ba hS ?done2 ?next2
 case next2 =>
  rintro⟨k,xv⟩ e hp hkn he hek hev hS';simp only at hkn hek hev;have hx:=(bk _ hp).1;simp only at hx;obtain⟨yb,ya,yn,yc,bt,bv,bu,rfl,_⟩:=hx.opn;have U:=hA.base (b:=I) (o:=.mapIter (some g2) z (Ar (D++[e])) z) (by rw[Ab];simp);rw[Dz]at U;have ad:PH.le m (m2.upd I (.mapIter (some g2) z (Ar (D++[e])) z)):=fun g o Y=>U.see (W _ g o Y);refine G.mapEntry I g2 a3 z D e kV (Ab _ _ _) (ap K ad) al he ?_;rw[hek,hev];have a4:=hS'.len;simp only[Atg,Auh,Av1]at a4;have aj:=sF.t k;refine G.c call85 (Ud (hx.mono K) (by have:=(SB.sz aj).1;omega)) ?_;rintro v3 u3 l3 rfl;by_cases h0:F.t k=0
  ·rw[decide_eq_true (Py.2 h0)];refine G.b (hJ (D++[e],L++[(k,_)],S,(T,O)) _ _ _ cV (a1.trans l3) ⟨hS',by dsimp only;rw[Atk];exact hI.skip h0,by dsimp only;simp;omega,U⟩ (by have:=hS'.len;simp at this;dsimp only;simp;omega))
  rw[decide_eq_false (fun e=>h0 (Py.1 e))];refine G.c call18 (O1 (hx.mono (K.trans l3)) (SB.tx aj)) ?_;rintro v4 u4 l4 rfl;refine G.nF 0 0<|G.pub 19003 162 [.int .i64 k.1.1,.string (mkS k.1.2),.int .i64 k.2.1,.string (mkS k.2.2)] kV kV ?_;intro bq c0 b6;have b0:(m.upd I (.mapIter (some g2) z (Ar (D++[e])) z)) bq=none:=by
   cases hh:(m.upd I (.mapIter (some g2) z (Ar (D++[e])) z)) bq with
   |none=>rfl
   |some o=>rw[U.see hh]at b6;cases b6
  have E:=U.fresh (o:=.cells [Value.int .i64 k.1.1,.string (mkS k.1.2),.int .i64 k.2.1,.string (mkS k.2.2)].toArray 162 (0,0)) b6;obtain⟨br,bs⟩:=Ae1 (m:=(m2.upd I (.mapIter (some g2) z (Ar (D++[e])) z)).upd bq (.cells [Value.int .i64 k.1.1,.string (mkS k.1.2),.int .i64 k.2.1,.string (mkS k.2.2)].toArray 162 (0,0))) (Ab _ _ _);refine G.addrA 162 110 2 bq 0 0 2 kV kV kV kV oV<|G.lM (some 2) bq (0+0*2) (.agg #[.int .i64 k.1.1,.string (mkS k.1.2)]) br<|G.addrA 162 110 2 bq 0 1 2 kV kV kV kV oV<|G.lM (some 2) bq (0+1*2) (.agg #[.int .i64 k.2.1,.string (mkS k.2.2)]) bs ?_;generalize bl:(m2.upd I (.mapIter (some g2) z (Ar (D++[e])) z)).upd bq (.cells [Value.int .i64 k.1.1,.string (mkS k.1.2),.int .i64 k.2.1,.string (mkS k.2.2)].toArray 162 (0,0))=m3 at E;have b4:k∉L.map (·.1):=hkn;refine G.l (ι:=Nat) (fun n=>[(1,.p 0 0),(2,.p 1 0),(6,.p 2002 0),(17,.p 24006 0),(18,iV n),(85,.v (.pointer (some ⟨I,0,none⟩)))])
   (fun _=>[(0,⟨92,[bV b,sV a n c,bV b',sV a' n' c',.v (.map (some g1)),.v (.map (some g2))]⟩),(1,⟨38,[tV [],sV none 0 0,sV none 0 0]⟩),(2002,⟨38,[tV (Ap F.c),sV xa X.length xc,sV T S.length O]⟩),(24006,⟨168,[iV k.1.1,tV k.1.2,iV k.2.1,tV k.2.2,tV (Ap (F.t k))]⟩)])
   (fun n u' m'=>n<=S.length/\(∀ j x,j<n->S[j]?=some x->Lw x.1 k<0)/\m'=m3) (fun n=>S.length-n) 0 ⟨oV,fun j x hj=>oV,rfl⟩ ?_
  rintro J2 d ay u5 m5 l5 ⟨ae,Z,rfl⟩;have bp:=((K.trans l3).trans l4).trans l5;refine G.joinF (ι:=Unit) (fun st=>Ac6 prog st [.bool false]) (fun _=>[(1,.p 0 0),(2,.p 1 0),(6,.p 2002 0),(17,.p 24006 0),(18,iV d),(85,.v (.pointer (some ⟨I,0,none⟩)))])
   (fun _=>[(0,⟨92,[bV b,sV a n c,bV b',sV a' n' c',.v (.map (some g1)),.v (.map (some g2))]⟩),(1,⟨38,[tV [],sV none 0 0,sV none 0 0]⟩),(2002,⟨38,[tV (Ap F.c),sV xa X.length xc,sV T S.length O]⟩),(24006,⟨168,[iV k.1.1,tV k.1.2,iV k.2.1,tV k.2.2,tV (Ap (F.t k))]⟩)])
   (fun _ u' m'=>m'=m5/\∀ x,S[d]?=some x->¬ Lw x.1 k<0) (fun _=>kV) kV ?tail2 ?way2
  case way2 =>
   intro R;by_cases a7:d<S.length
   ·refine G.lT d S.length ?_;obtain⟨x,a5⟩:∃ x,S[d]?=some x:=⟨_,As5 a7⟩;obtain⟨gs,cs,Q⟩:=E.ptr (fun e=>by
     have:S.length=0:=by simpa using congrArg List.length e
     omega)
    simp only[Value.slice.injEq]at Q;obtain⟨rfl,_,rfl⟩:=Q;refine G.a gs 0 S.length O d 5 a7 ?_;have b2:ElP m5 gs (0+d*5) (Dy x):=E.el (by rw[Aty,a5];rfl);refine G.lM (some 5) gs (0+d*5) (Dy x) b2 ?_;by_cases hc:Lw x.1 k<0
    ·refine G.c call87 (Nw x (k,F.t k) true (decide_eq_true hc)) ?_;rintro v6 u6 l6 rfl;refine G.i d ?_;exact G.b (ay (d+1) _ _ _ cV (l5.trans l6) ⟨oV,fun j y hj H=>by
      rcases (by omega:j<d\/j=d) with e|rfl
      ·exact Z j y e H
      rw[a5]at H;cases H;exact hc,rfl⟩ oV)
    refine G.c call87 (Nw x (k,F.t k) false (decide_eq_false hc)) ?_;rintro v6 u6 l6 rfl;exact R () _ _ _ kV cV l6 ⟨rfl,fun y H=>by rw[a5]at H;cases H;exact hc⟩
   refine G.lF d S.length ?_;exact R () _ _ _ kV cV (PH.le_refl _) ⟨rfl,fun y H=>by rw[Att oV]at H;cases H⟩
  rintro _ u6 m6 l6 ⟨rfl,a6⟩;have ah:=E.cap;refine G.sliceTo 5 T S.length O d kV oV<|G.sliceFromG T S.length O d 5 kV ae ah<|G.buildM 168 5 64 (.agg #[.int .i64 0,.string (mkS []),.int .i64 0,.string (mkS []),.string (mkS [])]) [.agg #[.int .i64 k.1.1,.string (mkS k.1.2),.int .i64 k.2.1,.string (mkS k.2.2),.string (mkS (Ap (F.t k)))]] kV (Afw (k,F.t k)) rfl oV mV mV ?_;intro gt m7 af;refine G.appendMV 168 5 64 (.agg #[.int .i64 0,.string (mkS []),.int .i64 0,.string (mkS []),.string (mkS [])]) m6 [.agg #[.int .i64 k.1.1,.string (mkS k.1.2),.int .i64 k.2.1,.string (mkS k.2.2),.string (mkS (Ap (F.t k)))]] ((S.drop d).map Dy) (.slice (some ⟨gt,0,none⟩) 1 1) (if O=d then T else T.map (·.add (d*5))) (S.length-d) (O-d) kV rfl rfl oV af mV (fun b5=>?_) (Ak5 _) gV gV ?_
  ·have a7:d<S.length:=by
    rcases At8 d S.length with h|h
    ·exact h
    exact absurd (by rw[Aue h];rfl) b5
   obtain⟨gs,cs,Q⟩:=E.ptr (fun e=>by
    have:S.length=0:=by simpa using congrArg List.length e
    omega)
   simp only[Value.slice.injEq]at Q;obtain⟨rfl,_,rfl⟩:=Q;refine⟨gs,0+d*5,?_,?_⟩
   ·rw[if_neg oV];simp[Dt]
   have:=E.els.drop d;rw[<-List.map_drop]at this;exact fun j e hj i y H=>by
    obtain⟨cs,t,fr,q1,q2⟩:=this j e hj i y H;exact⟨cs,t,fr,af.le _ _ q1,q2⟩
  intro v8 m8 V;obtain⟨a8,c8,rfl⟩:=V.ptr mV;have ax:=E.take (k:=d) (by rw[Ata];exact ae);obtain⟨mx,bn,bb,ai⟩:=At.swap (x:=⟨.slice T d O,168,5,(S.map Dy).take d⟩) (y:=⟨.slice (some ⟨a8,0,none⟩) _ c8,168,5,_⟩) V ax;refine G.appendM 168 5 64 (.agg #[.int .i64 0,.string (mkS []),.int .i64 0,.string (mkS []),.string (mkS [])]) mx ((S.map Dy).take d) _ (.slice T d O) a8 0 _ c8 kV rfl rfl oV bb V.els V.1 rfl mV gV gV ?_;intro v9 m9 aw;obtain⟨mz,am,an⟩:=ai ⟨v9,168,5,_⟩ m9 aw;have b3:(S.map Dy).take d++([.agg #[.int .i64 k.1.1,.string (mkS k.1.2),.int .i64 k.2.1,.string (mkS k.2.2),.string (mkS (Ap (F.t k)))]]++(S.drop d).map Dy)=(S.take d++[(k,F.t k)]++S.drop d).map Dy:=by
   rw[Atk,Atk,Ayy,Au1];rfl
  have bo:Ae ((m.upd I (.mapIter (some g2) z (Ar (D++[e])) z)).upd bq (.cells [Value.int .i64 k.1.1,.string (mkS k.1.2),.int .i64 k.2.1,.string (mkS k.2.2)].toArray 162 (0,0))) mz v9 168 5 ((S.take d++[(k,F.t k)]++S.drop d).map Dy):=by rw[<-b3];exact an
  have a0:=bo.del (l:=bq) (by rw[Ab];simp);rw[Yz b0]at a0;obtain⟨a9,c9,rfl⟩:=a0.shape;rw[Ata]at a0⊢;have az:(S.take d++[(k,F.t k)]++S.drop d).length=S.length+1:=gV;refine G.drop (mz.del bq) kV (fun g o Y=>Ae.le am g o (Arm _ _ g o Y))<|G.b (hJ (D++[e],L++[(k,_)],S.take d++[(k,F.t k)]++S.drop d,(a9,c9)) _ _ _ cV ((((a1.trans l3).trans l4).trans l5).trans l6) ⟨hS',?_,by dsimp only;rw[az];simp;omega,a0⟩ (by have:=hS'.len;simp at this;dsimp only;simp;omega));dsimp only;rw[Atk];exact hI.put Ap3 h0 b4 Z a6
 case done2 =>
 intro aa;have b1:Can Lw F.t S:=hI.can fun k hk=>an k fun hm=>hk (by
  obtain⟨p,hp,rfl⟩:=Ate.1 hm;exact Ate.2 ⟨p,aa p hp,rfl⟩)
 have bf:S.length<=N:=by have:=hS.len;omega
 refine G.give _ _ _ kV hA (fun g=>?_) ?_
 ·cases Y:m g with
  |none=>exact .inl Y
  |some o=>exact .inr (by rw[W _ g o Y];simp)
 intro u4 l4 hY;exact G.drop m kV (W _)<|G.r (.tuple #[.agg #[.string (mkS (Ap F.c)),.slice xa X.length xc,.slice T S.length O],.int .i64 0]) ⟨rfl,_,rfl,X,S,xa,xc,T,O,rfl,hX.mono (a1.trans l4),hY,ag,b1,b7,bf⟩
end
section
variable {F:List Aq}{a i:Nat}{f:Aq}{z:Int}
def Alb (F:List Aq)(a:Nat)(z:Int)(i:Nat)(fe:Int)(dr ho:Bool):Prop :=
 (∃ k f,k<i/\F[k]?=some f/\f.1=a/\fe=(k:Int)/\dr=decide (f.2.2=1)/\ho=decide (f.2.1=2))\/((∀ k f,k<i->F[k]?=some f->f.1≠a)/\fe=z/\dr=true/\ho=false)
theorem Zw (q:Rat):q+0=q:=by grind
theorem Ahh {m:Int}{j n:Bool}(h:Alb F a z i m j n)(C:F[i]?=some f)(v:f.1≠a):Alb F a z (i+1) m j n:=by
 rcases h with ⟨k,g,t,d,u⟩|⟨t,d⟩
 ·exact .inl ⟨k,g,oV,d,u⟩
 refine .inr ⟨fun k g H E=>?_,d⟩;rcases (by omega:k<i\/k=i) with e|rfl
 ·grind
 grind
def All (e:F[i]?=some f)(d:f.1=a):Alb F a z (i+1) (i:Int) (decide (f.2.2=1)) (decide (f.2.1=2)) :=
 .inl ⟨i,f,oV,e,d,rfl,rfl,rfl⟩
theorem Ao9 {T:List (List UInt8×Nat)}{F:List Aq}{lab:Int}{a:Nat}{z:Int}{x:List UInt8×Nat}{t:List UInt8}{j:Int}{J u:Bool}(hF:Ef T F lab)(W:-1<=lab)(l2:∀ l:Nat,lab=(l:Int)->∃ n,T[l]?=some (n,2))
 (E:T[a]?=some x) (L:Rb x.2 t) (P:((a:Int)=lab/\z = -1)\/((a:Int)≠lab/\z = -2)) (h:Alb F a z F.length j J u) :
 (j = -2/\Ge F lab a t=some none)\/(j≠-2/\((u=true/\Ge F lab a t=some (some ((j,t),1)))\/(u=false/\t = []/\Ge F lab a t=(if J then none else some none))\/(u=false/\t≠[]/\SmW (Ss t)/\Ap (Ss t)=t/\Ge F lab a t=some (some ((j,[]),Ss t))))):=by
 rcases h with ⟨k,f,U,v,rfl,rfl,rfl,rfl⟩|⟨O,rfl,rfl,rfl⟩
 ·obtain⟨n,V,hT,d,C⟩:=hF.ok f (Ato v);rw[Xm hF.nodup v C];rw[hT]at E;cases E;refine .inr ⟨oV,?_⟩;unfold Jr;rcases d with ⟨N,rfl,Q⟩|⟨N,rfl,Q⟩
  ·rw[N,if_neg oV];by_cases g:t = []
   ·grind
   obtain⟨H,I⟩:=K3 L g;exact .inr (.inr ⟨rfl,g,H,I,by rw[if_neg g]⟩)
  grind
 rcases P with ⟨m,rfl⟩|⟨m,rfl⟩
 ·refine .inr ⟨oV,.inr ?_⟩;obtain⟨n,K⟩:=l2 a m.symm;rw[E]at K;cases K;have e:Ge F lab a t=Rp t:=by unfold Ge;rw[if_pos m]
  rw[e];unfold Rp;by_cases g:t = []
  ·grind
  obtain⟨H,I⟩:=K3 L g;exact .inr ⟨rfl,g,H,I,by rw[if_neg g]⟩
 rcases Gj (F:=F) (w:=t) m with e|⟨i,f,v,R,_⟩
 ·grind
 grind
def Af7 {g1 g2:Nat}(d:g1≠g2)(j m g h:Obj):(((PH.mt.upd g1 j).upd g2 m).upd g1 g).upd g2 h=(PH.mt.upd g1 g).upd g2 h:=by
 rw[Jb _ _ _ (fun e=>d e.symm),Dz,Dz]
def Adh {u:PH}{v:Value}{T:List (List UInt8×Nat)}{R:List Ch}{lab:Int}{x:List UInt8×Nat}{t:List UInt8}(h:In u v T R F lab)(ok:By u T R F lab)(hx:T[a]?=some x)(hv:Rb x.2 t) :
 Aj prog 84 [v,.int .i64 a,.string (mkS t)] u PH.mt fun v' u' m'=>Ip m' u' v' (Ge F lab a t).cf 1:=by
 have ae:=ok.f2;have l1:=ok.l1;have t2:=ok.t2;have ad:a<T.length:=(Atc.1 hx).1;obtain⟨pa,ca,pb,cb,pe,ce,rfl,hT,hR,hF⟩:=h;refine Aj.o func84<|G.joinF (ι:=Int) (fun st=>Ac6 prog st [.bool false]) (fun z=>[(1,iV a),(2,tV t),(3,.p 0 0),(6,.p 1 0),(7,iV z),(8,bV true),(9,bV false)])
  (fun _=>[(0,⟨30,[sV pa T.length ca,sV pb R.length cb,sV pe F.length ce,iV lab]⟩),(1,⟨92,[bV false,sV none 0 0,bV false,sV none 0 0,.v (.map none),.v (.map none)]⟩)])
  (fun z u' m'=>u'=u/\m'=PH.mt/\(((a:Int)=lab/\z = -1)\/((a:Int)≠lab/\z = -2))) (fun _=>kV) kV ?tail ?way
 case way =>
  intro K;by_cases hl:(a:Int)=lab
  ·refine G.eT' a lab hl<|G.pastI ?_;exact K (-1) _ _ _ kV cV (PH.le_refl _) ⟨rfl,rfl,.inl ⟨hl,rfl⟩⟩
  refine G.eF' a lab hl ?_;exact K (-2) _ _ _ kV cV (PH.le_refl _) ⟨rfl,rfl,.inr ⟨hl,rfl⟩⟩
 rintro z _ _ _ ⟨rfl,rfl,hz⟩;refine G.l (ι:=Nat×Int×Bool×Bool) (fun i=>[(1,iV a),(2,tV t),(6,.p 1 0),(7,iV i.2.1),(8,bV i.2.2.1),(9,bV i.2.2.2),(20,sV pe F.length ce),(21,iV F.length),(22,iV i.1)])
  (fun _=>[(1,⟨92,[bV false,sV none 0 0,bV false,sV none 0 0,.v (.map none),.v (.map none)]⟩)])
  (fun i u' m'=>i.1<=F.length/\m'=PH.mt/\Alb F a z i.1 i.2.1 i.2.2.1 i.2.2.2) (fun i=>F.length-i.1) (0,z,true,false) ⟨oV,rfl,.inr ⟨fun k f hk=>by dsimp only at hk;omega,rfl,rfl,rfl⟩⟩ ?_
 rintro J ⟨i,d,dr,ho⟩ Y u2 m2 l2 ⟨hi,rfl,hI⟩;simp only at hi hI Y;by_cases a0:i<F.length
 ·refine G.lT i F.length ?_;obtain⟨f,P⟩:∃ f,F[i]?=some f:=⟨_,As5 a0⟩;obtain⟨fb,fo,rfl,ef⟩:=Ad.at' (hF.mono l2) (j:=i) (e:=Ce f) (by simp[P]);obtain⟨Z,W,p3⟩:=f;refine G.a fb fo F.length ce i 3 a0<|G.lU (some 3) fb (fo+i*3) (.agg #[.int .i64 Z,.int .i64 W,.int .i64 p3]) ef ?_;by_cases hp:(Z:Int)=(a:Int)
  ·refine G.eT' Z a hp ?_;have N:=All (z:=z) P (show Z=a by omega);simp only at N;by_cases h3:p3=1
   ·refine G.eT p3 1 ?_;by_cases h2:W=2
    ·refine G.eT W 2<|G.i i ?_;rw[decide_eq_true h3,decide_eq_true h2]at N;exact G.b (Y (i+1,(i:Int),true,true) _ _ _ cV l2 ⟨dV,rfl,N⟩ dV)
    refine G.eF W 2<|G.i i ?_;rw[decide_eq_true h3,decide_eq_false h2]at N;exact G.b (Y (i+1,(i:Int),true,false) _ _ _ cV l2 ⟨dV,rfl,N⟩ dV)
   refine G.eF p3 1 ?_;by_cases h2:W=2
   ·refine G.eT W 2<|G.i i ?_;rw[decide_eq_false h3,decide_eq_true h2]at N;exact G.b (Y (i+1,(i:Int),false,true) _ _ _ cV l2 ⟨dV,rfl,N⟩ dV)
   refine G.eF W 2<|G.i i ?_;rw[decide_eq_false h3,decide_eq_false h2]at N;exact G.b (Y (i+1,(i:Int),false,false) _ _ _ cV l2 ⟨dV,rfl,N⟩ dV)
  exact G.eF' Z a hp<|G.i i<|G.b (Y (i+1,d,dr,ho) _ _ _ cV l2 ⟨dV,rfl,Ahh hI P (show ¬ Z=a by omega)⟩ dV)
 obtain rfl:i=F.length:=oV;refine G.lF F.length F.length ?_;have n0:(⟨((0:Int):Rat),fun _=>0,fun _=>0⟩:CF)=CF.num 0:=by rw[show ((0:Int):Rat)=0 by decide +kernel];rfl
 have n1:(⟨((1:Int):Rat),fun _=>0,fun _=>0⟩:CF)=CF.num 1:=by rw[show ((1:Int):Rat)=1 by decide +kernel];rfl
 rcases Ao9 ok.feat l1 ok.l2 hx hv hz hI with ⟨rfl,e⟩|⟨a7,hc⟩
 ·rw[e];refine G.eT' (-2) (-2) rfl<|G.callO _ _ kV call30 (H2 (n:=1) oV oV) ?_;intro v3 u3 m3 l3 Q _;obtain⟨b,E,n,c,b',C,I,c',g1,g2,rfl⟩:=Lo Q;rw[C3];exact G.r (.agg #[.bool b,.slice E n c,.bool b',.slice C I c',.map (some g1),.map (some g2)]) (Q.congr n1 oV)
 refine G.eF' d (-2) a7<|G.callO _ _ kV call30 (H2 (n:=1) oV oV) ?_;intro v3 u3 m3 l3 Q _;rw[C3];rcases hc with ⟨rfl,e⟩|⟨rfl,ht,e⟩|⟨rfl,ht,X,q2,e⟩
 ·rw[e];obtain⟨b,E,n,c,b',C,I,c',g1,g2,o1,o2,rfl,k1,m,rfl,s1,s2⟩:=Q;have H:A5 (d,t) (d,t)=((d,t),(d,t)):=Fv (by rw[Fr.refl];omega);refine G.c call14 (Uo (z:=1) oV oV) ?_;intro v4 u4 O L;rw[show ((1:Int):Rat)=1 by decide +kernel]at L;obtain⟨b4,a4,n4,c4,a2,a8,a3,rfl,_⟩:=L.opn;refine G.callG _ _ kV kV call81 (g:=g1) (o:=o1) (by rw[Ac _ _ m,Ab])
   (Mf (a:=(d,t)) (g2:=some g2) (y1:=b) (y2:=(E,n,c)) (y3:=b') (y4:=(C,I,c')) (s1.mono O) L P0.sb SB.zero (by rw[Zw];exact P0.sb)) ?_
  intro v5 u5 a9 U k5;refine G.c call14 (Uo (z:=1) oV oV) ?_;intro v6 u6 V k6;rw[show ((1:Int):Rat)=1 by decide +kernel]at k6;obtain⟨b6,a6,n6,c6,ab,af,ac,rfl,_⟩:=k6.opn;refine G.callG _ _ kV kV call82 (g:=g2) (o:=o2) (by rw[Ac _ _ m.symm,Ab])
   (Gr (p:=(d,t)) (r:=(d,t)) (g1:=some g1) (y1:=b) (y2:=(E,n,c)) (y3:=b') (y4:=(C,I,c')) (((s2.mono O).mono U).mono V) k6 P0.sb (by rw[H];exact SB.zero) (by rw[H,Zw];exact P0.sb)) ?_
  intro v7 u7 aa l7 k7;rw[Af7 m];rw[H]at k7;exact G.r (.agg #[.bool b,.slice E n c,.bool b',.slice C I c',.map (some g1),.map (some g2)]) ⟨b,E,n,c,b',C,I,c',g1,g2,_,_,rfl,(((k1.mono O).mono U).mono V).mono l7,m,rfl,((k5.mono V).mono l7).congr fun k=>by rw[Zw];rfl,k7.congr fun k=>by
   rw[Zw];show (if k=((d,t),(d,t)) then (1:Rat) else 0)=if k=((d,t),(d,t)) then (1:Rat)*1 else 0
   rw[show (1:Rat)*1=1 by decide +kernel]⟩
 ·obtain⟨b,E,n,c,b',C,I,c',g1,g2,rfl⟩:=Lo Q;refine G.q t [] ht ?_;rw[e];cases dr with
  |true =>
   refine G.drop PH.mt kV (PH.mt_le _)<|G.callO _ _ kV call30 (H2 (n:=0) oV oV) ?_;intro v4 u4 m4 O L _;obtain⟨b,E,n,c,b',C,I,c',g1,g2,rfl⟩:=Lo L;rw[C3];exact G.r (.agg #[.bool b,.slice E n c,.bool b',.slice C I c',.map (some g1),.map (some g2)]) (L.congr n0 oV)
  |false =>
   exact G.r (.agg #[.bool b,.slice E n c,.bool b',.slice C I c',.map (some g1),.map (some g2)]) (Q.congr n1 oV)
 rw[e];obtain⟨b,E,n,c,b',C,I,c',g1,g2,o1,o2,rfl,k1,m,rfl,s1,s2⟩:=Q;refine G.w t [] ht ?_;have H:A5 (d,[]) (d,[])=((d,[]),(d,[])):=Fv (by rw[Fr.refl];omega);have a1:=T4 (u:=u3) (q:=Ss t) (SB.tx X.sb);rw[q2]at a1;refine G.c call17 a1 ?_;intro v4 u4 O L;obtain⟨b4,a4,n4,c4,a2,a8,a3,rfl,_⟩:=L.opn;refine G.callG _ _ kV kV call81 (g:=g1) (o:=o1) (by rw[Ac _ _ m,Ab])
  (Mf (a:=(d,[])) (g2:=some g2) (y1:=b) (y2:=(E,n,c)) (y3:=b') (y4:=(C,I,c')) (s1.mono O) L X.sb SB.zero (by rw[Zw];exact X.sb)) ?_
 intro v5 u5 a9 U k5;refine G.c call80 (Gz (L.mono U) (L.mono U) (SB.ten X.sb) (SB.ten X.sb)) ?_;intro v6 u6 V k6;refine G.callG _ _ kV kV call82 (g:=g2) (o:=o2) (by rw[Ac _ _ m.symm,Ab])
  (Gr (p:=(d,[])) (r:=(d,[])) (g1:=some g1) (y1:=b) (y2:=(E,n,c)) (y3:=b') (y4:=(C,I,c')) (((s2.mono O).mono U).mono V) k6 X.sb2 (by rw[H];exact SB.zero) (by rw[H,Zw];exact X.sb2)) ?_
 intro v7 u7 aa l7 k7;rw[Af7 m];rw[H]at k7;exact G.r (.agg #[.bool b,.slice E n c,.bool b',.slice C I c',.map (some g1),.map (some g2)]) ⟨b,E,n,c,b',C,I,c',g1,g2,_,_,rfl,(((k1.mono O).mono U).mono V).mono l7,m,rfl,((k5.mono V).mono l7).congr fun k=>by rw[Zw];rfl,k7.congr fun k=>by rw[Zw];rfl⟩
end
section
variable {u:PH}
def Ip.all {f:FuncId}{args:List Value}{F:CF}{N:Nat}(c:Aj prog f args u PH.mt fun v d g=>Ip g d v F N):Fn0 prog f args u fun v d=>Oo d v F N:=by
 refine Fn0.weak c.giveAll ?_;rintro v d ⟨j,h,e,l2,k⟩;exact k.give e l2
def Oo.up {u:PH}{v:Value}{F:CF}{N M:Nat}(h:Oo u v F N)(d:N<=M):Oo u v F M:=by
 obtain⟨b,a,n,c,b',g,E,c',g1,g2,H,I,e,j,m,t,z,C⟩:=h;exact⟨b,a,n,c,b',g,E,c',g1,g2,H,I,e,j,m,t,z.up d,C.up d⟩
def Aja {v tv:Value}{T:List (List UInt8×Nat)}{R:List Ch}{F:List Aq}{lab:Int}{d:List (List UInt8)}(h:Ahw u v tv T R F lab d)(ag:d.length<=8) :
 Fn0 prog 33 [v,tv] u fun r u'=>Oo u' r (cfT F lab d) 255/\CFS (cfT F lab d):=by
 have hX:=h.sch;obtain⟨⟨xa,xc,xb,xd,xe,xf,rfl,ah,af,ad⟩,ok,Y,hT⟩:=h;obtain⟨ya,yc,rfl⟩:=Y.opn;rw[Ata]at Y⊢;have j:=Mj ok hT;have a3:=hT.len;obtain⟨L,I⟩:∃ L,L=E4 F lab d:=⟨_,rfl⟩;have Z:cfT F lab d=G4 (CF.num 1) L:=by rw[I];rfl
 rw[Z];rw[<-I]at j;have ae:L.length=d.length:=by rw[I];exact Gl
 refine Fn0.o func33<|G.c call30 (Ip.all (H2 (n:=1) oV oV)) ?_;intro v2 u2 l2 k2;have n1:(⟨((1:Int):Rat),fun _=>0,fun _=>0⟩:CF)=CF.num 1:=by rw[show ((1:Int):Rat)=1 by decide +kernel];rfl
 rw[n1]at k2;obtain⟨b,a,n,c,b',K,n',c',g1,g2,rfl⟩:=O0 k2;refine G.l (ι:=Nat×(Bool×SlI)×(Bool×SlI)×Nat×Nat) (fun i=>[(2,.p 0 0),(4,.p 1 0),(5,.p 1001 0),(9,sV ya d.length yc),(10,iV d.length),(11,iV i.1)])
  (fun i=>[(0,⟨30,[sV xa T.length xc,sV xb R.length xd,sV xe F.length xf,iV lab]⟩),(1,⟨92,[bV false,sV none 0 0,bV false,sV none 0 0,.v (.map none),.v (.map none)]⟩),(1001,⟨92,[bV i.2.1.1,sV i.2.1.2.1 i.2.1.2.2.1 i.2.1.2.2.2,bV i.2.2.1.1,sV i.2.2.1.2.1 i.2.2.1.2.2.1 i.2.2.1.2.2.2,.v (.map (some i.2.2.2.1)),.v (.map (some i.2.2.2.2))]⟩)])
  (fun i u' m'=>i.1<=d.length/\Oo u' (.agg #[.bool i.2.1.1,.slice i.2.1.2.1 i.2.1.2.2.1 i.2.1.2.2.2,.bool i.2.2.1.1,.slice i.2.2.1.2.1 i.2.2.1.2.2.1 i.2.2.1.2.2.2,.map (some i.2.2.2.1),.map (some i.2.2.2.2)]) (G4 (CF.num 1) (L.take i.1)) (2^i.1-1)/\m'=PH.mt)
  (fun i=>d.length-i.1) (0,(b,a,n,c),(b',K,n',c'),g1,g2) ⟨oV,k2,rfl⟩ ?_
 rintro J ⟨i,⟨b,a,n,c⟩,⟨b',K,n',c'⟩,g1,g2⟩ hJ u3 m3 l3 ⟨hi,H,rfl⟩;simp only at hi H hJ;have t:=l2.trans l3;by_cases g:i<d.length
 ·refine G.lT i d.length ?_;obtain⟨bb,off,rfl,e⟩:=Afd (Y.mono t) g;refine G.a bb off d.length yc i 1 g<|G.lU none bb (off+i*1) (.string (mkS (d.getD i []))) e ?_;have E:d.getD i []=d[i]:=by simp[As7,As5 g]
  have C:T[i]?=some T[i]:=As5 oV;have z:L[i]?=some (Ge F lab i (d.getD i [])):=by rw[I,E];exact Ib (As5 g)
  have X:(Ge F lab i (d.getD i [])).Small:=j _ (Ato z);have hv:=hT.val i _ _ C (As5 g);rw[<-E]at hv;refine G.c call84 (Ip.all (Adh (hX.mono t) (ok.mono t) C hv)) ?_;intro v4 u4 l4 k4;obtain⟨b4,a4,n4,c4,a7,a6,ai,a8,aa,ab,rfl⟩:=O0 k4;have W:2^i<=2^7:=Atq oV oV;have ac:1<=2^i:=Nat.one_le_two_pow;obtain⟨Q,a9⟩:=Pj j i oV;have m:G4 (CF.num 1) (L.take (i+1))=(G4 (CF.num 1) (L.take i)).mul (Ge F lab i (d.getD i [])).cf:=by
   rw[At0,z];exact Ws _ _ _
  refine G.c call83 (Ip.all (Ak1 (H.mono l4) k4 (Ar6 Q X.cfd oV (Ar9 oV) (Nat.pos_of_ne_zero mV) oV))) ?_;intro v5 u5 l5 k5;obtain⟨b5,a5,n5,c5,O,N,a2,P,U,V,rfl⟩:=O0 k5;refine G.i i ?_;rw[<-m]at k5;exact G.b (hJ (i+1,(b5,a5,n5,c5),(O,N,a2,P),U,V) _ _ _ cV ((l3.trans l4).trans l5) ⟨dV,k5.up (by dsimp only;rw[Auc];omega),rfl⟩ dV)
 obtain rfl:i=d.length:=oV;refine G.lF d.length d.length ?_;have a1:L.take d.length=L:=by rw[Atp oV]
 have a0:CFS (G4 (CF.num 1) L):=by
  obtain⟨q1,_⟩:=Pj j L.length (Atb _);rw[At9]at q1;exact q1.cfs oV (As3 oV)
 rw[a1]at H;have W:2^d.length<=2^8:=Atq oV oV;exact G.r (.agg #[.bool b,.slice a n c,.bool b',.slice K n' c',.map (some g1),.map (some g2)]) ⟨rfl,H.up oV,a0⟩
end
section
variable {u:PH}
def Qg {p:Par}(h:PV p):Fn0 prog 105 [A3 p] u fun v _=>v=.bool true:=by
 refine Fn0.o func105<|G.hT' p.1 (-1) (by have:=h.lo;omega) ?_;by_cases d:p.2 = []
 ·exact G.q p.2 [] d<|G.r (.bool true) ⟨rfl,rfl⟩
 refine G.w p.2 [] d<|G.c call78 (Pl (h.cat.resolve_left d)) ?_;rintro j g e rfl;exact G.r (.bool true) ⟨rfl,rfl⟩
def ElP.par {b off:Nat}{x:Par×Rat}(h:ElP u b off (Bj x)):ElP u b (off+0) (.agg #[.int .i64 x.1.1,.string (mkS x.1.2)]):=h.sub fun i y d=>by
 match i,d with
 |0,d=>simpa[Bj,Value.cells] using d
 |1,d=>simpa[Bj,Value.cells] using d
 |i+2,d=>simp[Value.cells]at d
def Ac3 {v:Value}{F:CF}{K:Nat}(h:Lp u v F K)(sF:CFS F)(vF:CFV F)(hK:K<=1000000):Fn0 prog 44 [v] u fun r _=>r=.bool true:=by
 obtain⟨T,Q,a1,U,a2,V,rfl,hT,hQ,cT,cQ,kT,kQ⟩:=h;refine Fn0.o func44<|G.c call59 (H0 (SB.tx sF.c)) ?_;rintro v1 u1 l1 rfl;refine G.l (ι:=Nat) (fun i=>[(1,.p 0 0),(12,sV a1 T.length U),(13,iV T.length),(14,iV i)])
  (fun _=>[(0,⟨38,[tV (Ap F.c),sV a1 T.length U,sV a2 Q.length V]⟩)])
  (fun i u' m'=>i<=T.length/\m'=PH.mt) (fun i=>T.length-i) 0 ⟨oV,rfl⟩ ?_
 rintro J i R u2 m2 l2 ⟨hi,rfl⟩;have P:=l1.trans l2;by_cases g:i<T.length
 ·refine G.lT i T.length ?_;obtain⟨x,I⟩:∃ x,T[i]?=some x:=⟨_,As5 g⟩;have m:=Ato I;obtain⟨d,n⟩:=cT.val _ m;obtain⟨C,E,rfl,ea⟩:=Ad.at' (hT.mono P) (j:=i) (e:=Bj x) (by simp[I]);have L:SB x.2:=by rw[d];exact sF.s _
  have a5:PV x.1:=vF.s x.1 (by rw[<-d];exact n);refine G.a C E T.length U i 3 g<|G.lU (some 3) C (E+i*3) (.agg #[.int .i64 x.1.1,.string (mkS x.1.2),.string (mkS (Ap x.2))]) ea<|G.c call105 (Qg a5) ?_;rintro v3 u3 N rfl;refine G.c call59 (H0 (SB.tx L)) ?_;rintro v4 u4 O rfl;refine G.w (Ap x.2) [48] (To n) ?_;by_cases h0:i=0
  ·subst h0;exact G.gF (0:Nat) 0<|G.p (0:Nat) 1 (0+1:Nat)<|G.b (R (0+1) _ _ _ cV ((l2.trans N).trans O) ⟨oV,rfl⟩ oV)
  refine G.gT i 0<|G.s i 1 (i-1:Nat) ?_;obtain⟨y,X⟩:∃ y,T[i-1]?=some y:=⟨_,As5 oV⟩;have z:Bd y.1 x.1<0:=by
   have hp:=cT.srt;obtain⟨h1,rfl⟩:=Atc.1 I;obtain⟨h2,rfl⟩:=Atc.1 X;have:=Avr.1 hp (i-1) i (by rw[Ata];omega) (by rw[Ata];omega) oV;rw[Awp,Awp]at this;exact this
  obtain⟨bb,ob,e1,eb⟩:=Ad.at' (hT.mono ((P.trans N).trans O)) (j:=i-1) (e:=Bj y) (by simp[X]);cases e1;refine G.a C E T.length U (i-1) 3 oV<|G.f 116 C (E+(i-1)*3) 0 0<|G.lU (some 2) C (E+(i-1)*3+0) (.agg #[.int .i64 y.1.1,.string (mkS y.1.2)]) eb.par<|G.c call86 (F0 y.1 x.1 true (decide_eq_true z)) ?_;rintro v5 u5 Z rfl;exact G.i i<|G.b (R (i+1) _ _ _ cV (((l2.trans N).trans O).trans Z) ⟨oV,rfl⟩ oV)
 obtain rfl:i=T.length:=oV;refine G.lF T.length T.length ?_;clear R;refine G.l (ι:=Nat) (fun i=>[(1,.p 0 0),(53,sV a2 Q.length V),(54,iV Q.length),(55,iV i)])
  (fun _=>[(0,⟨38,[tV (Ap F.c),sV a1 T.length U,sV a2 Q.length V]⟩)])
  (fun i u' m'=>i<=Q.length/\m'=PH.mt) (fun i=>Q.length-i) 0 ⟨oV,rfl⟩ ?_
 rintro J i R u3 m3 N ⟨hi,rfl⟩;have a0:=P.trans N;by_cases g:i<Q.length
 ·refine G.lT i Q.length ?_;obtain⟨x,H⟩:∃ x,Q[i]?=some x:=⟨_,As5 g⟩;have m:=Ato H;obtain⟨d,n⟩:=cQ.val _ m;obtain⟨C,E,rfl,ea⟩:=Ad.at' (hQ.mono a0) (j:=i) (e:=Dy x) (by simp[H]);have L:SB x.2:=by rw[d];exact sF.t _
  obtain⟨a3,a4,Y⟩:=vF.t x.1 (by rw[<-d];exact n);refine G.a C E Q.length V i 5 g<|G.lU (some 5) C (E+i*5) (.agg #[.int .i64 x.1.1.1,.string (mkS x.1.1.2),.int .i64 x.1.2.1,.string (mkS x.1.2.2),.string (mkS (Ap x.2))]) ea<|G.c call105 (Qg a3) ?_;rintro v3 u4 O rfl;refine G.c call105 (Qg a4) ?_;rintro v4 u5 Z rfl;refine G.c call86 (F0 x.1.2 x.1.1 false (decide_eq_false fun e=>Y ((Fr.sym _ _).1 e))) ?_;rintro v5 u6 l6 rfl;refine G.c call59 (H0 (SB.tx L)) ?_;rintro v6 u7 l7 rfl;refine G.w (Ap x.2) [48] (To n) ?_;by_cases h0:i=0
  ·subst h0;exact G.gF (0:Nat) 0<|G.p (0:Nat) 1 (0+1:Nat)<|G.b (R (0+1) _ _ _ cV ((((N.trans O).trans Z).trans l6).trans l7) ⟨oV,rfl⟩ oV)
  refine G.gT i 0<|G.s i 1 (i-1:Nat) ?_;obtain⟨y,W⟩:∃ y,Q[i-1]?=some y:=⟨_,As5 oV⟩;have z:Lw y.1 x.1<0:=by
   have hp:=cQ.srt;obtain⟨h1,rfl⟩:=Atc.1 H;obtain⟨h2,rfl⟩:=Atc.1 W;have:=Avr.1 hp (i-1) i (by rw[Ata];omega) (by rw[Ata];omega) oV;rw[Awp,Awp]at this;exact this
  obtain⟨bb,ob,e1,eb⟩:=Ad.at' (hQ.mono ((((a0.trans O).trans Z).trans l6).trans l7)) (j:=i-1) (e:=Dy y) (by simp[W]);cases e1;refine G.a C E Q.length V (i-1) 5 oV<|G.lU (some 5) C (E+(i-1)*5) (Dy y) eb<|G.c call87 (Nw y x true (decide_eq_true z)) ?_;rintro v5 u8 l8 rfl;exact G.i i<|G.b (R (i+1) _ _ _ cV (((((N.trans O).trans Z).trans l6).trans l7).trans l8) ⟨oV,rfl⟩ oV)
 obtain rfl:i=Q.length:=oV;exact G.lF Q.length Q.length<|G.r (.bool true) ⟨rfl,rfl⟩
end
theorem Src.h0or (s:Src)(k d:Nat)(j:PH)(g:Nat):s.M k g=none\/(j.or (s.M d)) g≠none:=by
 rcases s.h0 k d g with e|e
 ·grind
 right;intro h;cases hx:j g with
 |some o=>rw[PH.or_l hx]at h;cases h
 |none=>rw[PH.or_r hx]at h;exact e h
def Anl {m:PH}{a b c d:Arr}(h:Bag m [a,b,c,d]):Bag m [a,c,d]:=by
 have e:Bag m [a,c,d,b]:=Bag.perm (List.Perm.cons a ((List.Perm.swap c b [d]).trans (List.Perm.cons c (List.Perm.swap d b [])))) h;obtain⟨g,t,j,u,n,v,_⟩:=e;exact⟨g,t,j,u,n,v,trivial⟩
def Aq1 {x:Int}(h:x∈[1,2,2,(3:Int)]):∃ n:Nat,x=(n:Int)/\1<=n/\n<=3:=by
 simp at h;rcases h with rfl|rfl|rfl
 ·exact⟨1,rfl,oV,oV⟩
 ·exact⟨2,rfl,oV,oV⟩
 exact⟨3,rfl,oV,oV⟩
def Acg {u:PH}{s:Src}{ts:List Int}{k:Nat}(most:Nat)(f2:1<=most)(dy:most<=6)(h:Lc u s ts)(hk:k<=s.n) :
 Aj prog 23 [s.ptr,.int .i64 most] u (s.M k) fun v u' m'=>∃ (T:List (List UInt8×Nat)) (R:List Ch) (F:List Aq) (lab:Int) (k':Nat),In u' v T R F lab/\By u' T R F lab/\T.length<=6/\k'<=s.n/\m'=s.M k'/\TOK T/\T.length<=most/\F.length<=most:=by
 refine Aj.o func23<|G.A call74 (Ag6 (lo:=1) (hi:=3) (n:=3) h hk oV oV oV oV oV) ?_;rintro v1 u1 m1 l1 ⟨r,k1,rfl,hr,dw,rfl⟩ _;rw[C3];obtain⟨n,hn⟩:∃ n:Nat,(1:Int)+(r:Int)=(n:Int):=⟨1+r,oV⟩;rw[hn];refine G.l (ι:=Nat×Nat×List (List UInt8×Nat)×(Option Addr×Nat)×List Ch×(Option Addr×Nat)) (fun i=>[(0,.v s.ptr),(1,iV most),(4,.p 0 0),(5,.p 1001 0),(6,iV n),(7,iV i.1)])
  (fun i=>[(0,⟨30,[sV none 0 0,sV none 0 0,sV none 0 0,iV 0]⟩),(1001,⟨30,[sV i.2.2.2.1.1 i.2.2.1.length i.2.2.2.1.2,sV i.2.2.2.2.2.1 i.2.2.2.2.1.length i.2.2.2.2.2.2,sV none 0 0,iV (-1)]⟩)])
  (fun i u' m'=>i.1<=n/\i.2.1<=s.n/\TOM most i.2.2.1/\ROK u' i.2.2.1.length i.2.2.2.2.1/\i.2.2.2.2.1.length=i.1/\(0<i.1->0<i.2.2.1.length)/\Bag m' [s.arr i.2.1,Xx i.2.2.2.1.1 i.2.2.2.1.2 i.2.2.1,Vw i.2.2.2.2.2.1 i.2.2.2.2.2.2 i.2.2.2.2.1])
  (fun i=>n-i.1) (0,k1,[],(none,0),[],(none,0))
  ⟨Atu _,dw,TOM.nil most,ROK.nil,rfl,fun h=>absurd h mV,s.bag0 k1 ⟨PH.mt,Ae.nil _ _ _,PH.mt,Ae.nil _ _ _,trivial⟩⟩ ?_
 rintro J ⟨i,k2,T,⟨ta,tc⟩,R,⟨ra,rc⟩⟩ hJ u2 m2 l2 ⟨hi,ch,hT,hR,cw,h0,b4⟩;simp only at hi ch hT hR cw h0 b4 hJ;subst cw;have bv:=l1.trans l2;have du:=hT.le;by_cases f1:R.length<n
 ·refine G.lT R.length n<|G.l (ι:=Nat×Nat×List Nat×(Option Addr×Nat)) (fun i=>[(0,.v s.ptr),(1,iV most),(4,.p 0 0),(5,.p 1001 0),(6,iV n),(7,iV R.length),(8,sV i.2.2.2.1 i.2.2.1.length i.2.2.2.2),(23,iV T.length),(24,iV i.1)])
   (fun i=>[(0,⟨30,[sV none 0 0,sV none 0 0,sV none 0 0,iV 0]⟩),(1001,⟨30,[sV ta T.length tc,sV ra R.length rc,sV none 0 0,iV (-1)]⟩)])
   (fun i u' m'=>i.1<=T.length/\i.2.1<=s.n/\LOK i.2.2.1 i.1/\Bag m' [s.arr i.2.1,Aad i.2.2.2.1 i.2.2.2.2 i.2.2.1,Xx ta tc T,Vw ra rc R])
   (fun i=>T.length-i.1) (0,k2,[],(none,0))
   ⟨Atu _,ch,LOK.nil,by obtain⟨m0,e4,hL⟩:=b4;exact⟨m0,e4,m0,Ae.nil _ _ _,hL⟩⟩ ?_
  rintro J1 ⟨j,k3,l,⟨la,lc⟩⟩ P u3 m3 l3 ⟨hj,a0,hl,ag⟩;simp only at hj a0 hl ag P;have f0:=hl.len;by_cases ex:j<T.length
  ·refine G.lT j T.length ?_;obtain⟨n4,ai,ce⟩:=ag;obtain⟨rfl,b5⟩:=Src.split ai;refine G.D call26 (Src.apart b5) (Jw (n:=3) (h.mono (bv.trans l3)) a0 oV oV) ?_;rintro v4 u4 m4 l4 ⟨r4,k4,rfl,e0,bp,rfl⟩ _;have d:Bag _ [s.arr k4,Aad la lc l,Xx ta tc T,Vw ra rc R]:=⟨_,Src.at b5,ce⟩;by_cases d5:r4=0
   ·refine G.eT r4 0<|G.B 3 1 8 (.int .i64 0) [.int .i64 j] (Az [j]) ?_;intro g6 u6 l6 e6;obtain⟨co,bc,ah⟩:=d.focus 1 rfl;rw[Yd]at bc;refine G.append 3 1 8 (.int .i64 0) co (Ah l) [.int .i64 j] (.slice la l.length lc) g6 0 1 1 kV rfl rfl oV bc e6 (Az [j]) rfl oV (by simp[Ah];omega) (by simp[Ah];omega) ?_;intro w6 cp a8;rw[Cr]at a8;obtain⟨a6,c6,rfl⟩:=a8.shape;rw[Ag]at a8⊢;have U:=ah (Aad a6 c6 (l++[j])) cp a8;simp only[Avi,Avj]at U;exact G.i j<|G.b (P (j+1,k4,l++[j],(a6,c6)) _ _ _ cV ((l3.trans l4).trans l6) ⟨dV,bp,hl.snoc,U⟩ dV)
   exact G.eF r4 0<|G.i j<|G.b (P (j+1,k4,l,(la,lc)) _ _ _ cV (l3.trans l4) ⟨dV,bp,hl.up,d⟩ dV)
  obtain rfl:j=T.length:=oV;refine G.lF T.length T.length ?_;obtain⟨n4,ai,ce⟩:=ag;obtain⟨rfl,b5⟩:=Src.split ai;refine G.D call26 (Src.apart b5) (Jw (n:=3) (h.mono (bv.trans l3)) a0 oV oV) ?_;rintro v4 u4 m4 l4 ⟨r4,k4,rfl,e0,bp,rfl⟩ _;have d:Bag _ [s.arr k4,Aad la lc l,Xx ta tc T,Vw ra rc R]:=⟨_,Src.at b5,ce⟩;refine G.l (ι:=Int×Nat×List Nat×(Option Addr×Nat)×List (List UInt8×Nat)×(Option Addr×Nat)) (fun i=>[(0,.v s.ptr),(1,iV most),(4,.p 0 0),(5,.p 1001 0),(6,iV n),(7,iV R.length),(8,sV i.2.2.2.1.1 i.2.2.1.length i.2.2.2.1.2),(10,iV i.1)])
   (fun i=>[(0,⟨30,[sV none 0 0,sV none 0 0,sV none 0 0,iV 0]⟩),(1001,⟨30,[sV i.2.2.2.2.2.1 i.2.2.2.2.1.length i.2.2.2.2.2.2,sV ra R.length rc,sV none 0 0,iV (-1)]⟩)])
   (fun i u' m'=>i.2.1<=s.n/\(i.2.2.1 = []->0<=i.1)/\-1<=i.1/\i.1<=2/\T.length<=i.2.2.2.2.1.length/\TOM most i.2.2.2.2.1/\LOK i.2.2.1 i.2.2.2.2.1.length/\(∀ a,T.length<=a->a<i.2.2.2.2.1.length->a∈i.2.2.1)/\Bag m' [s.arr i.2.1,Aad i.2.2.2.1.1 i.2.2.2.1.2 i.2.2.1,Xx i.2.2.2.2.2.1 i.2.2.2.2.2.2 i.2.2.2.2.1,Vw ra rc R])
   (fun i=>(i.1+1).toNat) ((r4:Int),k4,l,(la,lc),T,(ta,tc))
   ⟨bp,fun _=>dV,dV,dV,Atb _,hT,hl,fun a h1 h2=>by dsimp only at h2;omega,d⟩ ?_
  rintro J2 ⟨z,k5,C,⟨X,Y⟩,t,⟨bm,bn⟩⟩ cu u5 m5 cn ⟨a1,db,e5,e7,af,b3,b8,a2,m⟩;simp only at a1 db e5 e7 af b3 b8 a2 m cu;have et:=b3.le;have eu:=b8.len;have dc:=((bv.trans l3).trans l4).trans cn;have bw:=(l3.trans l4).trans cn;refine dite (0<z) (fun hz=>?zp) (fun hz=>?zn)
  case' zp =>
   refine G.gT z 0 ?_;refine dite (t.length<most) (fun b9=>?g1) (fun b9=>?l1)
  case' g1=>refine G.lT t.length most ?_
  case' l1 =>
   refine G.lF t.length most ?_;refine dite (C = []) (fun H=>?e1) (fun H=>?n1)
  case' n1=>have d4:0<t.length:=oV
  case' zn =>
   refine G.gF z 0 ?_;refine dite (C = []) (fun H=>?y2) (fun H=>?n2)
  case' y2 =>
   have f3:=db H;have d2:C.length=0:=by rw[H];rfl
   refine G.eT C.length 0 ?_;refine dite (t.length<most) (fun b9=>?g2) (fun b9=>?e2)
  case' g2=>refine G.lT t.length most ?_
  case' e2=>refine G.lF t.length most ?_
  case' n2 =>
   have d2:0<C.length:=Avq.2 H;refine G.eF C.length 0 ?_;have d4:0<t.length:=by
    obtain⟨x,hx⟩:=List.exists_mem_of_ne_nil _ H;have:=b8.lt x hx;omega
  case g1|g2 =>
   refine G.B 3 1 8 (.int .i64 0) [.int .i64 t.length] (Az [t.length]) ?_;intro dp f6 cm dk;obtain⟨dd,c0,br⟩:=m.focus 1 rfl;rw[Yd]at c0;refine G.append 3 1 8 (.int .i64 0) dd (Ah C) [.int .i64 t.length] (.slice X C.length Y) dp 0 1 1 kV rfl rfl oV c0 dk (Az [t.length]) rfl oV (by simp[Ah];omega) (by simp[Ah];omega) ?_;intro fb dg ap;rw[Cr]at ap;obtain⟨c4,c5,rfl⟩:=ap.shape;rw[Ag]at ap⊢;have an:=br (Aad c4 c5 (C++[t.length])) dg ap;simp only[Avi,Avj]at an;refine G.both [0,1,2,3,4,6] 5 7 [8,9,10,11,12,13] kV ?_ ?_;refine G.c call75 (O8 (p:=[97]) (i:=t.length) oV mV) ?_;rintro eo eh av rfl;refine G.B 3 1 8 (.int .i64 0) [.int .i64 1,.int .i64 2,.int .i64 2,.int .i64 3] (L4 [1,2,2,3]) ?_;intro dq ei bg c8;have c2:=(((dc).trans cm).trans av).trans bg;have c3:=av.trans bg;have bx:=c8.listP
   rotate_left
   refine G.B 3 1 8 (.int .i64 0) [.int .i64 1,.int .i64 2,.int .i64 2,.int .i64 3] (L4 [1,2,2,3]) ?_;intro dq ei bg c8;refine G.c call75 (O8 (p:=[97]) (i:=t.length) oV mV) ?_;rintro eo eh av rfl;have c2:=(((dc).trans cm).trans bg).trans av;have c3:=bg.trans av;have bx:=c8.listP.mono av;all_goals
    obtain⟨di,bu,cv⟩:=an;obtain⟨rfl,bz⟩:=Src.split bu;refine G.D call28 (Src.apart bz) (Aah (L:=[1,2,2,3]) (h.mono c2) a1 bx mV mV) ?_;rintro f9 f7 f4 e8 ⟨kd,bq,cj,rfl,cy,rfl⟩ _;obtain⟨kn,rfl,d0,d1⟩:=Aq1 bq;have bo:Bag (di.or (s.M cj)) [s.arr cj,Aad c4 c5 (C++[t.length]),Xx bm bn t,Vw ra rc R]:=⟨di,Src.at bz,cv⟩;refine G.B 77 2 24 (.agg #[.string (mkS []),.int .i64 0]) [.agg #[.string (mkS (nmA t.length)),.int .i64 kn]] (Aga (nmA t.length,kn)) ?_;intro dr f8 e9 dl;obtain⟨df,c1,bs⟩:=bo.focus 2 rfl;rw[Ano]at c1;refine G.append 77 2 24 (.agg #[.string (mkS []),.int .i64 0]) df (t.map Ej) [.agg #[.string (mkS (nmA t.length)),.int .i64 kn]] (.slice bm t.length bn) dr 0 1 1 kV rfl rfl oV c1 dl (Aga (nmA t.length,kn)) rfl oV (by simp[Ah];omega) (by simp[Ah];omega) ?_;intro fd dh aq;rw[show t.map Ej++[.agg #[.string (mkS (nmA t.length)),.int .i64 kn]]=(t++[(nmA t.length,kn)]).map Ej by rw[Atk];rfl]at aq;obtain⟨cr,cs,rfl⟩:=aq.shape;rw[Ata]at aq⊢;have ao:=bs (Xx cr cs (t++[(nmA t.length,kn)])) dh aq;simp only[Avi,Avj]at ao;refine G.s z 1 (z-1) ?_;exact G.b (cu (z-1,cj,C++[t.length],(c4,c5),t++[(nmA t.length,kn)],(cr,cs)) _ _ _ cV ((((cn.trans cm).trans c3).trans e8).trans e9) ⟨cy,fun e=>by simp at e,dV,dV,by dsimp only;rw[Atg];omega,b3.snocm d0 d1 oV dy,by dsimp only;rw[Atg];exact b8.snoc,fun a h1 h2=>by
     dsimp only at h2⊢;rw[Atg,Aux]at h2;rcases At8 a t.length with e|e
     ·exact Avn _ (a2 a h1 e)
     exact A1s _ (Aub.2 oV),ao⟩ dV)
  case e1|e2 =>
   subst H;refine G.eT' (([]:List Nat).length:Int) 0 mV<|G.B 3 1 8 (.int .i64 0) [.int .i64 (0:Nat)] (Az [0]) ?_;intro Z dj bh dm;have b7:Ad dj (.slice (some ⟨Z,0,none⟩) 1 1) 1 (Ah [0]):=dm.listP;have Q:=Anl m;refine G.c call75 (O8 (p:=[114]) (i:=R.length) oV mV) ?_;rintro ep ej ak rfl;refine G.B 155 2 40 (.agg #[.string (mkS []),.slice none 0 0]) [.agg #[.string (mkS (nmR R.length)),.slice (some ⟨Z,0,none⟩) 1 1]] (O2 (nmR R.length,[0],((some (⟨Z,0,none⟩:Addr)),1))) ?_;intro cd cq al ca;obtain⟨bj,ae,a7⟩:=Q.focus 2 rfl;rw[Afa]at ae;refine G.append 155 2 40 (.agg #[.string (mkS []),.slice none 0 0]) bj (R.map Gs) [.agg #[.string (mkS (nmR R.length)),.slice (some ⟨Z,0,none⟩) 1 1]] (.slice ra R.length rc) cd 0 1 1 kV rfl rfl oV ae ca (O2 (nmR R.length,[0],((some (⟨Z,0,none⟩:Addr)),1))) rfl oV (by simp[Ah];omega) (by simp[Ah];omega) ?_;intro es bl O;rw[show R.map Gs++[.agg #[.string (mkS (nmR R.length)),.slice (some ⟨Z,0,none⟩) 1 1]]=(R++[(nmR R.length,[0],((some (⟨Z,0,none⟩:Addr)),1))]).map Gs by rw[Atk];rfl]at O;obtain⟨ay,b0,rfl⟩:=O.shape;rw[Ata]at O⊢;have K:=a7 (Vw ay b0 (R++[(nmR R.length,[0],((some (⟨Z,0,none⟩:Addr)),1))])) bl O;simp only[Avi,Avj]at K;refine G.p R.length 1 (R.length+1:Nat) ?_;have b2:ROK cq t.length (R++[(nmR R.length,[0],((some (⟨Z,0,none⟩:Addr)),1))]):=by
    refine (hR.mono (bw |>.trans bh |>.trans ak |>.trans al)).snoc af (LOK.zero oV) mV (fun a h1 h2=>?_) (b7.mono (ak.trans al));exact absurd (a2 a h1 h2) mV
   exact G.b (hJ (R.length+1,k5,t,(bm,bn),R++[(nmR R.length,[0],((some (⟨Z,0,none⟩:Addr)),1))],(ay,b0)) _ _ _ cV (l2.trans (bw |>.trans bh |>.trans ak |>.trans al)) ⟨dV,a1,b3,b2,mV,fun _=>dV,K⟩ dV)
  case n1|n2 =>
   have ez:0<C.length:=Avq.2 H;refine G.eF C.length 0 ?_;obtain⟨mL,da,ci⟩:=m.take 1 rfl;have Q:Bag mL [s.arr k5,Xx bm bn t,Vw ra rc R]:=ci;rw[Yd]at da;refine G.give mL (Ah C) (.slice X C.length Y) kV da (fun g=>?_) ?_
   ·obtain⟨ed,d8,_⟩:=Q;obtain⟨rfl,_⟩:=Src.split d8;exact s.h0or k k5 ed g
   intro dj bh b7;refine G.c call75 (O8 (p:=[114]) (i:=R.length) oV mV) ?_;rintro ep ej ak rfl;refine G.B 155 2 40 (.agg #[.string (mkS []),.slice none 0 0]) [.agg #[.string (mkS (nmR R.length)),.slice X C.length Y]] (O2 (nmR R.length,C,(X,Y))) ?_;intro cd cq al ca;obtain⟨bj,ae,a7⟩:=Q.focus 2 rfl;rw[Afa]at ae;refine G.append 155 2 40 (.agg #[.string (mkS []),.slice none 0 0]) bj (R.map Gs) [.agg #[.string (mkS (nmR R.length)),.slice X C.length Y]] (.slice ra R.length rc) cd 0 1 1 kV rfl rfl oV ae ca (O2 (nmR R.length,C,(X,Y))) rfl oV (by simp[Ah];omega) (by simp[Ah];omega) ?_;intro es bl O;rw[show R.map Gs++[.agg #[.string (mkS (nmR R.length)),.slice X C.length Y]]=(R++[(nmR R.length,C,(X,Y))]).map Gs by rw[Atk];rfl]at O;obtain⟨ay,b0,rfl⟩:=O.shape;rw[Ata]at O⊢;have K:=a7 (Vw ay b0 (R++[(nmR R.length,C,(X,Y))])) bl O;simp only[Avi,Avj]at K;refine G.p R.length 1 (R.length+1:Nat) ?_;have b2:ROK cq t.length (R++[(nmR R.length,C,(X,Y))]):=by
    exact (hR.mono (bw |>.trans bh |>.trans ak |>.trans al)).snoc af b8 H a2 (b7.mono (ak.trans al))
   exact G.b (hJ (R.length+1,k5,t,(bm,bn),R++[(nmR R.length,C,(X,Y))],(ay,b0)) _ _ _ cV (l2.trans (bw |>.trans bh |>.trans ak |>.trans al)) ⟨dV,a1,b3,b2,mV,fun _=>dV,K⟩ dV)
 obtain rfl:R.length=n:=oV;refine G.lF R.length R.length ?_;have cg:=h0 oV;obtain⟨n0,d9,hL⟩:=b4;obtain⟨rfl,dv⟩:=Src.split d9;refine G.giveP (ma:=n0) (sm:=s.M k2) kV rfl (Src.apart dv) (s.h0 k k2) ?_;intro u3 l3 d3;have ct:Ad u3 (.slice ta T.length tc) 2 (T.map Ej):=hL.list d3 0 rfl;have dt:Ad u3 (.slice ra R.length rc) 2 (R.map Gs):=hL.list d3 1 rfl;refine G.l (ι:=Nat×Nat×List Aq×(Option Addr×Nat)×Int) (fun i=>[(0,.v s.ptr),(4,.p 0 0),(5,.p 1001 0),(86,sV ta T.length tc),(87,iV T.length),(88,iV i.1)])
  (fun i=>[(0,⟨30,[sV none 0 0,sV none 0 0,sV none 0 0,iV 0]⟩),(1001,⟨30,[sV ta T.length tc,sV ra R.length rc,sV i.2.2.2.1.1 i.2.2.1.length i.2.2.2.1.2,iV i.2.2.2.2]⟩)])
  (fun i u' m'=>i.1<=T.length/\i.2.1<=s.n/\FOK T i.2.2.1 i.2.2.2.2 i.1/\Bag m' [s.arr i.2.1,Tn i.2.2.2.1.1 i.2.2.2.1.2 i.2.2.1])
  (fun i=>T.length-i.1) (0,k2,[],(none,0),-1)
  ⟨Atu _,ch,FOK.nil,s.bag0 k2 ⟨PH.mt,Ae.nil _ _ _,trivial⟩⟩ ?_
 rintro J1 ⟨a,k3,F,⟨fa,fc⟩,lab⟩ P u4 m4 l4 ⟨ha,a0,hF,d⟩;simp only at ha a0 hF d P;have aw:=(bv.trans l3).trans l4;have ey:=hF.len;by_cases bb:a<T.length
 ·refine G.lT a T.length ?_;have au:T[a]?=some T[a]:=As5 bb;have bq:=hT.kd _ (Ath bb);obtain⟨ba,oa,rfl,ea⟩:=Ad.at' (ct.mono l4) (j:=a) (e:=Ej T[a]) (by simp[au]);generalize T[a]=x at au bq ea;obtain⟨nm,kd⟩:=x;simp only at bq;refine G.a ba oa T.length tc a 2 bb<|G.lU (some 2) ba (oa+a*2) (.agg #[.string (mkS nm),.int .i64 kd]) ea ?_;by_cases cx:kd=2
  ·subst cx;refine G.eT (2:Nat) 2 ?_;by_cases ew:lab<0
   ·refine G.lT lab 0 ?_;obtain⟨n5,W,ar⟩:=d;obtain⟨rfl,ab⟩:=Src.split W;refine G.D call26 (Src.apart ab) (Jw (n:=2) (h.mono aw) a0 oV oV) ?_;rintro v5 u5 m5 C ⟨r5,k5,rfl,e3,a1,rfl⟩ _;have m:Bag _ [s.arr k5,Tn fa fc F]:=⟨_,Src.at ab,ar⟩;by_cases d5:r5=0
    ·exact G.eT r5 0<|G.i a<|G.b (P (a+1,k5,F,(fa,fc),(a:Int)) _ _ _ cV (l4.trans C) ⟨dV,a1,hF.lab au,m⟩ dV)
    refine G.eF r5 0<|G.eT (2:Nat) 2 ?_;have V:=ab;have a9:=ar;refine G.D call26 (Src.apart V) (Jw (n:=4) (h.mono (aw.trans C)) a1 oV oV) ?_;rintro ek ee eb aj ⟨am,be,rfl,d6,ac,rfl⟩ _;have a3:Bag _ [s.arr be,Tn fa fc F]:=⟨_,Src.at V,a9⟩;by_cases dz:0<am
    ·refine G.gT am 0 ?_;have aa:=V;have b1:=a9;refine G.D call26 (Src.apart aa) (Jw (n:=2) (h.mono ((aw.trans C).trans aj)) ac oV oV) ?_;rintro em ef ec ck ⟨E,bf,rfl,d7,b6,rfl⟩ _;have a4:Bag _ [s.arr bf,Tn fa fc F]:=⟨_,Src.at aa,b1⟩;refine G.B 82 3 24 (.agg #[.int .i64 0,.int .i64 0,.int .i64 0]) [.agg #[.int .i64 a,.int .i64 (1:Nat),.int .i64 E]] (Ii (a,1,E)) ?_;intro cc eg cl c7;obtain⟨bi,ad,a5⟩:=a4.focus 1 rfl;rw[Xt]at ad;refine G.append 82 3 24 (.agg #[.int .i64 0,.int .i64 0,.int .i64 0]) bi (F.map Ce) [.agg #[.int .i64 a,.int .i64 (1:Nat),.int .i64 E]] (.slice fa F.length fc) cc 0 1 1 kV rfl rfl oV ad c7 (Ii (a,1,E)) rfl oV (by simp[Ah];omega) (by simp[Ah];omega) ?_;intro er bk N;rw[show F.map Ce++[.agg #[.int .i64 a,.int .i64 (1:Nat),.int .i64 E]]=(F++[(a,1,E)]).map Ce by rw[Atk];rfl]at N;obtain⟨ax,az,rfl⟩:=N.shape;rw[Ata]at N⊢;have I:=a5 (Tn ax az (F++[(a,1,E)])) bk N;simp only[Avi,Avj]at I;exact G.i a<|G.b (P (a+1,bf,F++[(a,1,E)],(ax,az),lab) _ _ _ cV ((((l4.trans C).trans aj).trans ck).trans cl) ⟨dV,b6,hF.put au (.inl ⟨rfl,rfl,oV⟩),I⟩ dV)
    exact G.gF am 0<|G.eF (2:Nat) 3<|G.i a<|G.b (P (a+1,be,F,(fa,fc),lab) _ _ _ cV ((l4.trans C).trans aj) ⟨dV,ac,hF.skip,a3⟩ dV)
   refine G.lF lab 0<|G.eT (2:Nat) 2 ?_;obtain⟨f5,bt,a9⟩:=d;obtain⟨rfl,V⟩:=Src.split bt;refine G.D call26 (Src.apart V) (Jw (n:=4) (h.mono aw) a0 oV oV) ?_;rintro ek ee eb aj ⟨am,be,rfl,d6,ac,rfl⟩ _;have a3:Bag _ [s.arr be,Tn fa fc F]:=⟨_,Src.at V,a9⟩;by_cases dz:0<am
   ·refine G.gT am 0 ?_;have aa:=V;have b1:=a9;refine G.D call26 (Src.apart aa) (Jw (n:=2) (h.mono (aw.trans aj)) ac oV oV) ?_;rintro em ef ec ck ⟨E,bf,rfl,d7,b6,rfl⟩ _;have a4:Bag _ [s.arr bf,Tn fa fc F]:=⟨_,Src.at aa,b1⟩;refine G.B 82 3 24 (.agg #[.int .i64 0,.int .i64 0,.int .i64 0]) [.agg #[.int .i64 a,.int .i64 (1:Nat),.int .i64 E]] (Ii (a,1,E)) ?_;intro cc eg cl c7;obtain⟨bi,ad,a5⟩:=a4.focus 1 rfl;rw[Xt]at ad;refine G.append 82 3 24 (.agg #[.int .i64 0,.int .i64 0,.int .i64 0]) bi (F.map Ce) [.agg #[.int .i64 a,.int .i64 (1:Nat),.int .i64 E]] (.slice fa F.length fc) cc 0 1 1 kV rfl rfl oV ad c7 (Ii (a,1,E)) rfl oV (by simp[Ah];omega) (by simp[Ah];omega) ?_;intro er bk N;rw[show F.map Ce++[.agg #[.int .i64 a,.int .i64 (1:Nat),.int .i64 E]]=(F++[(a,1,E)]).map Ce by rw[Atk];rfl]at N;obtain⟨ax,az,rfl⟩:=N.shape;rw[Ata]at N⊢;have I:=a5 (Tn ax az (F++[(a,1,E)])) bk N;simp only[Avi,Avj]at I;exact G.i a<|G.b (P (a+1,bf,F++[(a,1,E)],(ax,az),lab) _ _ _ cV (((l4.trans aj).trans ck).trans cl) ⟨dV,b6,hF.put au (.inl ⟨rfl,rfl,oV⟩),I⟩ dV)
   exact G.gF am 0<|G.eF (2:Nat) 3<|G.i a<|G.b (P (a+1,be,F,(fa,fc),lab) _ _ _ cV (l4.trans aj) ⟨dV,ac,hF.skip,a3⟩ dV)
  refine G.eF kd 2<|G.eF kd 2 ?_;by_cases cz:kd=3
  ·subst cz;refine G.eT (3:Nat) 3 ?_;obtain⟨n5,W,ar⟩:=d;obtain⟨rfl,ab⟩:=Src.split W;refine G.D call26 (Src.apart ab) (Jw (n:=4) (h.mono aw) a0 oV oV) ?_;rintro v5 u5 m5 C ⟨r5,k5,rfl,e3,a1,rfl⟩ _;have m:Bag _ [s.arr k5,Tn fa fc F]:=⟨_,Src.at ab,ar⟩;by_cases d5:0<r5
   ·refine G.gT r5 0<|G.B 82 3 24 (.agg #[.int .i64 0,.int .i64 0,.int .i64 0]) [.agg #[.int .i64 a,.int .i64 (2:Nat),.int .i64 (0:Nat)]] (Ii (a,2,0)) ?_;intro g6 u6 l6 e6;obtain⟨co,bc,ah⟩:=m.focus 1 rfl;rw[Xt]at bc;refine G.append 82 3 24 (.agg #[.int .i64 0,.int .i64 0,.int .i64 0]) co (F.map Ce) [.agg #[.int .i64 a,.int .i64 (2:Nat),.int .i64 (0:Nat)]] (.slice fa F.length fc) g6 0 1 1 kV rfl rfl oV bc e6 (Ii (a,2,0)) rfl oV (by simp[Ah];omega) (by simp[Ah];omega) ?_;intro w6 cp a8;rw[show F.map Ce++[.agg #[.int .i64 a,.int .i64 (2:Nat),.int .i64 (0:Nat)]]=(F++[(a,2,0)]).map Ce by rw[Atk];rfl]at a8;obtain⟨a6,c6,rfl⟩:=a8.shape;rw[Ata]at a8⊢;have U:=ah (Tn a6 c6 (F++[(a,2,0)])) cp a8;simp only[Avi,Avj]at U;exact G.i a<|G.b (P (a+1,k5,F++[(a,2,0)],(a6,c6),lab) _ _ _ cV ((l4.trans C).trans l6) ⟨dV,a1,hF.put au (.inr ⟨rfl,rfl,rfl⟩),U⟩ dV)
   exact G.gF r5 0<|G.i a<|G.b (P (a+1,k5,F,(fa,fc),lab) _ _ _ cV (l4.trans C) ⟨dV,a1,hF.skip,m⟩ dV)
  exact G.eF kd 3<|G.i a<|G.b (P (a+1,k3,F,(fa,fc),lab) _ _ _ cV l4 ⟨dV,a0,hF.skip,d⟩ dV)
 obtain rfl:a=T.length:=oV;refine G.lF T.length T.length ?_;obtain⟨n5,W,ar⟩:=d;obtain⟨rfl,ab⟩:=Src.split W;refine G.giveP (ma:=n5) (sm:=s.M k3) kV rfl (Src.apart ab) (s.h0 k k3) ?_;intro u5 C dx;have ds:Ad u5 (.slice fa F.length fc) 3 (F.map Ce):=ar.list dx 0 rfl;exact G.gF F.length 8<|G.r (.agg #[.slice ta T.length tc,.slice ra R.length rc,.slice fa F.length fc,.int .i64 lab]) ⟨T,R,F,lab,k3,⟨_,_,_,_,_,_,rfl,ct.mono (l4.trans C),dt.mono (l4.trans C),ds⟩,Aq0 hT.toTOK (hR.mono ((l3.trans l4).trans C)) hF cg oV oV,du,a0,rfl,hT.toTOK,hT.lem,As9 hF.len hT.lem⟩
abbrev G7:Type:=List (List UInt8)×Nat×(Option Addr×Nat)
def Li (y:G7):Value:=.agg #[.slice y.2.2.1 y.1.length y.2.2.2,.int .i64 y.2.1]
def Abf (x:G7):Ax 2 [Li x]:=by
 intro e d;simp at d;subst d;exact⟨rfl,fun y g=>by simp[Li,Value.cells]at g;rcases g with rfl|rfl<;>rfl⟩
def Aok (a:Option Addr)(c:Nat)(L:List G7):Arr:=⟨.slice a L.length c,87,2,L.map Li⟩
def Anj {a:Option Addr}{c:Nat}{L:List G7}{m0 m:PH}:(Aok a c L).At m0 m=Ae m0 m (.slice a L.length c) 87 2 (L.map Li):=rfl
def WOK (u:PH)(T:List (List UInt8×Nat))(L:List G7):Prop:=∀ y∈L,Ad u (.slice y.2.2.1 y.1.length y.2.2.2) 1 (y.1.map nmV)/\Dv T y.1/\1<=y.2.1/\y.2.1<=7
def WOK.mono {u e:PH}{T:List (List UInt8×Nat)}{L:List G7}(h:WOK u T L)(g:PH.le u e):WOK e T L:=fun y d=>⟨(h y d).1.mono g,(h y d).2⟩
def W9 (T:List (List UInt8×Nat))(L:List G7):Prop:=∀ y∈L,∀ (i:Nat) (x:List UInt8×Nat) (t:List UInt8),T[i]?=some x->y.1[i]?=some t->Vt x.2 t
def Ad3 {u:PH}{s:Src}{ts:List Int}{k most:Nat}{v:Value}{T:List (List UInt8×Nat)}{R:List Ch}{F:List Aq}{lab:Int}(h:Lc u s ts)(hk:k<=s.n)(hX:In u v T R F lab)(ok:By u T R F lab)(hm:most<=100) :
 Aj prog 7 [s.ptr,v,.int .i64 most] u (s.M k) fun r W m'=>∃ (L:List G7) (k':Nat),Ad W r 2 (L.map Li)/\L.length<=most/\WOK W T L/\W9 T L/\k'<=s.n/\m'=s.M k':=by
 obtain⟨xa,xc,xb,xd,xe,xf,rfl,a0,a9,a8⟩:=id hX;have t2:=ok.t2;refine Aj.o func7<|G.i most<|G.A call26 (Jw (n:=most+1) h hk oV oV) ?_;rintro v1 u1 m1 l1 ⟨r,k1,rfl,hr,a1,rfl⟩ _;rw[C3];refine G.l (ι:=Nat×Nat×List G7×(Option Addr×Nat)) (fun i=>[(0,.v s.ptr),(4,.p 0 0),(7,sV i.2.2.2.1 i.2.2.1.length i.2.2.2.2),(8,iV i.1)])
  (fun _=>[(0,⟨30,[sV xa T.length xc,sV xb R.length xd,sV xe F.length xf,iV lab]⟩)])
  (fun i W m'=>i.1+i.2.2.1.length=r/\i.2.1<=s.n/\WOK W T i.2.2.1/\W9 T i.2.2.1/\Bag m' [s.arr i.2.1,Aok i.2.2.2.1 i.2.2.2.2 i.2.2.1])
  (fun i=>i.1) (r,k1,[],(none,0))
  ⟨rfl,a1,fun y d=>by simp at d,fun y d=>by simp at d,s.bag0 k1 ⟨PH.mt,Ae.nil _ _ _,trivial⟩⟩ ?_
 rintro J ⟨i,k2,L,⟨na,nc⟩⟩ hJ u2 m2 l2 ⟨hi,K,hW,X,j⟩;simp only at hi K hW X j hJ;have N:=l1.trans l2;obtain⟨m0,Q,hL⟩:=j;obtain⟨rfl,e⟩:=Src.split Q;by_cases aa:0<i
 ·refine G.gT i 0<|G.D call27 (Src.apart e) (Aip (w:=.slice xb R.length xd) (x:=.slice xe F.length xf) (y:=.int .i64 lab) (h.mono N) K (a0.mono N) oV ok.att.kind ⟨_,_,_,rfl⟩ ⟨_,_,_,rfl⟩ ⟨_,rfl⟩) ?_;rintro v3 u3 m3 V ⟨m,k3,Y,Z,O,a2,rfl⟩ _;obtain⟨C,E,rfl⟩:=Y.opn;rw[Ata]at Y⊢;refine G.buildU 3 1 8 (.int .i64 0) (Ei [1,1,2,7]) kV (L4 _) rfl oV (by simp[Ei]) (by simp[Ei]) ?_;intro g4 u4 l4 e4;refine G.D call28 (Src.apart e) (Aah (L:=[1,1,2,7]) (h.mono ((N.trans V).trans l4)) a2 e4.listP mV mV) ?_;rintro v5 u5 m5 l5 ⟨z,hz,k5,rfl,a3,rfl⟩ _;obtain⟨w,rfl,a5,a6⟩:∃ w:Nat,z=(w:Int)/\1<=w/\w<=7:=by
   simp at hz;rcases hz with rfl|rfl|rfl
   ·exact⟨1,rfl,oV,oV⟩
   ·exact⟨2,rfl,oV,oV⟩
   exact⟨7,rfl,oV,oV⟩
  refine G.B 87 2 32 (.agg #[.slice none 0 0,.int .i64 0]) [.agg #[.slice C m.length E,.int .i64 w]] (Abf (m,w,C,E)) ?_;intro g6 u6 l6 e6;have H:Bag (m0.or (s.M k5)) [s.arr k5,Aok na nc L]:=⟨m0,Src.at e,hL⟩;obtain⟨mm,U,P⟩:=H.focus 1 rfl;rw[Anj]at U;refine G.k 87 2 32 (.agg #[.slice none 0 0,.int .i64 0]) mm (L.map Li) [Li (m,w,C,E)] (.slice na L.length nc) g6 0 1 1 U e6 (Abf (m,w,C,E)) ?_;intro v7 m7 g;rw[show L.map Li++[Li (m,w,C,E)]=(L++[(m,w,C,E)]).map Li by rw[Atk];rfl]at g;obtain⟨a7,c7,rfl⟩:=g.shape;rw[Ata]at g⊢;have I:=P (Aok a7 c7 (L++[(m,w,C,E)])) m7 g;have lx:=((V.trans l4).trans l5).trans l6;refine G.s i 1 (i-1:Nat)<|G.b (hJ (i-1,k5,L++[(m,w,C,E)],(a7,c7)) _ _ _ cV (l2.trans lx) ⟨by dsimp only;simp;omega,a3,?_,?_,I⟩ dV)
  ·intro y d;rcases Ati.1 d with d|d
   ·exact hW.mono lx y d
   simp only[Aub]at d;subst d;exact⟨Y.mono ((l4.trans l5).trans l6),⟨Z,fun i x t h1 h2=>(O i x t h1 h2).ok⟩,a5,a6⟩
  intro y d;rcases Ati.1 d with d|d
  ·exact X y d
  simp only[Aub]at d;subst d;exact O
 obtain rfl:i=0:=oV;refine G.gF (0:Nat) 0<|G.giveP (ma:=m0) (sm:=s.M k2) kV rfl (Src.apart e) (s.h0 k k2) ?_;intro u3 V a4;exact G.r (.slice na L.length nc) ⟨L,k2,hL.list a4 0 rfl,oV,hW.mono V,X,K,rfl⟩
section
variable {F:List Aq}{R:List Ch}{T:List (List UInt8×Nat)}{lab:Int}{u:PH}
def L6 {α:Type}{p:List α->Prop}(h0:p [])(h1:∀ l a,p l->p (l++[a]))(l:List α):p l:=by
 have:∀ r:List α,p r.reverse:=fun r=>by
  induction r with
  |nil=>exact h0
  |cons a r ih=>rw[List.reverse_cons];exact h1 _ _ ih
 have:=this l.reverse;rwa[List.reverse_reverse]at this
noncomputable def Fs (F:List Aq)(lab:Int)(L:List G7):CF:=L.foldl (fun C y=>C.add ((cfT F lab y.1).scale (y.2.1:Rat))) (CF.num 0)
def Hw (F:List Aq)(lab:Int)(L:List G7)(y:G7):Fs F lab (L++[y])=(Fs F lab L).add ((cfT F lab y.1).scale (y.2.1:Rat)):=by
 unfold Fs;rw[Azo];rfl
def Am9 {w:Nat}(h:w<=7):Dn 0 7 (w:Rat):=⟨(w:Int),by simp[Au6],by simpa using h⟩
def Ami {d:List (List UInt8)}(ok:By u T R F lab)(g:Dv T d):CFD (2*T.length) (1374926400^T.length) (cfT F lab d)/\CFV (cfT F lab d):=by
 have e:=Mj ok g;have h:(E4 F lab d).length=T.length:=by rw[Gl];exact g.len
 have:=Pj e (E4 F lab d).length (Atb _);rw[At9,h]at this;exact this
theorem Ym (ok:By u T R F lab):∀ {L:List G7},(∀ y∈L,Dv T y.1/\y.2.1<=7)->CFD (2*T.length) (L.length*(1374926400^T.length*7)) (Fs F lab L)/\CFV (Fs F lab L):=by
 intro L;induction L using L6 with
 |h0=>exact fun _=>⟨CFD.count (Dn.zero _ _),CFV.count 0⟩
 |h1 L y ih =>
  intro h;obtain⟨i1,i2⟩:=ih fun z hz=>h z (Avn _ hz);obtain⟨h1,h2⟩:=h y mV;obtain⟨c1,c2⟩:=Ami ok h1;rw[Hw];refine⟨?_,i2.add (c2.scale _)⟩;have:=i1.add (c1.scale (Am9 h2));rw[Atg,Aux,At2,Avm];exact this
end
section
variable {F:List Aq}{T:List (List UInt8×Nat)}{lab:Int}
theorem Arl {d:List (List UInt8)}(hF:Ef T F lab)(m:Dv T d)(e:-1<=lab)(g:∀ l:Nat,lab=(l:Int)->l<d.length) :
 ((cfT F lab d).c=1/\∀ p q,(cfT F lab d).t (A5 p q)=(cfT F lab d).s p*(cfT F lab d).s q)\/((cfT F lab d).c=0/\(∀ p,(cfT F lab d).s p=0)/\∀ k,(cfT F lab d).t k=0):=by
 cases hc:Vy F lab d with
 |false=>right;rw[Ak7 hF m e g hc];exact⟨rfl,fun _=>rfl,fun _=>rfl⟩
 |true =>
  left;have j:=Agg hF m e g hc;refine⟨j.c,fun p q=>?_⟩;rw[j.t,if_neg (Qj p q)];by_cases h:0<Bd p q
  ·rw[L1 h];grind
  rw[Fv h]
def Aee (n:Nat):(0:Rat)<=(n:Rat):=by
 have:((0:Nat):Rat)<=(n:Rat):=by exact_mod_cast Atu n
 exact this
theorem Aqe (hF:Ef T F lab)(h1:-1<=lab)(h2:∀ l:Nat,lab=(l:Int)->l<T.length):∀ {L:List G7},(∀ y∈L,Dv T y.1/\y.2.1<=7)->∃ k:Nat,(Fs F lab L).c=(k:Rat)/\k<=7*L.length:=by
 intro L;induction L using L6 with
 |h0=>exact fun _=>⟨0,rfl,mV⟩
 |h1 L y ih =>
  intro h;obtain⟨k,hk,hkl⟩:=ih fun z hz=>h z (Avn _ hz);obtain⟨hy,hw⟩:=h y mV;have hlen:=hy.len;rw[Hw];show ∃ k:Nat,(Fs F lab L).c+(cfT F lab y.1).c*(y.2.1:Rat)=(k:Rat)/\_;rw[hk];rw[Atg,Aux];rcases Arl hF hy h1 (fun l hl=>by have:=h2 l hl;omega) with ⟨e1,_⟩|⟨e1,_⟩
  ·exact⟨k+y.2.1,by rw[e1,Axq];grind,oV⟩
  ·exact⟨k,by rw[e1];grind,oV⟩
end
section
variable {a b c d f n:Nat}{q r:Rat}
def De (a b:Nat)(q:Rat):Prop:=∃ (k:Int) (D:Nat),q*(D:Rat)=(k:Rat)/\0<D/\k.natAbs<10^a/\D<10^b
def Nq {D:Nat}(h:0<D):(D:Rat)≠0:=by
 intro e;have g:(D:Rat)=((0:Nat):Rat):=e;have:=A1f.1 g;omega
def Gm {x y a b:Nat}(e:x<10^a)(g:y<10^b):x*y<10^(a+b):=by
 rw[Aww];exact Nat.mul_lt_mul'' e g
theorem De.mul (h:De a b q)(j:De c d r):De (a+c) (b+d) (q*r):=by
 obtain⟨k,D,e,h0,m,t⟩:=h;obtain⟨l,E,g,u,v,z⟩:=j;refine⟨k*l,D*E,?_,Axa h0 u,by rw[Au7];exact Gm m v,Gm t z⟩;rw[Av9,<-e,<-g,Awt];grind
theorem De.add (h:De a b q)(t:De c d r)(u:a+d<=f)(v:c+b<=f):De (f+1) (b+d) (q+r):=by
 obtain⟨k,D,e,h0,z,g⟩:=h;obtain⟨l,E,m,C,F,j⟩:=t;refine⟨k*(E:Int)+l*(D:Int),D*E,?_,Axa h0 C,?_,Gm g j⟩
 ·rw[Az9,Av9,Av9,<-e,<-m,Awt,Au6,Au6];grind
 have g1:(k*(E:Int)).natAbs<10^f:=by
  rw[Au7];exact Auf (Gm z (by simpa using j)) (Atq oV u)
 have g2:(l*(D:Int)).natAbs<10^f:=by
  rw[Au7];exact Auf (Gm F (by simpa using g)) (Atq oV v)
 rw[Auc];omega
theorem De.neg (h:De a b q):De a b (-q):=by
 obtain⟨k,D,e,h0,g,j⟩:=h;exact⟨-k,D,by rw[Ayf,<-e];grind,h0,by simpa using g,j⟩
def De.sub (h:De a b q)(e:De c d r)(g:a+d<=f)(j:c+b<=f):De (f+1) (b+d) (q-r):=by
 rw[Ayg];exact h.add e.neg g j
theorem De.divn {a b m n:Nat}(h:De a b q)(g:0<n)(v:n<10^m):De a (b+m) (q/(n:Rat)):=by
 obtain⟨k,D,e,h0,t,u⟩:=h;refine⟨k,D*n,?_,Axa h0 g,t,Gm u v⟩;have hi:=A0r _ (Nq g);rw[<-e,Awt,Azs];generalize ((n:Rat))⁻¹=j at hi⊢;grind
theorem De.nat (h:n<10^a):De a 1 (n:Rat):=⟨(n:Int),1,by rw[Au6];show (n:Rat)*1=_;grind,oV,by simpa using h,oV⟩
theorem De.frac (h:De a b q):q.num.natAbs<10^a/\q.den<10^b:=by
 obtain⟨k,D,j,hp,m,C⟩:=h;have t:q=Rat.divInt k (D:Int):=by
  rw[Awf,Au6,<-j];have:=Nq hp;grind
 obtain⟨e,g,u⟩:=Ks (y:=k) (z:=(D:Int)) oV;rw[t];constructor
 ·rw[e,Az7];exact Aum (Awa _ _) m
 have v:((Rat.divInt k (D:Int)).den:Int)<=(D:Int):=by
  rw[g,show ((D:Int)).natAbs=D from rfl,Awj oV,<-Axi];exact A2i.2 (Awa _ _)
 omega
def De.tx (h:De a b q)(t:0<a)(e:a<=400)(u:0<b)(g:b<=400):Tx q:=by
 obtain⟨j,m⟩:=h.frac;exact⟨As9 (Eb t j) e,As9 (Eb u m) g⟩
def De.szn (h:De a b q)(j:0<a)(e:a<=400)(m:0<b)(g:b<=400):Sz q 400:=(h.tx j e m g).sz
def Dn.de {d N a b:Nat}(h:Dn d N q)(j:N<10^a)(g:12^d<10^b):De a b q:=by
 obtain⟨k,e,m⟩:=h;exact⟨k,12^d,e,Yk d,oV,g⟩
end
section
variable {H:CF}
def C5 {α:Type}(f:α->Rat):List α->Rat
 |[]=>0
 |a::l=>f a+C5 f l
section
variable {α β:Type} {f g:α->Rat}
theorem Q9:∀ (l d:List α),C5 f (l++d)=C5 f l+C5 f d
 |[],d=>by show C5 f d=0+C5 f d;grind
 |a::l,d=>by show f a+C5 f (l++d)=f a+C5 f l+C5 f d;rw[Q9 l d];grind
theorem Ah2 (l:List α)(a:α):C5 f (l++[a])=C5 f l+f a:=by
 rw[Q9];show _+(f a+0)=_;grind
def Gw:∀ {l:List α},(∀ a∈l,f a=g a)->C5 f l=C5 g l
 |[],_=>rfl
 |a::l,h=>by
  show f a+C5 f l=g a+C5 g l;rw[h a (Aw3 ..),Gw fun x d=>h x (Auv _ d)]
theorem Vf:∀ (l:List α),C5 (fun a=>f a+g a) l=C5 f l+C5 g l
 |[]=>by show (0:Rat)=0+0;grind
 |a::l=>by show f a+g a+C5 (fun a=>f a+g a) l=(f a+C5 f l)+(g a+C5 g l);rw[Vf l];grind
theorem Mg (k:Rat):∀ (l:List α),C5 (fun a=>f a*k) l=C5 f l*k
 |[]=>by show (0:Rat)=0*k;grind
 |a::l=>by show f a*k+C5 (fun a=>f a*k) l=(f a+C5 f l)*k;rw[Mg k l];grind
theorem Aiw (k:Rat)(l:List α):C5 (fun a=>k*f a) l=k*C5 f l:=by
 rw[show (fun a=>k*f a)=fun a=>f a*k from funext fun a=>by grind,Mg];grind
theorem Qb:∀ {l:List α},(∀ a∈l,f a=0)->C5 f l=0
 |[],_=>rfl
 |a::l,h=>by
  show f a+C5 f l=0;rw[h a (Aw3 ..),Qb fun x d=>h x (Auv _ d)];grind
def Pf (h:β->α):∀ (l:List β),C5 f (l.map h)=C5 (fun b=>f (h b)) l
 |[]=>rfl
 |a::l=>by show f (h a)+C5 f (l.map h)=f (h a)+C5 (fun b=>f (h b)) l;rw[Pf h l]
end
def Ah7 (P:List Par):List (Option Par):=none::P.map some
def Cd:Par:=(-1,[])
def Gh (C:CF):Option Par->Option Par->Rat
 |none,none=>C.c
 |none,some p=>C.s p
 |some p,none=>C.s p
 |some p,some q=>C.t (A5 p q)
def S4 (C:CF):Option Par->Rat
 |none=>C.s Cd
 |some p=>C.t (A5 Cd p)
def Is (b:Option Par->Rat)(P:List Par)(C:CF):Rat:=C5 (fun e=>C5 (fun f=>b e*Gh C e f*b f) (Ah7 P)) (Ah7 P)
def Xe (C H:CF)(w:Rat)(e f:Option Par):Gh (C.add (H.scale w)) e f=Gh C e f+Gh H e f*w:=by
 cases e<;>cases f<;>rfl
def Aei (C H:CF)(w:Rat)(e:Option Par):S4 (C.add (H.scale w)) e=S4 C e+S4 H e*w:=by
 cases e<;>rfl
theorem Aig (b:Option Par->Rat)(P:List Par)(C H:CF)(w:Rat):Is b P (C.add (H.scale w))=Is b P C+Is b P H*w:=by
 unfold Is;rw[<-Mg w,<-Vf];refine Gw fun e _=>?_;rw[<-Mg w,<-Vf];refine Gw fun f _=>?_;rw[Xe];grind
def Ahp (b:Option Par->Rat)(P:List Par)(x:Par->Rat):Rat:=b none+C5 (fun p=>b (some p)*x p) P
def Ai2 (x:Par->Rat):Option Par->Rat
 |none=>1
 |some p=>x p
theorem Aa4 (b:Option Par->Rat)(P:List Par)(x:Par->Rat):C5 (fun e=>b e*Ai2 x e) (Ah7 P)=Ahp b P x:=by
 unfold Ah7 Ahp;show b none*1+C5 _ (P.map some)=_;rw[Pf];show b none*1+C5 (fun p=>b (some p)*x p) P=_;grind
structure Adv (H:CF):Prop where
 c:H.c=1
 t:∀ p q,H.t (A5 p q)=H.s p*H.s q
theorem Adv.cell (h:Adv H)(e f:Option Par):Gh H e f=Ai2 H.s e*Ai2 H.s f:=by
 cases e<;>cases f
 ·show H.c=1*1;rw[h.c];grind
 ·show H.s _=1*H.s _;grind
 ·show H.s _=H.s _*1;grind
 exact h.t _ _
theorem Adv.right (h:Adv H)(e:Option Par):S4 H e=H.s Cd*Ai2 H.s e:=by
 cases e
 ·show H.s Cd=H.s Cd*1;grind
 exact h.t _ _
theorem Adv.norm (h:Adv H)(b:Option Par->Rat)(P:List Par):Is b P H=Ahp b P H.s*Ahp b P H.s:=by
 unfold Is;have d:∀ e,C5 (fun f=>b e*Gh H e f*b f) (Ah7 P)=(b e*Ai2 H.s e)*Ahp b P H.s:=fun e=>by
  rw[<-Aa4,<-Aiw];exact Gw fun f _=>by rw[h.cell];grind
 rw[Gw fun e _=>d e,Mg,Aa4]
structure Aiq (H:CF):Prop where
 c:H.c=0
 s:∀ p,H.s p=0
 t:∀ k,H.t k=0
def Aiq.cell (h:Aiq H)(e f:Option Par):Gh H e f=0:=by
 cases e<;>cases f
 ·exact h.c
 ·exact h.s _
 ·exact h.s _
 exact h.t _
theorem Aiq.norm (h:Aiq H)(b:Option Par->Rat)(P:List Par):Is b P H=0 :=
 Qb fun e _=>Qb fun f _=>by rw[h.cell];grind
theorem Xn {T:List (List UInt8×Nat)}{F:List Aq}{lab:Int}{d:List (List UInt8)}(hF:Ef T F lab)(n:Dv T d)(e:-1<=lab)(j:∀ l:Nat,lab=(l:Int)->l<d.length) :
 (Vy F lab d=true/\Adv (cfT F lab d))\/(Vy F lab d=false/\Aiq (cfT F lab d)):=by
 cases hc:Vy F lab d with
 |false=>right;rw[Ak7 hF n e j hc];exact⟨rfl,rfl,fun _=>rfl,fun _=>rfl⟩
 |true =>
  left;have m:=Agg hF n e j hc;refine⟨rfl,m.c,fun p q=>?_⟩;rw[m.t,if_neg (Qj p q)];by_cases h:0<Bd p q
  ·rw[L1 h];grind
  rw[Fv h]
end
section
variable {a b j n r:Nat}{f:Nat->Rat}
def Ak:Nat->(Nat->Rat)->Rat
 |0,_=>0
 |n+1,f=>Ak n f+f n
def Af {f g:Nat->Rat}:∀ {n:Nat},(∀ j,j<n->f j=g j)->Ak n f=Ak n g
 |0,_=>rfl
 |n+1,h=>by rw[Ak,Ak,Af fun j d=>h j oV,h n oV]
theorem B5 (h:∀ j,j<n->f j=0):Ak n f=0:=by
 induction n with
 |zero=>rfl
 |succ n ih=>rw[Ak,ih fun j d=>h j oV,h n oV];grind
theorem Aay {f g:Nat->Rat}(a b:Rat):∀ {n:Nat},Ak n (fun j=>a*f j+b*g j)=a*Ak n f+b*Ak n g
 |0=>by simp only[Ak];grind
 |n+1=>by rw[Ak,Ak,Ak,Aay a b];grind
theorem D8 (d:j<n)(h:∀ t,t<n->t≠j->f t=0):Ak n f=f j:=by
 induction n with
 |zero=>omega
 |succ n ih =>
  rw[Ak];by_cases e:j=n
  ·subst e;rw[B5 fun t g=>h t oV oV];grind
  grind
theorem Ams (g:a+1<n)(h:∀ t,t<n->t≠a->t≠a+1->f t=0):Ak n f=f a+f (a+1):=by
 induction n with
 |zero=>omega
 |succ n ih =>
  rw[Ak];by_cases e:a+1=n
  ·subst e;rw[D8 (j:=a) oV fun t m d=>h t oV d oV]
  grind
def qsg:Nat->Rat
 |0=>1
 |n+1=>- qsg n
def Yn:∀ r:Nat,qsg (r+r)=1
 |0=>rfl
 |r+1=>by rw[show r+1+(r+1)=r+r+1+1 by omega,qsg,qsg,Yn r];rfl
def B7 (j:Nat)(C:Nat->Nat->Rat):Nat->Nat->Rat:=fun t=>if t<j then C t else C (t+1)
def qdt:Nat->(Nat->Nat->Rat)->Rat
 |0,_=>1
 |r+1,C=>Ak (r+1) fun j=>qsg (r+j)*C j r*qdt r (B7 j C)
def Dr:∀ {r:Nat} {C D:Nat->Nat->Rat},(∀ t,t<r->∀ i,i<r->C t i=D t i)->qdt r C=qdt r D
 |0,_,_,_=>rfl
 |r+1,C,D,h=>by
  rw[qdt,qdt];refine Af fun j d=>?_;rw[h j d r oV,Dr (D:=B7 j D)];intro t e i hi;unfold B7;split
  ·exact h t oV i oV
  exact h (t+1) oV i oV
def Br (C:Nat->Nat->Rat)(j:Nat)(x:Nat->Rat):Nat->Nat->Rat:=fun t=>if t=j then x else C t
theorem Kt (C:Nat->Nat->Rat)(j:Nat)(x:Nat->Rat):B7 j (Br C j x)=B7 j C:=by
 funext t
 unfold B7 Br;split
 ·grind
 grind
theorem Ky (C:Nat->Nat->Rat)(h:j<a)(x:Nat->Rat):B7 a (Br C j x)=Br (B7 a C) j x:=by
 funext t
 unfold B7 Br;by_cases d:t=j
 ·grind
 grind
theorem Hq (C:Nat->Nat->Rat)(h:a<j)(x:Nat->Rat):B7 a (Br C j x)=Br (B7 a C) (j-1) x:=by
 funext t
 unfold B7 Br;by_cases d:t=j-1
 ·grind
 grind
def F9 (C:Nat->Nat->Rat)(j:Nat)(x:Nat->Rat):Br C j x j=x:=by simp[Br]
def E5 (C:Nat->Nat->Rat){j t:Nat}(h:t≠j)(x:Nat->Rat):Br C j x t=C t:=by simp[Br,h]
theorem Fa (C:Nat->Nat->Rat)(j:Nat):Br C j (C j)=C:=by
 funext t
 unfold Br;split
 ·grind
 rfl
theorem It (a b:Rat)(x y:Nat->Rat):∀ {r:Nat} (C:Nat->Nat->Rat) {j:Nat},j<r->qdt r (Br C j fun i=>a*x i+b*y i)=a*qdt r (Br C j x)+b*qdt r (Br C j y)
 |0,_,_,h=>oV
 |r+1,C,j,h=>by
  rw[qdt,qdt,qdt,<-Aay];refine Af fun t g=>?_;by_cases e:t=j
  ·subst e;rw[Kt,Kt,Kt,F9,F9,F9];grind
  rw[E5 C e,E5 C e,E5 C e];by_cases d:j<t
  ·rw[Ky C d,Ky C d,Ky C d,It a b x y (B7 t C) oV];grind
  have d:t<j:=oV;rw[Hq C d,Hq C d,Hq C d,It a b x y (B7 t C) oV];grind
theorem Mc (C:Nat->Nat->Rat)(h:j<r):qdt r (Br C j fun _=>0)=0:=by
 have:=It 0 0 (fun _=>0) (fun _=>0) C h;have d:(0:Rat)+0=0:=by grind
 simpa[d] using this
theorem R6:∀ {r:Nat} {C:Nat->Nat->Rat} {a:Nat},a+1<r->C a=C (a+1)->qdt r C=0
 |0,_,_,h,_=>oV
 |r+1,C,a,h,e=>by
  rw[qdt,Ams (a:=a) h]
  ·have:B7 a C=B7 (a+1) C:=by
    funext t
    unfold B7;by_cases d:t=a
    ·grind
    grind
   rw[this,e,show r+(a+1)=(r+a)+1 by omega,qsg];grind
  intro t u d g;have:qdt r (B7 t C)=0:=by
   by_cases m:t<a
   ·refine R6 (a:=a-1) oV ?_;unfold B7;rw[if_neg oV,if_neg oV,show a-1+1=a by omega];exact e
   refine R6 (a:=a) oV ?_;unfold B7;rw[if_pos oV,if_pos oV];exact e
  rw[this];simp
def Aoz (C:Nat->Nat->Rat)(a:Nat):Nat->Nat->Rat:=Br (Br C a (C (a+1))) (a+1) (C a)
theorem N7 (C:Nat->Nat->Rat)(h:a≠b)(x y:Nat->Rat):Br (Br C a x) b y=Br (Br C b y) a x:=by
 funext t
 unfold Br;by_cases d:t=a
 ·grind
 grind
theorem Anp (C:Nat->Nat->Rat)(h:a+1<r):qdt r (Aoz C a) = - qdt r C:=by
 have g:a<r:=oV
 let D:(Nat->Rat)->(Nat->Rat)->Rat:=fun x y=>qdt r (Br (Br C a x) (a+1) y)
 have l2:∀ x y z,D x (fun i=>1*y i+1*z i)=1*D x y+1*D x z:=fun x y z=>It 1 1 y z _ h;have m:∀ x y z,D (fun i=>1*y i+1*z i) x=1*D y x+1*D z x:=fun x y z=>by
  show qdt r (Br (Br C a _) (a+1) x)=1*qdt r (Br (Br C a y) (a+1) x)+1*qdt r (Br (Br C a z) (a+1) x);rw[N7 C (show a≠a+1 by omega) (fun i=>1*y i+1*z i) x,N7 C (show a≠a+1 by omega) y x,N7 C (show a≠a+1 by omega) z x];exact It 1 1 y z _ g
 have d:∀ x,D x x=0:=fun x=>R6 h (by rw[F9,E5 _ oV,F9]);have e:=d (fun i=>1*C a i+1*C (a+1) i);rw[m,l2,l2,d,d]at e;have t:D (C a) (C (a+1))=qdt r C:=by
  show qdt r (Br (Br C a (C a)) (a+1) (C (a+1)))=_;rw[Fa,Fa]
 have u:D (C (a+1)) (C a)=qdt r (Aoz C a):=rfl;grind
theorem Adz {r:Nat}:∀ {d:Nat} {C:Nat->Nat->Rat} {a:Nat},a+d+1<r->C a=C (a+d+1)->qdt r C=0
 |0,_,_,h,e=>R6 h e
 |d+1,C,a,h,e=>by
  have:=Anp C (a:=a+d+1) (r:=r) oV;rw[Adz (d:=d) (C:=Aoz C (a+d+1)) (a:=a) oV]at this
  ·grind
  unfold Aoz;rw[E5 _ oV,E5 _ oV,E5 _ oV,F9];exact e
def Abl {C:Nat->Nat->Rat}(g:a<r)(m:b<r)(t:a≠b)(e:C a=C b):qdt r C=0:=by
 by_cases h:a<b
 ·exact Adz (d:=b-a-1) (a:=a) oV (by rw[show a+(b-a-1)+1=b by omega];exact e)
 exact Adz (d:=a-b-1) (a:=b) oV (by rw[show b+(a-b-1)+1=a by omega];exact e.symm)
def Agx {r:Nat}(C:Nat->Nat->Rat){j:Nat}(h:j<r)(a:Nat->Rat)(X:Nat->Nat->Rat):∀ n:Nat,qdt r (Br C j fun i=>Ak n fun t=>a t*X t i)=Ak n fun t=>a t*qdt r (Br C j (X t))
 |0=>Mc C h
 |n+1=>by
  have:=It 1 (a n) (fun i=>Ak n fun t=>a t*X t i) (X n) C h;rw[Agx C h a X n]at this;simp only[Ak];rw[Rat.one_mul]at this;rw[<-this]
  congr 2
  funext i
  rw[Rat.one_mul]
theorem Z2 (C:Nat->Nat->Rat)(e:Nat->Rat)(g:∀ i,i<r->e i=0):qdt (r+1) (Br C r e)=e r*qdt r C:=by
 rw[qdt,D8 (j:=r) oV]
 ·rw[Yn,F9,Rat.one_mul,Dr (C:=B7 r (Br C r e)) (D:=C)];intro t d i hi;unfold B7;rw[if_pos d,E5 _ oV]
 intro t d h;rw[Hq C (by omega:t<r),Dr (D:=Br (B7 t C) (r-1) fun _=>0)]
 ·rw[Mc _ oV];simp
 intro s m i hi;unfold Br;split
 ·grind
 rfl
end
section
variable {d:Nat}{f g:Rat->Rat}
theorem Bk (a:Rat)(f:Nat->Rat):∀ n:Nat,Ak n (fun j=>a*f j)=a*Ak n f
 |0=>by simp only[Ak];grind
 |n+1=>by rw[Ak,Ak,Bk a f n];grind
theorem B2 (f g:Nat->Rat):∀ n:Nat,Ak n (fun j=>f j+g j)=Ak n f+Ak n g
 |0=>by simp only[Ak];grind
 |n+1=>by rw[Ak,Ak,Ak,B2 f g n];grind
def pwR (x:Rat):Nat->Rat
 |0=>1
 |n+1=>pwR x n*x
theorem Rw (x y:Rat):∀ n,pwR (x*y) n=pwR x n*pwR y n
 |0=>by simp only[pwR];grind
 |n+1=>by simp only[pwR];rw[Rw x y n];grind
theorem Aew:∀ n,pwR 1 n=1
 |0=>rfl
 |n+1=>by simp only[pwR];rw[Aew n];grind
theorem Agb:∀ n,0<pwR 2 n
 |0=>by simp only[pwR];decide
 |n+1=>by have:=Agb n;simp only[pwR];grind
theorem Zy:∀ {j d:Nat},j<d->pwR 2 j<pwR 2 d
 |j,0,h=>oV
 |j,d+1,h=>by
  have m:=Agb d;simp only[pwR];by_cases e:j=d
  ·subst e;grind
  have:=Zy (j:=j) (d:=d) oV;grind
def evP (d:Nat)(c:Nat->Rat)(x:Rat):Rat:=Ak d fun j=>c j*pwR x j
theorem Za:∀ (d:Nat) (c:Nat->Rat),(∀ x,x≠0->evP d c x=0)->∀ j,j<d->c j=0
 |0,_,_,j,h=>oV
 |d+1,c,h,j,n=>by
  have v:=Za d (fun j=>c j*(pwR 2 j-pwR 2 d)) fun x z=>by
   have m:=h x z;have t:=h (2*x) (by grind);unfold evP at m t⊢;simp only[Ak]at m t;rw[Rw,Af (g:=fun j=>c j*pwR 2 j*pwR x j) fun j n=>by rw[Rw];grind]at t;have e:Ak d (fun j=>c j*(pwR 2 j-pwR 2 d)*pwR x j)=Ak d (fun j=>c j*pwR 2 j*pwR x j) + -(pwR 2 d)*Ak d (fun j=>c j*pwR x j):=by
    rw[<-Bk,<-B2];exact Af fun j _=>by grind
   rw[e];grind
  have h0:∀ j,j<d->c j=0:=fun j n=>by
   have m:=v j n;have t:=Zy n;rcases A0a.1 m with u|u
   ·exact u
   grind
  by_cases e:j=d
  ·have m:=h 1 fV;unfold evP at m;simp only[Ak]at m;rw[B5 fun j n=>by rw[h0 j n];grind,Aew]at m;rw[e];grind
  exact h0 j oV
def IsP (d:Nat)(f:Rat->Rat):Prop:=∃ c:Nat->Rat,∀ x,f x=evP d c x
def IsP.congr (h:IsP d f)(e:∀ x,g x=f x):IsP d g:=by
 obtain⟨c,j⟩:=h;exact⟨c,fun x=>by rw[e,j]⟩
theorem IsP.add (h:IsP d f)(m:IsP d g):IsP d fun x=>f x+g x:=by
 obtain⟨c,n⟩:=h;obtain⟨c',e⟩:=m;refine⟨fun j=>c j+c' j,fun x=>?_⟩;show f x+g x=_;rw[n,e];unfold evP;rw[<-B2];exact Af fun j _=>by grind
theorem IsP.smul (a:Rat)(h:IsP d f):IsP d fun x=>a*f x:=by
 obtain⟨c,e⟩:=h;refine⟨fun j=>a*c j,fun x=>?_⟩;show a*f x=_;rw[e];unfold evP;rw[<-Bk];exact Af fun j _=>by grind
theorem IsP.up (h:IsP d f):IsP (d+1) f:=by
 obtain⟨c,e⟩:=h;refine⟨fun j=>if j=d then 0 else c j,fun x=>?_⟩;rw[e];unfold evP;simp only[Ak];rw[Af (g:=fun j=>(if j=d then 0 else c j)*pwR x j) fun j m=>by rw[if_neg oV]];grind
theorem IsP.zero (d:Nat):IsP d fun _=>0:=⟨fun _=>0,fun x=>by unfold evP;rw[B5 fun j _=>by grind]⟩
theorem IsP.const:∀ (d:Nat) (a:Rat),IsP (d+1) fun _=>a
 |0,a=>⟨fun _=>a,fun x=>by unfold evP;simp only[Ak,pwR];grind⟩
 |d+1,a=>(IsP.const d a).up
theorem Ms (c:Nat->Rat)(x:Rat):∀ d:Nat,Ak (d+1) (fun j=>(if j=0 then 0 else c (j-1))*pwR x j)=x*Ak d fun j=>c j*pwR x j
 |0=>by simp only[Ak,if_pos];grind
 |d+1=>by
  rw[Ak,Ms c x d,Ak,if_neg oV,Avv];simp only[pwR];grind
def IsP.mulx (h:IsP d f):IsP (d+1) fun x=>x*f x:=by
 obtain⟨c,e⟩:=h;exact⟨fun j=>if j=0 then 0 else c (j-1),fun x=>by show x*f x=_;rw[e];unfold evP;rw[Ms]⟩
theorem IsP.mulLin (h:IsP d f)(a b:Rat):IsP (d+1) fun x=>(a+b*x)*f x :=
 ((h.up.smul a).add (h.mulx.smul b)).congr fun x=>by grind
def IsP.sum {d:Nat}{f:Nat->Rat->Rat}:∀ n:Nat,(∀ k,k<n->IsP d (f k))->IsP d fun x=>Ak n fun k=>f k x
 |0,_=>IsP.zero d
 |n+1,h=>(IsP.sum n fun k e=>h k oV).add (h n oV)
theorem IsP.det:∀ (r:Nat) {C:Rat->Nat->Nat->Rat},(∀ t i,∃ a b:Rat,∀ x,C x t i=a+b*x)->IsP (r+1) fun x=>qdt r (C x)
 |0,_,_=>IsP.const 0 1
 |r+1,C,h=>by
  refine IsP.sum (r+1) fun j _=>?_;obtain⟨a,b,e⟩:=h j r;have m:=IsP.det r (C:=fun x=>B7 j (C x)) fun t i=>by
   unfold B7;split
   ·exact h t i
   exact h (t+1) i
  exact ((m.mulLin a b).smul (qsg (r+j))).congr fun x=>by rw[e];grind
theorem IsP.at0 (h:IsP d f)(h0:∀ x,x≠0->f x=0):f 0=0:=by
 obtain⟨c,e⟩:=h;have t:=Za d c fun x n=>by rw[<-e,h0 x n]
 rw[e];unfold evP;exact B5 fun j m=>by rw[t j m];grind
def dpw (x:Rat):Nat->Rat
 |0=>0
 |n+1=>dpw x n*x+pwR x n
theorem Acc (x:Rat):∀ n:Nat,dpw x (n+1)=((n+1:Nat):Rat)*pwR x n
 |0=>by simp only[dpw,pwR];grind
 |n+1=>by
  rw[dpw,Acc x n];simp only[pwR];rw[Axq,Axq,Axq];grind
theorem Wf (x:Rat):∀ n:Nat,∃ d,∃ R:Rat->Rat,IsP d R/\∀ h,pwR (x+h) n=pwR x n+h*dpw x n+h*h*R h
 |0=>⟨0,fun _=>0,IsP.zero 0,fun h=>by simp only[pwR,dpw];grind⟩
 |n+1=>by
  obtain⟨d,R,j,e⟩:=Wf x n;refine⟨d+1,fun h=>dpw x n+(x+1*h)*R h,(IsP.const d _).add (j.mulLin x 1),fun h=>?_⟩;simp only[pwR,dpw];rw[e h];grind
def evD (d:Nat)(c:Nat->Rat)(x:Rat):Rat:=Ak d fun j=>c j*dpw x j
def IsP.ups {d:Nat}{f:Rat->Rat}(h:IsP d f):∀ k,IsP (d+k) f
 |0=>h
 |k+1=>(h.ups k).up
theorem V9 (c:Nat->Rat)(x:Rat):∀ n:Nat,∃ d,∃ R:Rat->Rat,IsP d R/\∀ h,evP n c (x+h)=evP n c x+h*evD n c x+h*h*R h
 |0=>⟨0,fun _=>0,IsP.zero 0,fun h=>by simp only[evP,evD,Ak];grind⟩
 |n+1=>by
  obtain⟨d,R,v,e⟩:=V9 c x n;obtain⟨m,t,j,u⟩:=Wf x n;refine⟨d+m,fun h=>R h+c n*t h,(v.ups m).add (by have:=(j.ups d).smul (c n);rwa[Az5]at this),fun h=>?_⟩;unfold evP evD at e⊢;simp only[Ak];rw[e h,u h];grind
theorem Ap0 {n d:Nat}{c:Nat->Rat}{f G:Rat->Rat}{x:Rat}(u:∀ x,f x=evP n c x)(E:IsP d G)(h:∀ t,f (x+t)=f x+t*G t):G 0=evD n c x:=by
 obtain⟨j,R,F,e⟩:=V9 c x n;have v:IsP (d+j+1) fun t=>G t+(-1)*(evD n c x+t*R t) :=
  ((E.ups j).up).add ((((IsP.const (d+j) (evD n c x))).add ((by have:=(F.ups d).mulx;rwa[show j+d+1=d+j+1 by omega]at this))).smul (-1))
 have I:=v.at0 fun t H=>by
  have z:=h t;rw[u,u,e t]at z;have C:t*(G t+(-1)*(evD n c x+t*R t))=0:=by grind
  rcases A0a.1 C with m|m
  ·exact absurd m H
  exact m
 grind
end
section
variable {A:Nat->Nat->Rat}{S:Nat->Bool}{c:Nat->Rat}{j n:Nat}
def idq (t i:Nat):Rat:=if i=t then 1 else 0
def dgS (S:Nat->Bool)(A:Nat->Nat->Rat)(x:Rat):Nat->Nat->Rat:=fun t i=>if S t then idq t i else x*idq t i+A i t
def Ez (n:Nat)(S:Nat->Bool)(A:Nat->Nat->Rat)(x:Rat):Rat:=qdt n (dgS S A x)
def Di (S:Nat->Bool)(k:Nat):Nat->Bool:=fun t=>if t=k then true else S t
theorem Y1 (S:Nat->Bool)(A:Nat->Nat->Rat)(x:Rat)(t i:Nat):∃ a b:Rat,∀ h,dgS S A (x+h) t i=a+b*h:=by
 unfold dgS;by_cases e:S t=true
 ·exact⟨idq t i,0,fun h=>by rw[if_pos e];grind⟩
 exact⟨x*idq t i+A i t,idq t i,fun h=>by rw[if_neg e];grind⟩
def O6 (n:Nat)(S:Nat->Bool)(A:Nat->Nat->Rat):IsP (n+1) (Ez n S A) :=
 (IsP.det n (C:=fun x=>dgS S A (0+x)) fun t i=>Y1 S A 0 t i).congr fun x=>by
  show qdt n (dgS S A x)=qdt n (dgS S A (0+x));rw[Ax8]
def Io (S:Nat->Bool)(A:Nat->Nat->Rat)(x h:Rat)(k:Nat):Nat->Nat->Rat:=fun t=>if t<k then dgS S A (x+h) t else dgS S A x t
def unS (S:Nat->Bool)(k:Nat):Nat->Rat:=fun i=>if S k then 0 else idq k i
theorem Akh (n:Nat)(S:Nat->Bool)(A:Nat->Nat->Rat)(x h:Rat){k:Nat}(u:k<n) :
 qdt n (Io S A x h (k+1))=qdt n (Io S A x h k)+h*qdt n (Br (Io S A x h k) k (unS S k)):=by
 have d:=It 1 h (dgS S A x k) (unS S k) (Io S A x h k) u;have g:Br (Io S A x h k) k (fun i=>1*dgS S A x k i+h*unS S k i)=Io S A x h (k+1):=by
  funext t
  unfold Br;by_cases e:t=k
  ·subst e;rw[if_pos rfl]
   funext i
   unfold Io;rw[if_pos oV];unfold dgS unS;by_cases e:S t=true
   ·rw[if_pos e,if_pos e,if_pos e];grind
   rw[if_neg e,if_neg e,if_neg e];grind
  rw[if_neg e];unfold Io;by_cases l:t<k
  ·rw[if_pos l,if_pos oV]
  rw[if_neg l,if_neg oV]
 have m:Br (Io S A x h k) k (dgS S A x k)=Io S A x h k:=by
  have:Io S A x h k k=dgS S A x k:=by unfold Io;rw[if_neg oV]
  rw[<-this];exact Fa _ _
 rw[g,m]at d;rw[d];grind
theorem Aex (n:Nat)(S:Nat->Bool)(A:Nat->Nat->Rat)(x h:Rat):∀ k,k<=n->qdt n (Io S A x h k)=Ez n S A x+h*Ak k fun j=>qdt n (Br (Io S A x h j) j (unS S j))
 |0,_=>by
  rw[Ak,show Io S A x h 0=dgS S A x from funext fun t=>by unfold Io;rw[if_neg oV]];unfold Ez;grind
 |k+1,hk=>by
  rw[Akh n S A x h hk,Aex n S A x h k oV,Ak];grind
theorem Akc (z:∀ x,Ez n S A x=evP (n+1) c x)(x:Rat):(Ak n fun k=>if S k then 0 else Ez n (Di S k) A x)=evD (n+1) c x:=by
 have v:IsP (n+1) fun h=>Ak n fun j=>qdt n (Br (Io S A x h j) j (unS S j)):=by
  refine IsP.sum n fun k d=>IsP.det n (C:=fun h=>Br (Io S A x h k) k (unS S k)) fun t i=>?_;unfold Br;by_cases e:t=k
  ·exact⟨unS S k i,0,fun h=>by rw[if_pos e];grind⟩
  unfold Io;by_cases l:t<k
  ·obtain⟨a,b,q⟩:=Y1 S A x t i;exact⟨a,b,fun h=>by rw[if_neg e,if_pos l,q]⟩
  exact⟨dgS S A x t i,0,fun h=>by rw[if_neg e,if_neg l];grind⟩
 have m:=Ap0 (x:=x) z v fun h=>by
  have u:=Aex n S A x h n (Atb _);rw[<-u];unfold Ez;refine Dr fun t E i _=>?_;unfold Io;rw[if_pos E]
 rw[<-m];refine Af fun k d=>?_;have g:Io S A x 0 k=dgS S A x:=funext fun t=>by
  unfold Io;split
  ·rw[Rat.add_zero]
  rfl
 rw[g];by_cases e:S k=true
 ·rw[if_pos e,show unS S k=fun _=>0 from funext fun i=>by unfold unS;rw[if_pos e],Mc _ d]
 rw[if_neg e];unfold Ez
 congr 1
 funext t i
 unfold Br;by_cases et:t=k
 ·subst et;rw[if_pos rfl];unfold dgS Di unS;rw[if_pos rfl,if_pos rfl,if_neg e]
 rw[if_neg et];unfold dgS Di;rw[if_neg et]
theorem Ap1 (n:Nat)(c:Nat->Rat)(x:Rat):evD (n+1) c x=evP n (fun j=>((j+1:Nat):Rat)*c (j+1)) x:=by
 induction n with
 |zero=>unfold evD evP;simp only[Ak,dpw];grind
 |succ n ih =>
  unfold evD evP at ih⊢;rw[Ak,ih,Ak,Acc];grind
theorem Agk {d:Nat}{c c':Nat->Rat}(h:∀ x,evP d c x=evP d c' x)(m:j<d):c j=c' j:=by
 have:=Za d (fun j=>c j+(-1)*c' j) (fun x _=>by
  have e:=h x;unfold evP at e⊢;rw[Af (g:=fun j=>c j*pwR x j+(-1)*(c' j*pwR x j)) fun j _=>by grind,B2,Bk,e];grind) j m
 grind
theorem H4 (z:∀ x,Ez n S A x=evP (n+1) c x){cs:Nat->Nat->Rat}(t:∀ k,k<n->S k=false->∀ x,Ez n (Di S k) A x=evP (n+1) (cs k) x)(C:j<n) :
 ((j+1:Nat):Rat)*c (j+1)=Ak n fun k=>if S k then 0 else cs k j:=by
 have h:=Agk (d:=n+1) (c:=fun j=>if j=n then 0 else ((j+1:Nat):Rat)*c (j+1)) (c':=fun j=>Ak n fun k=>if S k then 0 else cs k j) (fun x=>?_) (show j<n+1 by omega)
 ·rw[if_neg oV]at h;exact h
 have u:=Akc z x;rw[Ap1]at u;have v:evP (n+1) (fun j=>if j=n then 0 else ((j+1:Nat):Rat)*c (j+1)) x=evP n (fun j=>((j+1:Nat):Rat)*c (j+1)) x:=by
  have F:Ak n (fun j=>(if j=n then 0 else ((j+1:Nat):Rat)*c (j+1))*pwR x j)=Ak n (fun j=>((j+1:Nat):Rat)*c (j+1)*pwR x j):=Af fun j C=>by rw[if_neg oV]
  show Ak n (fun j=>(if j=n then 0 else ((j+1:Nat):Rat)*c (j+1))*pwR x j)+(if n=n then 0 else ((n+1:Nat):Rat)*c (n+1))*pwR x n=Ak n (fun j=>((j+1:Nat):Rat)*c (j+1)*pwR x j);rw[F,if_pos rfl];grind
 rw[v,<-u];unfold evP;have H:∀ (m:Nat) (f:Nat->Nat->Rat),(Ak m fun k=>Ak (n+1) fun j=>f k j)=Ak (n+1) fun j=>Ak m fun k=>f k j:=fun m f=>by
  induction m with
  |zero=>simp only[Ak];rw[show (Ak n fun _=>(0:Rat))=0 from B5 fun _ _=>rfl];grind
  |succ m ih=>rw[Ak,ih,<-B2];rfl
 rw[Af (g:=fun k=>Ak (n+1) fun j=>(if S k then 0 else cs k j)*pwR x j) fun k E=>?_,H]
 ·refine Af fun j _=>?_;rw[Af (g:=fun k=>pwR x j*(if S k then 0 else cs k j)) fun k _=>by grind,Bk];grind
 by_cases e:S k=true
 ·rw[if_pos e,B5 fun j _=>by rw[if_pos e];grind]
 rw[if_neg e,t k E (by simpa using e)];unfold evP;exact Af fun j _=>by rw[if_neg e]
end
section
variable {A:Nat->Nat->Rat}{r:Nat}
def rfm (n:Nat)(A:Nat->Nat->Rat)(y:Nat->Rat):Rat:=Ak n fun i=>y i*Ak n fun k=>A i k*y k
def M4 (n:Nat)(A:Nat->Nat->Rat):Prop:=∀ i k,i<n->k<n->A i k=A k i
def Pd (n:Nat)(A:Nat->Nat->Rat):Prop:=∀ y,0<=rfm n A y
theorem O3 (j:M4 (r+1) A)(y:Nat->Rat)(s:Rat) :
 rfm (r+1) A (fun i=>if i=r then s else y i)=rfm r A y+2*s*(Ak r fun k=>A r k*y k)+A r r*s*s:=by
 have e:∀ i,Ak (r+1) (fun k=>A i k*(if k=r then s else y k))=Ak r (fun k=>A i k*y k)+A i r*s:=fun i=>by
  have d:Ak r (fun k=>A i k*(if k=r then s else y k))=Ak r (fun k=>A i k*y k):=Af fun k m=>by rw[if_neg oV]
  show Ak r (fun k=>A i k*(if k=r then s else y k))+A i r*(if r=r then s else y r)=_;rw[d,if_pos rfl]
 unfold rfm;have h:Ak (r+1) (fun i=>(if i=r then s else y i)*Ak (r+1) fun k=>A i k*(if k=r then s else y k))=Ak r (fun i=>y i*(Ak r (fun k=>A i k*y k)+A i r*s))+s*(Ak r (fun k=>A r k*y k)+A r r*s):=by
  have d:Ak r (fun i=>(if i=r then s else y i)*Ak (r+1) fun k=>A i k*(if k=r then s else y k))=Ak r (fun i=>y i*(Ak r (fun k=>A i k*y k)+A i r*s)):=Af fun i hi=>by rw[if_neg oV,e]
  show Ak r (fun i=>(if i=r then s else y i)*Ak (r+1) fun k=>A i k*(if k=r then s else y k))+(if r=r then s else y r)*Ak (r+1) (fun k=>A r k*(if k=r then s else y k))=_;rw[d,if_pos rfl,e]
 rw[h,Af (g:=fun i=>y i*Ak r (fun k=>A i k*y k)+s*(A r i*y i)) fun i hi=>by rw[j i r oV oV];grind,B2,Bk];grind
theorem Aac (d:M4 (r+1) A)(h:Pd (r+1) A):Pd r A:=fun y=>by
 have:=h fun i=>if i=r then 0 else y i
 rw[O3 d]at this;grind
theorem Aai (g:M4 (r+1) A)(h:Pd (r+1) A):0<=A r r:=by
 have:=h fun i=>if i=r then 1 else 0
 rw[O3 g (fun _=>0) 1]at this;have e:rfm r A (fun _=>0)=0:=by unfold rfm;exact B5 fun i _=>by grind
 have d:Ak r (fun k=>A r k*(fun _=>(0:Rat)) k)=0:=B5 fun i _=>by grind
 rw[e,d]at this;grind
theorem Agt (u:M4 (r+1) A)(h:Pd (r+1) A)(h0:A r r=0){j:Nat}(n:j<r):A r j=0:=by
 refine Au2 fun v=>?_;have m:∀ s,0<=rfm r A (idq j)+2*s*A r j:=fun s=>by
  have:=h fun i=>if i=r then s else idq j i
  rw[O3 u,h0,D8 n fun t z d=>by unfold idq;rw[if_neg d];grind]at this;have e:idq j j=1:=if_pos rfl;rw[e]at this;grind
 have g:=m (-(rfm r A (idq j)+1)/(2*A r j));have e:2*(-(rfm r A (idq j)+1)/(2*A r j))*A r j = -(rfm r A (idq j)+1):=by grind
 rw[e]at g;grind
def M5 (r:Nat)(A:Nat->Nat->Rat):Nat->Nat->Rat:=fun i k=>A i k-A i r*A r k/A r r
theorem T2 (d:M4 (r+1) A):M4 r (M5 r A):=fun i k hi e=>by
 unfold M5;rw[d i k oV oV,d i r oV oV,d k r oV oV];grind
theorem S9 (j:M4 (r+1) A)(h:Pd (r+1) A)(h0:A r r≠0):Pd r (M5 r A):=fun y=>by
 have n:=h fun i=>if i=r then -(Ak r fun k=>A r k*y k)/A r r else y i
 rw[O3 j]at n;have e:rfm r (M5 r A) y=rfm r A y+(-(Ak r fun k=>A r k*y k)/A r r)*(Ak r fun k=>A r k*y k):=by
  unfold rfm M5;generalize d:(Ak r fun k=>A r k*y k)=S;have m:∀ i,Ak r (fun k=>(A i k-A i r*A r k/A r r)*y k)=Ak r (fun k=>A i k*y k)+(-(A i r)/A r r)*S:=fun i=>by
   rw[<-d,<-Bk,<-B2];exact Af fun k _=>by grind
  rw[Af (g:=fun i=>y i*Ak r (fun k=>A i k*y k)+(-S/A r r)*(A r i*y i)) fun i hi=>by rw[m,j i r oV oV];grind,B2,Bk,d]
 rw[e];generalize (Ak r fun k=>A r k*y k)=S at *
 have t:2*(-S/A r r)*S+A r r*(-S/A r r)*(-S/A r r)=(-S/A r r)*S:=by grind
 grind
def mnS (S:Nat->Bool)(A:Nat->Nat->Rat):Nat->Nat->Rat:=fun t i=>if S t then idq t i else A i t
def Hm (r:Nat)(C:Nat->Nat->Rat)(m:Nat):Nat->Nat->Rat:=fun t=>if t<m then fun i=>1*C t i+(-(C t r/C r r))*C r i else C t
theorem Afh {r:Nat}(C:Nat->Nat->Rat):∀ m,m<=r->qdt (r+1) (Hm r C m)=qdt (r+1) C
 |0,_=>by
  rw[show Hm r C 0=C from funext fun t=>by unfold Hm;rw[if_neg oV]]
 |m+1,hm=>by
  rw[<-Afh C m oV];have d:=It 1 (-(C m r/C r r)) (C m) (C r) (Hm r C m) (show m<r+1 by omega);have g:Br (Hm r C m) m (fun i=>1*C m i+(-(C m r/C r r))*C r i)=Hm r C (m+1):=by
   funext t
   unfold Br Hm;by_cases e:t=m
   ·subst e;rw[if_pos rfl,if_pos oV]
   rw[if_neg e];by_cases l:t<m
   ·rw[if_pos l,if_pos oV]
   rw[if_neg l,if_neg oV]
  have h:Br (Hm r C m) m (C m)=Hm r C m:=by
   have:Hm r C m m=C m:=by unfold Hm;rw[if_neg oV]
   conv=>lhs;rw[<-this]
   exact Fa _ _
  have j:qdt (r+1) (Br (Hm r C m) m (C r))=0:=Abl (a:=m) (b:=r) oV oV oV (by
   rw[F9,E5 _ oV];unfold Hm;rw[if_neg oV])
  rw[g,h,j]at d;rw[d];grind
theorem Z0 (C:Nat->Nat->Rat)(h0:C r r≠0):qdt (r+1) C=C r r*qdt r (Hm r C r):=by
 rw[<-Afh C r (Atb _),qdt,D8 (j:=r) oV]
 ·rw[Yn,show Hm r C r r=C r from by unfold Hm;rw[if_neg oV]];rw[Dr (C:=B7 r (Hm r C r)) (D:=Hm r C r) fun t ht i _=>by unfold B7;rw[if_pos ht]];grind
 ·intro t ht hne;have:Hm r C r t r=0:=by unfold Hm;rw[if_pos oV];grind
  rw[this];grind
theorem Pi:∀ (n:Nat) (S:Nat->Bool) (A:Nat->Nat->Rat),M4 n A->Pd n A->0<=qdt n (mnS S A)
 |0,_,_,_,_=>by show (0:Rat)<=1;decide
 |r+1,S,A,hs,h=>by
  have j:M4 r A:=fun i k hi C=>hs i k oV oV;by_cases e:S r=true
  ·have m:=Pi r S A j (Aac hs h);have g:mnS S A=Br (mnS S A) r (idq r):=by
    have:mnS S A r=idq r:=funext fun i=>by unfold mnS;rw[if_pos e]
    conv=>rhs;rw[<-this]
    exact (Fa _ _).symm
   rw[g,Z2 _ _ fun i hi=>by unfold idq;rw[if_neg oV],show idq r r=1 from if_pos rfl];grind
  have z:=Aai hs h;have d:∀ i,mnS S A r i=A i r:=fun i=>by unfold mnS;rw[if_neg e]
  by_cases h0:A r r=0
  ·have g:qdt (r+1) (mnS S A)=qdt (r+1) (Br (mnS S A) r fun _=>0):=Dr fun t u i hi=>by
    unfold Br;by_cases et:t=r
    ·subst et;rw[if_pos rfl,d];by_cases v:i=t
     ·subst v;exact h0
     rw[hs i t oV oV];exact Agt hs h h0 oV
    rw[if_neg et]
   rw[g,Mc _ oV];exact Ay4
  have m:=Pi r S (M5 r A) (T2 hs) (S9 hs h h0);rw[Z0 _ (by rw[d];exact h0),d];have g:qdt r (Hm r (mnS S A) r)=qdt r (mnS S (M5 r A)):=Dr fun t u i hi=>by
   unfold Hm;rw[if_pos u,d,d];unfold mnS M5;by_cases et:S t=true
   ·rw[if_pos et,if_pos et,if_pos et];have:idq t r=0:=if_neg oV;rw[this];grind
   rw[if_neg et,if_neg et,if_neg et];grind
  rw[g];exact A0i z m
def D7 (n:Nat)(S:Nat->Bool):Nat:=((List.range n).filter fun k=>!S k).length
theorem Sb {n:Nat}{A:Nat->Nat->Rat}(E:M4 n A)(h:Pd n A):∀ (m:Nat) (S:Nat->Bool) (c:Nat->Rat),D7 n S<=m->(∀ x,Ez n S A x=evP (n+1) c x)->∀ j,j<n+1->0<=c j
 |m,S,c,C,hc,0,_=>by
  have v:=hc 0;have F:Ez n S A 0=qdt n (mnS S A):=by
   unfold Ez
   congr 1
   funext t i
   unfold dgS mnS;split
   ·rfl
   grind
  have H:evP (n+1) c 0=c 0:=by
   unfold evP;rw[D8 (j:=0) oV fun t P N=>by
    obtain⟨s,rfl⟩:∃ s,t=s+1:=⟨t-1,oV⟩;simp only[pwR];grind]
   simp only[pwR];grind
  rw[F,H]at v;rw[<-v];exact Pi n S A E h
 |m,S,c,C,hc,j+1,hj=>by
  have g:∀ k,∃ d:Nat->Rat,∀ x,Ez n (Di S k) A x=evP (n+1) d x:=fun k=>O6 n (Di S k) A;obtain⟨cs,g⟩:∃ cs:Nat->Nat->Rat,∀ k x,Ez n (Di S k) A x=evP (n+1) (cs k) x:=⟨fun k=>(g k).choose,fun k=>(g k).choose_spec⟩;have v:=H4 hc (cs:=cs) (fun k _ _ x=>g k x) (show j<n by omega);have I:0<=Ak n fun k=>if S k then 0 else cs k j:=by
   have z:∀ k,k<n->0<=(if S k then (0:Rat) else cs k j):=fun k z=>by
    by_cases e:S k=true
    ·rw[if_pos e];exact Ay4
    rw[if_neg e];have L:D7 n (Di S k)<D7 n S:=by
     unfold D7;have u:((List.range n).filter fun t=>!Di S k t)=((List.range n).filter fun t=>!S t).filter fun t=>decide (t≠k):=by
      rw[List.filter_filter];refine List.filter_congr fun t _=>?_;unfold Di;by_cases et:t=k
      ·simp[et]
      simp[et]
     rw[u];refine Nat.lt_of_le_of_ne (Aw8 _ _) fun K=>?_;have:=List.length_filter_eq_length_iff.1 K k (Axo.2 ⟨Axf.2 z,by simpa using e⟩);simp at this
    exact Sb E h (m-1) (Di S k) (cs k) oV (g k) j oV
   have:∀ m,m<=n->0<=Ak m fun k=>if S k then 0 else cs k j:=fun m=>by
    induction m with
    |zero=>intro _;exact Ay4
    |succ m ih=>intro C;rw[Ak];exact Rat.add_nonneg (ih oV) (z m oV)
   exact this n (Atb _)
  rw[<-v]at I;have J:(0:Rat)<((j+1:Nat):Rat):=Rat.natCast_pos.2 oV;refine Rat.not_lt.1 fun O=>?_;have:=Azv J (show 0 < -c (j+1) by grind);grind
end
section
variable {A:Nat->Nat->Rat}{S:Nat->Bool}{k n r:Nat}
theorem Agw (e:S r=true):qdt (r+1) (mnS S A)=qdt r (mnS S A):=by
 have d:mnS S A=Br (mnS S A) r (idq r):=by
  have:mnS S A r=idq r:=funext fun i=>by unfold mnS;rw[if_pos e]
  conv=>rhs;rw[<-this]
  exact (Fa _ _).symm
 conv=>lhs;rw[d]
 rw[Z2 _ _ fun i hi=>by unfold idq;rw[if_neg oV],show idq r r=1 from if_pos rfl];grind
theorem Akf (e:S r=false)(h0:A r r≠0):qdt (r+1) (mnS S A)=A r r*qdt r (mnS S (M5 r A)):=by
 have d:∀ i,mnS S A r i=A i r:=fun i=>by unfold mnS;rw[if_neg (by simp[e])]
 rw[Z0 _ (by rw[d];exact h0),d];have g:qdt r (Hm r (mnS S A) r)=qdt r (mnS S (M5 r A)):=Dr fun t h i hi=>by
  unfold Hm;rw[if_pos h,d,d];unfold mnS M5;by_cases et:S t=true
  ·rw[if_pos et,if_pos et,if_pos et];have:idq t r=0:=if_neg oV;rw[this];grind
  rw[if_neg et,if_neg et,if_neg et];grind
 rw[g]
def Ao7 (d:M4 (r+1) A)(h:Pd (r+1) A)(e:S r=false)(h0:A r r=0):qdt (r+1) (mnS S A)=0:=by
 have g:qdt (r+1) (mnS S A)=qdt (r+1) (Br (mnS S A) r fun _=>0):=Dr fun t m i hi=>by
  unfold Br;by_cases et:t=r
  ·subst et;rw[if_pos rfl];unfold mnS;rw[if_neg (by simp[e])];by_cases j:i=t
   ·subst j;exact h0
   rw[d i t oV oV];exact Agt d h h0 oV
  rw[if_neg et]
 rw[g,Mc _ oV]
def Aom (S:Nat->Bool)(k:Nat):Di S k k=true:=if_pos rfl
def Yf (S:Nat->Bool){k t:Nat}(h:t≠k):Di S k t=S t:=if_neg h
theorem Qv:∀ (n:Nat) (S:Nat->Bool) (A:Nat->Nat->Rat),M4 n A->Pd n A->0<qdt n (mnS S A)->(∃ k,k<n/\S k=false)->∃ k,k<n/\S k=false/\0<qdt n (mnS (Di S k) A)
 |0,_,_,_,_,_,⟨k,v,_⟩=>oV
 |r+1,S,A,hs,h,hp,⟨k0,hk0,hS0⟩=>by
  have z:M4 r A:=fun i k hi v=>hs i k oV oV;cases e:S r with
  |true =>
   rw[Agw e]at hp;have v:k0<r:=by
    refine Au2 fun H=>?_;have:k0=r:=oV;rw[this,e]at hS0;cases hS0
   obtain⟨k,F,d,m⟩:=Qv r S A z (Aac hs h) hp ⟨k0,v,hS0⟩;exact⟨k,oV,d,by rw[Agw (by rw[Yf _ oV];exact e)];exact m⟩
  |false =>
   have h0:A r r≠0:=fun h0=>by rw[Ao7 hs h e h0]at hp;exact absurd hp fV
   have J:=Aai hs h;rw[Akf e h0]at hp;have K:=Pi r S (M5 r A) (T2 hs) (S9 hs h h0);have g:0<qdt r (mnS S (M5 r A)):=by
    refine Au2 fun H=>?_;have:qdt r (mnS S (M5 r A))=0:=by grind
    rw[this]at hp;grind
   have u:0<A r r:=by grind
   by_cases C:∃ k,k<r/\S k=false
   ·obtain⟨k,F,d,m⟩:=Qv r S (M5 r A) (T2 hs) (S9 hs h h0) g C;exact⟨k,oV,d,by rw[Akf (by rw[Yf _ oV];exact e) h0];exact Azv u m⟩
   refine⟨r,oV,e,?_⟩;rw[Agw (Aom _ _)];have E:qdt r (mnS (Di S r) A)=qdt r (mnS S (M5 r A)):=Dr fun t I i hi=>by
    have j:S t=true:=by
     cases d:S t with
     |true=>rfl
     |false=>exact absurd ⟨t,I,d⟩ C
    unfold mnS;rw[Yf _ oV,if_pos j,if_pos j]
   rw[E];exact g
theorem Acx {c:Nat->Rat}:evP (n+1) c 0=c 0:=by
 unfold evP;rw[D8 (j:=0) oV fun t e d=>by
  obtain⟨s,rfl⟩:∃ s,t=s+1:=⟨t-1,oV⟩;simp only[pwR];grind]
 simp only[pwR];grind
theorem Ty :Ez n S A 0=qdt n (mnS S A):=by
 unfold Ez
 congr 1
 funext t i
 unfold dgS mnS;split
 ·rfl
 grind
def Af1 {f:Nat->Rat}:∀ {n:Nat},(∀ k,k<n->0<=f k)->0<=Ak n f
 |0,_=>Ay4
 |n+1,h=>by rw[Ak];exact Rat.add_nonneg (Af1 fun k d=>h k oV) (h n oV)
theorem T8 {f:Nat->Rat}:∀ {n:Nat},(∀ k,k<n->0<=f k)->∀ {j:Nat},j<n->0<f j->0<Ak n f
 |0,_,j,hj,_=>oV
 |n+1,h,j,hj,hp=>by
  rw[Ak];by_cases e:j=n
  ·subst e;have:=Af1 (n:=j) (f:=f) fun k d=>h k oV;grind
  have:=T8 (n:=n) (f:=f) (fun k d=>h k oV) (j:=j) oV hp;have:=h n oV;grind
theorem Ae2 {f:Nat->Rat}:∀ {n:Nat},0<Ak n f->∃ k,k<n/\0<f k
 |0,h=>absurd h (by simp only[Ak];decide)
 |n+1,h=>by
  rw[Ak]at h;by_cases e:0<f n
  ·exact⟨n,oV,e⟩
  obtain⟨k,g,d⟩:=Ae2 (n:=n) (f:=f) (by grind);exact⟨k,oV,d⟩
def Aae (h:k<n)(e:S k=false):D7 n (Di S k)<D7 n S:=by
 unfold D7;have d:((List.range n).filter fun t=>!Di S k t)=((List.range n).filter fun t=>!S t).filter fun t=>decide (t≠k):=by
  rw[List.filter_filter];refine List.filter_congr fun t _=>?_;unfold Di;by_cases et:t=k
  ·simp[et]
  simp[et]
 rw[d];refine Nat.lt_of_le_of_ne (Aw8 _ _) fun g=>?_;have:=List.length_filter_eq_length_iff.1 g k (Axo.2 ⟨Axf.2 h,by simp[e]⟩);simp at this
def Y2 (n:Nat)(S:Nat->Bool)(A:Nat->Nat->Rat):∃ cs:Nat->Nat->Rat,∀ k x,Ez n (Di S k) A x=evP (n+1) (cs k) x:=by
 have e:∀ k,∃ d:Nat->Rat,∀ x,Ez n (Di S k) A x=evP (n+1) d x:=fun k=>O6 n (Di S k) A;exact⟨fun k=>(e k).choose,fun k=>(e k).choose_spec⟩
theorem Uj {j:Nat}{c:Rat}(h:0<((j+1:Nat):Rat)*c):0<c:=by
 have d:(0:Rat)<((j+1:Nat):Rat):=Rat.natCast_pos.2 oV;refine Au2 fun g=>?_;by_cases e:c=0
 ·rw[e]at h;grind
 have:=Azv d (show 0 < -c by grind);grind
def Ael (k:Nat):∀ {l:List Nat},l.Nodup->l.length<=(l.filter fun t=>decide (t≠k)).length+1
 |[],_=>mV
 |a::l,h=>by
  obtain⟨j,m⟩:=Awr.1 h;by_cases d:a=k
  ·have e:l.filter (fun t=>decide (t≠k))=l:=List.filter_eq_self.2 fun t g=>by
    have:t≠k:=fun e=>j (by rw[d,<-e];exact g);exact decide_eq_true this
   rw[A09 (by simp[d]),e,Auh];exact Atb _
  have:=Ael k m;rw[A1a (by simp[d]),Auh,Auh];omega
def Z3 {n:Nat}{A:Nat->Nat->Rat}(E:M4 n A)(h:Pd n A):∀ (m:Nat) (S:Nat->Bool) (c:Nat->Rat),D7 n S<=m->(∀ x,Ez n S A x=evP (n+1) c x)->∀ j,j<n->0<c j->(∃ k,k<n/\S k=false)->(∀ k,k<n->S k=false->j<D7 n S)->0<c (j+1)
 |m,S,c,hm,hc,0,hj,hp,hf,hjf=>by
  obtain⟨cs,d⟩:=Y2 n S A;have F:=H4 hc (cs:=cs) (fun k _ _ x=>d k x) hj;have h0:=hc 0;rw[Ty,Acx]at h0;obtain⟨k,C,g,u⟩:=Qv n S A E h (by rw[h0];exact hp) hf;refine Uj (j:=0) ?_;rw[F];refine T8 (fun t I=>?_) C ?_
  ·by_cases e:S t=true
   ·rw[if_pos e];exact Ay4
   rw[if_neg e];exact Sb E h _ (Di S t) (cs t) (Atb _) (d t) 0 oV
  rw[if_neg (by simp[g])];have J:=d k 0;rw[Ty,Acx]at J;rw[<-J];exact u
 |m,S,c,hm,hc,j+1,hj,hp,hf,hjf=>by
  obtain⟨cs,d⟩:=Y2 n S A;have F:=H4 hc (cs:=cs) (fun k _ _ x=>d k x) (show j<n by omega);have K:=H4 hc (cs:=cs) (fun k _ _ x=>d k x) hj;have L:0<Ak n fun k=>if S k then 0 else cs k j:=by
   rw[<-F];exact Azv (Rat.natCast_pos.2 oV) hp
  obtain⟨k,C,g⟩:=Ae2 L;have u:S k=false:=by
   cases e:S k with
   |true=>rw[e]at g;exact absurd g mV
   |false=>rfl
  rw[if_neg (by simp[u])]at g;have P:=Aae C u;have O:=hjf k C u;have N:D7 n S<=D7 n (Di S k)+1:=by
   unfold D7;have z:((List.range n).filter fun t=>!Di S k t)=((List.range n).filter fun t=>!S t).filter fun t=>decide (t≠k):=by
    rw[List.filter_filter];refine List.filter_congr fun t _=>?_;unfold Di;by_cases et:t=k
    ·simp[et]
    simp[et]
   rw[z];have H:((List.range n).filter fun t=>!S t).Nodup:=List.nodup_range.sublist List.filter_sublist;exact Ael k H
  have Q:0<cs k (j+1):=by
   by_cases v:∃ t,t<n/\Di S k t=false
   ·exact Z3 E h (m-1) (Di S k) (cs k) oV (d k) j oV g v (fun _ _ _=>oV)
   exfalso;have:D7 n (Di S k)=0:=by
    unfold D7;rw[List.filter_eq_nil_iff.2 fun t I=>by
     have:=Axf.1 I;cases e:Di S k t with
     |true=>simp
     |false=>exact absurd ⟨t,this,e⟩ v];rfl
   omega
  refine Uj (j:=j+1) ?_;rw[K];refine T8 (fun t I=>?_) C (by rw[if_neg (by simp[u])];exact Q);by_cases e:S t=true
  ·rw[if_pos e];exact Ay4
  rw[if_neg e];exact Sb E h _ (Di S t) (cs t) (Atb _) (d t) (j+1) oV
end
end Go.Proofs.YtnafchoihfnkeaaGreatDoor
