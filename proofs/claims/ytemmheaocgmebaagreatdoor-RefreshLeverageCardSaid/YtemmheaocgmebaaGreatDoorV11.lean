import Derived.Test.YtemmheaocgmebaaGreatDoorV10
set_option linter.defProp false
set_option linter.unusedVariables false
set_option linter.unusedSimpArgs false
set_option linter.unusedSectionVars false
set_option maxHeartbeats 16000000
namespace Go.Proofs.YtemmheaocgmebaaGreatDoor
open Go.Proofs.Tryz
open Go.RowKit Go.MapKept
def Bbs:=@Rat.natCast_add
def A9i:=@List.length_eq_zero_iff
def A83:=@Array.size_modify
section
def ElP.fld {u:PH}{b off j:Nat}{xs:Array Value}{x:Value}(h:ElP u b off (.agg xs))(C:xs[j]?=some x)(t:x.cells = #[x]):ElP u b (off+j) x:=h.sub fun i y e=>by
 rw[t]at e
 match i,e with
 |0,e=>simp at e;subst e;exact C
 |i+1,e=>simp at e
def Ajn (P:Program):List KI×S->zV->List KI×S
 |st,[]=>st
 |st,v::l=>Ajn P (nx (adv P st) v) l
section
variable {P:Program} [A6 P] {fn:Func} {Post:Ce} {st:List KI×S} {u m:PH}
def G.joinF {ι:Type}(f:List KI×S->List KI×S)(T:ι->List (Nat×SV))(B:ι->List (Nat×Blk))(C:ι->PH->PH->Prop)(L:∀ i,Up (T i) (B i)=true)(Q:F2 (Ff P 200 (f st)).1=true)
 (E:∀ i h j,PH.le u h->C i h j->G P fn Post ((Ff P 200 (f st)).1,S.of (Ff P 200 (f st)).2.n (T i) (B i)) h j)
 (k:(∀ i e h j,(Ff P 200 e).1=(Ff P 200 (f st)).1->Cov (Ff P 200 (f st)).2.n (Ff P 200 e).2 (T i) (B i)->PH.le u h->C i h j->G P fn Post e h j)->G P fn Post st u m):G P fn Post st u m:=by
 refine k fun i e h j H F I J=>?_;have K:Cov (Ff P 200 e).2.n (Ff P 200 e).2 (T i) (B i):=⟨rfl,F.t,F.b⟩;refine G.canon (T i) (B i) (by rw[H];exact Q) (L i) K ?_;rw[H,F.n];exact E i h j I J
end
def Aeo {L:zW}(h:L.Nodup){i k:Nat}{x y:zB}(E:L[i]?=some x)(F:L[k]?=some y)(j:k≠i):y≠x:=fun e=>by
 subst e;obtain⟨a1,a2⟩:=A05.1 E;obtain⟨t,C⟩:=A05.1 F;rcases Nat.lt_or_gt_of_ne j with e|e
 ·exact absurd (C.trans a2.symm) (A3n.1 h k i t a1 e)
 exact absurd (a2.trans C.symm) (A3n.1 h i k a1 t e)
def Rr {u:PH}{s:zB}(h:Hn s=true):zF 107 [zS s] u fun v _=>v=zT:=by
 obtain⟨H,I⟩:=Aa2 h;obtain⟨c0,j⟩:∃ c,s[0]?=some c:=⟨_,A01 oV⟩;have K:=Y3 h j;refine Fn0.o func107<|G.eF s.length 0<|G.gF s.length 12<|G.idxS s 0 c0 kV j<|G.cmpG .lss .u8 (c0.toNat:Int) 97 false kV rfl (by simp only[Db,decide_eq_false_iff_not];omega)<|G.idxS s 0 c0 kV j<|G.cmpG .gtr .u8 (c0.toNat:Int) 122 false kV rfl (by simp only[Db,decide_eq_false_iff_not];omega)<|G.l (ι:=Nat) (fun i=>[(0,tV s),(3,iV i)]) (fun _=>[])
  (fun i T L=>i<=s.length/\L=PH.mt) (fun i=>s.length-i) 0 ⟨oV,rfl⟩ ?_
 rintro J i t U R l2 ⟨hi,rfl⟩;by_cases C:i<s.length
 ·refine G.lT i s.length ?_;obtain⟨b,e⟩:∃ b,s[i]?=some b:=⟨_,A01 C⟩;have Q:=Y3 h e;refine G.idxS s i b kV e ?_;by_cases F:97<=b.toNat
  ·exact G.cmpG .geq .u8 (b.toNat:Int) 97 true kV rfl (by simp only[Db,decide_eq_true_eq];omega)<|G.idxS s i b kV e<|G.cmpG .leq .u8 (b.toNat:Int) 122 true kV rfl (by simp only[Db,decide_eq_true_eq];omega)<|G.i i<|G.b (t (i+1) _ _ _ cV l2 ⟨oV,rfl⟩ oV)
  refine G.cmpG .geq .u8 (b.toNat:Int) 97 false kV rfl (by simp only[Db,decide_eq_false_iff_not];omega)<|G.idxS s i b kV e ?_;by_cases E:48<=b.toNat
  ·exact G.cmpG .geq .u8 (b.toNat:Int) 48 true kV rfl (by simp only[Db,decide_eq_true_eq];omega)<|G.idxS s i b kV e<|G.cmpG .leq .u8 (b.toNat:Int) 57 true kV rfl (by simp only[Db,decide_eq_true_eq];omega)<|G.i i<|G.b (t (i+1) _ _ _ cV l2 ⟨oV,rfl⟩ oV)
  exact G.cmpG .geq .u8 (b.toNat:Int) 48 false kV rfl (by simp only[Db,decide_eq_false_iff_not];omega)<|G.idxS s i b kV e<|G.cmpG .eql .u8 (b.toNat:Int) 45 true kV rfl (by simp only[Db,decide_eq_true_eq];omega)<|G.i i<|G.b (t (i+1) _ _ _ cV l2 ⟨oV,rfl⟩ oV)
 obtain rfl:i=s.length:=oV;exact G.lF s.length s.length<|G.z zT
def T2 {u:PH}{v:Value}{T:List (List UInt8×Nat)}{R:List Br}{F:List Al}{lab:Int}(h:H5 u v T R F lab)(ok:Bl u T R F lab) :
 Fn0 prog 45 [v] u fun r _=>r=.int .i64 0:=by
 obtain⟨xa,xc,xb,X,xe,xf,rfl,hT,hR,hF⟩:=h;have t1:=ok.t1;have t2:=ok.t2;have r1:=ok.r1;have r2:=ok.r2;have f2:=ok.f2;have lo:=ok.l1;have hi:lab<T.length:=by
  rcases A5q lab 0 with aq|bg
  ·omega
  obtain⟨n,hn⟩:=ok.l2 lab.toNat oV;obtain⟨hk,_⟩:=A05.1 hn;omega
 refine Fn0.o func45<|G.eF T.length 0<|G.gF T.length 12<|G.eF R.length 0<|G.gF R.length 6<|G.gF F.length 8<|G.l (ι:=Nat) (fun i=>[(1,.p 0 0),(49,sV xa T.length xc),(50,iV T.length),(51,iV i)])
  (fun _=>[(0,⟨30,[sV xa T.length xc,sV xb R.length X,sV xe F.length xf,iV lab]⟩)])
  (fun i u' U=>i<=T.length/\U=PH.mt) (fun i=>T.length-i) 0 ⟨oV,rfl⟩ ?_
 rintro J i hJ u1 m1 l1 ⟨bo,rfl⟩;by_cases aq:i<T.length
 ·refine G.lT i T.length ?_;obtain⟨x,an⟩:∃ x,T[i]?=some x:=⟨_,A01 aq⟩;have b6:=A1k an;obtain⟨bi,bj⟩:=ok.att.kind x b6;have C:=ok.att.names.word x.1 (A1b.2 ⟨x,b6,rfl⟩);have W:(T.map (·.1))[i]?=some x.1:=by rw[A1a,an];rfl
  obtain⟨K,V,rfl,ea⟩:=Ac.at' (hT.mono l1) (j:=i) (e:=D9 x) (by simp[an]);obtain⟨xn,xk⟩:=x;simp only at bi bj C W;refine G.a K V T.length xc i 2 aq<|G.lU (some 2) K (V+i*2) (.agg #[.string (mkS xn),.int .i64 xk]) ea<|G.c call107 (Rr C) ?_;rintro v2 u2 l2 rfl;refine G.l (ι:=Nat) (fun k=>[(1,.p 0 0),(3,iV i),(4,.p 5003 0),(5,iV k),(49,sV (some ⟨K,V,none⟩) T.length xc),(50,iV T.length),(51,iV i)])
   (fun _=>[(0,⟨30,[sV (some ⟨K,V,none⟩) T.length xc,sV xb R.length X,sV xe F.length xf,iV lab]⟩),(5003,⟨96,[tV xn,iV xk]⟩)])
   (fun k u' U=>k<=i/\U=PH.mt) (fun k=>i-k) 0 ⟨oV,rfl⟩ ?_
  rintro J2 k E u3 m3 l3 ⟨hk,rfl⟩;by_cases ap:k<i
  ·refine G.lT k i ?_;obtain⟨y,a1⟩:∃ y,T[k]?=some y:=⟨_,A01 oV⟩;have a5:(T.map (·.1))[k]?=some y.1:=by rw[A1a,a1];rfl
   have aa:=Aeo ok.att.names.nodup W a5 oV;obtain⟨_,_,e',ek⟩:=Ac.at' (hT.mono ((l1.trans l2).trans l3)) (j:=k) (e:=D9 y) (by simp[a1]);cases e';exact G.a K V T.length xc k 2 oV<|G.f 96 K (V+k*2) 0 0<|G.lU none K (V+k*2+0) (.string (mkS y.1)) (ek.fld rfl rfl)<|G.w y.1 xn aa<|G.i k<|G.b (E (k+1) _ _ _ cV l3 ⟨oV,rfl⟩ oV)
  obtain rfl:k=i:=oV;exact G.lF k k<|G.lF xk 1<|G.gF xk 3<|G.i k<|G.b (hJ (k+1) _ _ _ cV ((l1.trans l2).trans l3) ⟨oV,rfl⟩ oV)
 obtain rfl:i=T.length:=oV;refine G.lF T.length T.length ?_;clear hJ;refine G.make 4 1 1 (.bool false) T.length kV rfl rfl oV oV oV ?_;rintro v1 mA au ⟨ad,rfl⟩;obtain⟨g,rfl,_⟩:=au.some';refine G.l (ι:=Nat×List Bool) (fun i=>[(1,.p 0 0),(6,sV (some ⟨g,0,none⟩) T.length T.length),(88,sV xb R.length X),(89,iV R.length),(90,iV i.1)])
  (fun _=>[(0,⟨30,[sV xa T.length xc,sV xb R.length X,sV xe F.length xf,iV lab]⟩)])
  (fun i u' U=>i.1<=R.length/\i.2.length=T.length/\(∀ r∈R.take i.1,∀ q∈r.2.1,i.2[q]?=some true)/\Af PH.mt U (.slice (some ⟨g,0,none⟩) T.length T.length) 4 1 (i.2.map Value.bool)) (fun i=>R.length-i.1) (0,List.replicate T.length false)
  ⟨mV,mV,mV,by rw[A8z];exact au⟩ ?_
 rintro J ⟨i,L⟩ hJ u2 m2 l2 ⟨bh,hL,a0,aj⟩;simp only at bh hL a0 aj hJ;have ac:=l1.trans l2;by_cases af:i<R.length
 ·refine G.lT i R.length ?_;obtain⟨q,a8⟩:∃ q,R[i]?=some q:=⟨_,A01 af⟩;have I:=A1k a8;have b4:R.take (i+1)=R.take i++[q]:=by rw[A1n,a8];rfl
  have C:=ok.rel.names.word q.1 (A1b.2 ⟨q,I,rfl⟩);have W:(R.map (·.1))[i]?=some q.1:=by rw[A1a,a8];rfl
  obtain⟨K,V,rfl,ea⟩:=Ac.at' (hR.mono ac) (j:=i) (e:=Hs q) (by simp[a8]);obtain⟨qs,t,qa,qc⟩:=q;have aa:t≠[]:=ok.rel.ne _ I;have bk:∀ p∈t,p<T.length:=ok.rel.lt _ I;have bw:t.length<=1000:=ok.rel.len _ I;have ax:∀ (k:Nat) x y,t[k]?=some x->t[k+1]?=some y->x<y:=ok.rel.asc _ I;have b3:Ac u2 (.slice qa t.length qc) 1 (Ai t):=(ok.rel.at' _ I).mono ac;have bu:0<t.length:=A4f.2 aa;simp only at C W;refine G.a K V R.length X i 2 af<|G.lU (some 2) K (V+i*2) (.agg #[.string (mkS qs),.slice qa t.length qc]) ea<|G.c call107 (Rr C) ?_;rintro v3 u3 l3 rfl;refine G.l (ι:=Nat) (fun k=>[(1,.p 0 0),(6,sV (some ⟨g,0,none⟩) T.length T.length),(7,iV i),(8,.p 19003 0),(9,iV k),(88,sV (some ⟨K,V,none⟩) R.length X),(89,iV R.length),(90,iV i)])
   (fun _=>[(0,⟨30,[sV xa T.length xc,sV (some ⟨K,V,none⟩) R.length X,sV xe F.length xf,iV lab]⟩),(19003,⟨98,[tV qs,sV qa t.length qc]⟩)])
   (fun k u' U=>k<=i/\U=m2) (fun k=>i-k) 0 ⟨oV,rfl⟩ ?_
  rintro J2 k E u4 m4 l4 ⟨hk,rfl⟩;by_cases ap:k<i
  ·refine G.lT k i ?_;obtain⟨y,a1⟩:∃ y,R[k]?=some y:=⟨_,A01 oV⟩;have a5:(R.map (·.1))[k]?=some y.1:=by rw[A1a,a1];rfl
   have b0:=Aeo ok.rel.names.nodup W a5 oV;obtain⟨_,_,e',ek⟩:=Ac.at' (hR.mono ((ac.trans l3).trans l4)) (j:=k) (e:=Hs y) (by simp[a1]);cases e';exact G.a K V R.length X k 2 oV<|G.f 98 K (V+k*2) 0 0<|G.lU none K (V+k*2+0) (.string (mkS y.1)) (ek.fld rfl rfl)<|G.w y.1 qs b0<|G.i k<|G.b (E (k+1) _ _ _ cV l4 ⟨oV,rfl⟩ oV)
  obtain rfl:k=i:=oV;refine G.lF k k ?_;clear E;refine G.eF t.length 0<|G.l (ι:=Nat×List Bool) (fun j=>[(1,.p 0 0),(6,sV (some ⟨g,0,none⟩) T.length T.length),(8,.p 19003 0),(88,sV (some ⟨K,V,none⟩) R.length X),(89,iV R.length),(90,iV k),(118,sV qa t.length qc),(119,iV t.length),(120,iV j.1)])
   (fun _=>[(0,⟨30,[sV xa T.length xc,sV (some ⟨K,V,none⟩) R.length X,sV xe F.length xf,iV lab]⟩),(19003,⟨98,[tV qs,sV qa t.length qc]⟩)])
   (fun j u' U=>j.1<=t.length/\j.2.length=T.length/\(∀ r∈R.take k,∀ q∈r.2.1,j.2[q]?=some true)/\(∀ q∈t.take j.1,j.2[q]?=some true)/\Af PH.mt U (.slice (some ⟨g,0,none⟩) T.length T.length) 4 1 (j.2.map Value.bool)) (fun j=>t.length-j.1) (0,L)
   ⟨mV,hL,a0,mV,aj⟩ ?_
  rintro J2 ⟨j,L2⟩ E u6 m6 l6 ⟨hj,am,Y,Q,ak⟩;simp only at hj am Y Q ak E;have b7:=(l3.trans l4).trans l6;have a6:=b3.mono b7;by_cases ah:j<t.length
  ·refine G.lT j t.length ?_;obtain⟨p,ar⟩:∃ p,t[j]?=some p:=⟨_,A01 ah⟩;have bl:p<T.length:=bk _ (A1k ar);have b5:t.take (j+1)=t.take j++[p]:=by rw[A1n,ar];rfl
   obtain⟨bq,oq,rfl,eq⟩:=Ac.at' a6 (j:=j) (e:=.int .i64 p) (by simp[Ai,ar]);refine G.a bq oq t.length qc j 1 ah<|G.lU none bq (oq+j*1) (.int .i64 p) eq<|G.lF p 0<|G.hF p T.length<|G.a g 0 T.length T.length p 1 bl<|G.storeA 1 PH.mt (L2.map Value.bool) g T.length T.length p (.bool true) kV ak (by rw[A03];omega) rfl rfl ?_;intro m7 av;rw[Sd]at av;refine G.i j ?_;have a2:∀ q,L2[q]?=some true->(L2.set p true)[q]?=some true:=fun q hq=>by
    rw[A1z];split
    ·subst_vars;rw[if_pos oV]
    exact hq
   exact G.b (E (j+1,L2.set p true) _ _ _ cV l6 ⟨dV,by simp[am],fun r hr q hq=>a2 q (Y r hr q hq),by
    intro q hq;dsimp only at hq⊢;rw[b5,A1h,A12]at hq;rcases hq with hq|rfl
    ·exact a2 q (Q q hq)
    rw[A1z];simp;omega,av⟩ dV)
  obtain rfl:j=t.length:=oV;refine G.lF t.length t.length ?_;clear E;rw[A15]at Q;refine G.l (ι:=Nat) (fun j=>[(1,.p 0 0),(6,sV (some ⟨g,0,none⟩) T.length T.length),(8,.p 19003 0),(12,iV (j+1:Nat)),(88,sV (some ⟨K,V,none⟩) R.length X),(89,iV R.length),(90,iV k)])
   (fun _=>[(0,⟨30,[sV xa T.length xc,sV (some ⟨K,V,none⟩) R.length X,sV xe F.length xf,iV lab]⟩),(19003,⟨98,[tV qs,sV qa t.length qc]⟩)])
   (fun j u' U=>j+1<=t.length/\U=m6) (fun j=>t.length-j) 0
   ⟨oV,rfl⟩ ?_
  rintro J3 j bd u8 m8 l8 ⟨bs,rfl⟩;have a7:=a6.mono l8;by_cases ai:j+1<t.length
  ·refine G.lT (j+1:Nat) t.length ?_;obtain⟨H,b1⟩:∃ p,t[j]?=some p:=⟨_,A01 oV⟩;obtain⟨p2,b2⟩:∃ p,t[j+1]?=some p:=⟨_,A01 ai⟩;have a4:=ax j _ _ b1 b2;obtain⟨bq,oq,rfl,b9⟩:=Ac.at' a7 (j:=j+1) (e:=.int .i64 p2) (by simp[Ai,b2]);obtain⟨_,_,e',b8⟩:=Ac.at' a7 (j:=j) (e:=.int .i64 H) (by simp[Ai,b1]);cases e';exact G.a bq oq t.length qc (j+1) 1 ai<|G.lU none bq (oq+(j+1)*1) (.int .i64 p2) b9<|G.s (j+1:Nat) 1 j<|G.a bq oq t.length qc j 1 oV<|G.lU none bq (oq+j*1) (.int .i64 H) b8<|G.kF p2 H<|G.p (j+1:Nat) 1 (j+1+1:Nat)<|G.b (bd (j+1) _ _ _ cV l8 ⟨oV,rfl⟩ oV)
  refine G.lF (j+1:Nat) t.length<|G.i k ?_;exact G.b (hJ (k+1,L2) _ _ _ cV ((l2.trans b7).trans l8) ⟨dV,am,by
   intro r hr q hq;dsimp only at hr hq⊢;rw[b4,A1h,A12]at hr;rcases hr with hr|rfl
   ·exact Y r hr q hq
   exact Q q hq,ak⟩ dV)
 obtain rfl:i=R.length:=oV;refine G.lF R.length R.length ?_;clear hJ;rw[A15]at a0;refine G.l (ι:=Nat) (fun i=>[(1,.p 0 0),(6,sV (some ⟨g,0,none⟩) T.length T.length),(156,sV (some ⟨g,0,none⟩) T.length T.length),(157,iV T.length),(158,iV i)])
  (fun _=>[(0,⟨30,[sV xa T.length xc,sV xb R.length X,sV xe F.length xf,iV lab]⟩)])
  (fun i u' U=>i<=T.length/\U=m2) (fun i=>T.length-i) 0 ⟨oV,rfl⟩ ?_
 rintro J i hJ u3 m3 l3 ⟨bp,rfl⟩;by_cases a4:i<T.length
 ·refine G.lT i T.length ?_;have be:L[i]?=some true:=by
   obtain⟨r,hr,hq⟩:=ok.rel.all i a4;exact a0 r hr i hq
  exact G.a g 0 T.length T.length i 1 a4<|G.lM none g (0+i*1) (.bool true) (aj.el (by rw[A1a,be];rfl))<|G.i i<|G.b (hJ (i+1) _ _ _ cV l3 ⟨oV,rfl⟩ oV)
 obtain rfl:i=T.length:=oV;refine G.lF T.length T.length ?_;clear hJ;have bm:=ac.trans l3;refine G.l (ι:=Nat) (fun i=>[(1,.p 0 0),(6,sV (some ⟨g,0,none⟩) T.length T.length),(166,sV xe F.length xf),(167,iV F.length),(168,iV i)])
  (fun _=>[(0,⟨30,[sV xa T.length xc,sV xb R.length X,sV xe F.length xf,iV lab]⟩)])
  (fun i u' U=>i<=F.length/\U=m3) (fun i=>F.length-i) 0 ⟨oV,rfl⟩ ?_
 rintro J i hJ u4 m4 l4 ⟨br,rfl⟩;have ae:=bm.trans l4;by_cases ag:i<F.length
 ·refine G.lT i F.length ?_;obtain⟨f,al⟩:∃ f,F[i]?=some f:=⟨_,A01 ag⟩;have bf:=A1k al;obtain⟨fn,fk,ay,a3,az⟩:=ok.feat.ok f bf;obtain⟨a9,_⟩:=A05.1 ay;have W:(F.map (·.1))[i]?=some f.1:=by rw[A1a,al];rfl
  obtain⟨fb,fo,rfl,ef⟩:=Ac.at' (hF.mono ae) (j:=i) (e:=Cm f) (by simp[al]);obtain⟨ab,ao,rfl,ea⟩:=Ac.at' (hT.mono ae) (j:=f.1) (e:=D9 (fn,fk)) (by simp[ay]);obtain⟨H,p2,p3⟩:=f;simp only at a3 az a9 W ea;refine G.a fb fo F.length xf i 3 ag<|G.lU (some 3) fb (fo+i*3) (.agg #[.int .i64 H,.int .i64 p2,.int .i64 p3]) ef<|G.lF H 0<|G.hF H T.length<|G.joinF (ι:=Unit) (fun st=>Ip prog (Ajn prog st [.bool false,.bool true,.bool true,undef,undef,undef,.bool true])) (fun _=>[(1,.p 0 0),(6,sV (some ⟨g,0,none⟩) T.length T.length),(15,iV i),(16,.p 50003 0),(166,sV (some ⟨fb,fo,none⟩) F.length xf),(167,iV F.length),(168,iV i)])
   (fun _=>[(0,⟨30,[sV (some ⟨ab,ao,none⟩) T.length xc,sV xb R.length X,sV (some ⟨fb,fo,none⟩) F.length xf,iV lab]⟩),(50003,⟨100,[iV H,iV p2,iV p3]⟩)])
   (fun _ u' U=>u'=u4/\U=m4) (fun _=>kV) kV ?tail ?way
  case way =>
   intro Z;rcases a3 with ⟨rfl,rfl,bt⟩|⟨rfl,rfl,rfl⟩
   ·refine G.eT (1:Nat) 1 ?_;rcases (by omega:p3=0\/p3=1) with rfl|rfl
    ·refine G.eT (0:Nat) 0<|G.a ab ao T.length xc H 2 a9<|G.f 96 ab (ao+H*2) 1 1<|G.lU none ab (ao+H*2+1) (.int .i64 (2:Nat)) (L9 ea)<|G.eT (2:Nat) 2<|G.eF (1:Nat) 2<|G.pastI ?_;exact Z () _ _ _ kV cV (PH.le_refl _) ⟨rfl,rfl⟩
    refine G.eF (1:Nat) 0<|G.eT (1:Nat) 1<|G.a ab ao T.length xc H 2 a9<|G.f 96 ab (ao+H*2) 1 1<|G.lU none ab (ao+H*2+1) (.int .i64 (2:Nat)) (L9 ea)<|G.eT (2:Nat) 2<|G.eF (1:Nat) 2<|G.pastI ?_;exact Z () _ _ _ kV cV (PH.le_refl _) ⟨rfl,rfl⟩
   refine G.eF (2:Nat) 1<|G.eT (2:Nat) 2<|G.eT (0:Nat) 0<|G.a ab ao T.length xc H 2 a9<|G.f 96 ab (ao+H*2) 1 1<|G.lU none ab (ao+H*2+1) (.int .i64 (3:Nat)) (L9 ea)<|G.eT (3:Nat) 3<|G.pastI ?_;exact Z () _ _ _ kV cV (PH.le_refl _) ⟨rfl,rfl⟩
  rintro _ u5 m5 _ ⟨rfl,rfl⟩;refine G.l (ι:=Nat) (fun k=>[(1,.p 0 0),(6,sV (some ⟨g,0,none⟩) T.length T.length),(15,iV i),(16,.p 50003 0),(19,iV k),(166,sV (some ⟨fb,fo,none⟩) F.length xf),(167,iV F.length),(168,iV i)])
   (fun _=>[(0,⟨30,[sV (some ⟨ab,ao,none⟩) T.length xc,sV xb R.length X,sV (some ⟨fb,fo,none⟩) F.length xf,iV lab]⟩),(50003,⟨100,[iV H,iV p2,iV p3]⟩)])
   (fun k u' U=>k<=i/\U=m5) (fun k=>i-k) 0 ⟨oV,rfl⟩ ?_
  rintro J2 k E u6 m6 l6 ⟨hk,rfl⟩;by_cases ap:k<i
  ·refine G.lT k i ?_;obtain⟨y,aw⟩:∃ y,F[k]?=some y:=⟨_,A01 oV⟩;have a5:(F.map (·.1))[k]?=some y.1:=by rw[A1a,aw];rfl
   have aa:y.1≠H:=fun e=>Nat.ne_of_lt ap (Yu ok.feat.nodup a5 (by rw[W,e]));obtain⟨_,_,e',ek⟩:=Ac.at' (hF.mono (ae.trans l6)) (j:=k) (e:=Cm y) (by simp[aw]);cases e';exact G.a fb fo F.length xf k 3 oV<|G.f 100 fb (fo+k*3) 0 0<|G.lU none fb (fo+k*3+0) (.int .i64 y.1) (ek.fld rfl rfl)<|G.eF y.1 H<|G.i k<|G.b (E (k+1) _ _ _ cV l6 ⟨oV,rfl⟩ oV)
  obtain rfl:k=i:=oV;exact G.lF k k<|G.eF' H lab az<|G.i k<|G.b (hJ (k+1) _ _ _ cV (l4.trans l6) ⟨oV,rfl⟩ oV)
 obtain rfl:i=F.length:=oV;refine G.lF F.length F.length<|G.drop PH.mt kV (PH.mt_le _)<|G.lF lab (-1)<|G.hF lab T.length ?_;rcases A5q lab 0 with bn|bg
 ·exact G.hF lab 0<|G.z (.int .i64 0)
 refine G.hT lab 0 ?_;obtain⟨l,rfl⟩:∃ l:Nat,lab=(l:Int):=⟨lab.toNat,oV⟩;obtain⟨n,hn⟩:=ok.l2 l rfl;obtain⟨bb,ob,rfl,eb⟩:=Ac.at' (hT.mono ae) (j:=l) (e:=D9 (n,2)) (by simp[hn]);exact G.a bb ob T.length xc l 2 oV<|G.f 96 bb (ob+l*2) 1 1<|G.lU none bb (ob+l*2+1) (.int .i64 (2:Nat)) (L9 eb)<|G.nF (2:Nat) 2<|G.z (.int .i64 0)
end
section
variable {u:PH}
def Aup {l:zK}{i:Nat}(h:i<l.length):l.drop i=l.getD i 0::l.drop (i+1):=by
 rw[A5z h];simp[A02,A01 h]
def Afi (l:zK):∀ k,val (l.drop k)<=val l:=by
 induction l with
 |nil=>intro k;simp
 |cons a l ih =>
  intro k;cases k with
  |zero=>simp
  |succ k =>
   have:=ih k;simp only[List.drop_succ_cons,val];omega
def Pi {z:Int}(hz:z.natAbs<1000000000000000000):zF 183 [zS (Lib.itoa z)] u fun v _=>v=.tuple #[zI z,zT]:=by
 have F:=Jk hz;refine Fn0.o func183<|G.c call144 (Tl F) ?_;rintro v1 u1 l1 rfl;refine G.c call77 (Oh F) ?_;intro v2 u2 l2 k2;obtain⟨b,a,n,c,rfl,P,hi⟩:=k2.opn;obtain⟨rfl,hc⟩:=hi.len;refine G.c call67 (Ac6 (n:=4611686018427387904) oV oV) ?_;intro v3 u3 U k3;obtain⟨b',a',n',c',rfl,Y,C⟩:=k3.opn;obtain⟨rfl,Z⟩:=C.len;have H:nl z.natAbs<=400:=Bd F;have T:nl (4611686018427387904:Int).natAbs<=400:=Bd jV;refine G.c call151 (Lx (hi.mono U) C oV oV) ?_;rintro v4 u4 l4 rfl;have hs:sgn (((z.natAbs:Nat):Int)-(((4611686018427387904:Int).natAbs:Nat):Int))<=0:=by
  unfold sgn;have:((4611686018427387904:Int).natAbs:Int)=4611686018427387904:=fV;split
  ·omega
  split<;>omega
 refine G.gF (sgn (((z.natAbs:Nat):Int)-(((4611686018427387904:Int).natAbs:Nat):Int))) 0 ?_;have R:(Aa z.natAbs).length<=400:=H;refine G.s ((Aa z.natAbs).length:Int) 1 ((Aa z.natAbs).length-1:Int)<|G.l (ι:=Int×Nat) (fun i=>[(4,.p 3002 0),(6,iV i.2),(7,iV i.1)]) (fun _=>[(3002,⟨67,[bV b,sV a (Aa z.natAbs).length c]⟩)])
  (fun i u' m'=>-1<=i.1/\i.1<(Aa z.natAbs).length/\i.2=val ((Aa z.natAbs).drop (i.1+1).toNat)/\m'=PH.mt) (fun i=>(i.1+1).toNat) (((Aa z.natAbs).length-1:Int),0) ⟨dV,dV,by
   dsimp only;rw[show (((Aa z.natAbs).length:Int)-1+1).toNat=(Aa z.natAbs).length by omega,List.drop_length];rfl,rfl⟩ ?_
 rintro J ⟨i,s⟩ L u5 m5 V ⟨W,X,h,rfl⟩;simp only at W X h L;have E:=Am z.natAbs;by_cases a0:0<=i
 ·obtain⟨k,rfl⟩:∃ k:Nat,i=(k:Int):=⟨i.toNat,oV⟩;have t:k<(Aa z.natAbs).length:=oV;rw[show ((k:Int)+1).toNat=k+1 by omega]at h;have m:=Aup t;have j:=Afi (Aa z.natAbs) k;rw[E,m]at j;simp only[val]at j;rw[<-h]at j;refine G.hT k 0<|G.mul (s:Int) 1000000000 ((s*1000000000:Nat):Int) kV oV oV oV ?_;obtain⟨bb,off,rfl,e⟩:=(hi.mono ((U.trans l4).trans V)).at t;refine G.N (Aa z.natAbs).length c t e ?_;generalize hg:(Aa z.natAbs).getD k 0=d at m j;refine G.p (s*1000000000:Nat) d (s*1000000000+d:Nat)<|G.s k 1 ((k:Int)-1) ?_;exact G.b (L ((k:Int)-1,s*1000000000+d) _ _ _ cV V ⟨dV,dV,by
   dsimp only;rw[show ((k:Int)-1+1).toNat=k by omega,m];simp only[val];rw[<-h];omega,rfl⟩ dV)
 obtain rfl:i = -1:=oV;refine G.hF (-1) 0 ?_;have I:s=z.natAbs:=by rw[h,show ((-1:Int)+1).toNat=0 by decide,A5a,E]
 subst I;cases b with
 |true =>
  have Q:z<0:=by simpa using P.symm
  exact G.neg ((z.natAbs:Nat):Int) z kV oV oV oV<|G.z (.tuple #[zI z,zT])
 |false =>
  have a1:¬ z<0:=by simpa using P.symm
  have K:((z.natAbs:Nat):Int)=z:=oV;refine G.r (.tuple #[zI (z.natAbs:Nat),zT]) ⟨rfl,by rw[K]⟩
def Axb (z:Int):Ae (z:Rat)=Lib.itoa z:=by
 unfold Ae;simp
def Anq {x:zB×Nat}{t:zB}(H:1<=x.2)(I:x.2<=3)(m:Rj x.2 t):zF 108 [D9 x,zS t] u fun v _=>v=zT:=by
 obtain⟨s,k⟩:=x;simp only at H I m;refine Fn0.o func108<|G.lF k 1<|G.gF k 3 ?_;by_cases j:t = []
 ·exact G.q t [] j<|G.z zT
 refine G.w t [] j ?_;rcases m with e|⟨rfl,L⟩|⟨rfl,z,W,rfl⟩|⟨rfl,q,K,rfl⟩
 ·exact absurd e j
 ·refine G.eT (3:Nat) 3<|G.c call107 (Rr L) ?_;rintro F E C rfl;exact G.z zT
 ·refine G.eF (1:Nat) 3 ?_;have hp:=Ua (u:=u) (q:=(z:Rat)) ⟨Jk (by simpa using (by omega:z.natAbs<1000000000000000000)),by simp;decide +kernel⟩;rw[Axb]at hp;simp only[Rat.num_intCast,Rat.den_intCast]at hp;refine G.c call72 hp ?_;rintro F E C rfl;refine G.eT (1:Nat) 1<|G.y (Lib.itoa ((1:Nat):Int)) [49] jV<|G.c call183 (Pi (z:=z) oV) ?_;rintro T Q l2 rfl;refine G.c call183 (Pi (z:=((1:Nat):Int)) oV) ?_;rintro U R P rfl;exact G.hT z (-1000000000)<|G.kT z 1000000000<|G.kT (1:Nat) 12<|G.z zT
 have h:=K.dat;have V:=h.num;have J:=h.den;refine G.eF (2:Nat) 3<|G.c call72 (Ua h.tx) ?_;rintro F E C rfl;refine G.eF (2:Nat) 1<|G.c call183 (Pi (z:=q.num) oV) ?_;rintro T Q l2 rfl;refine G.c call183 (Pi (z:=(q.den:Int)) oV) ?_;rintro U R P rfl;exact G.hT q.num (-1000000000)<|G.kT q.num 1000000000<|G.kT q.den 12<|G.z zT
def Anz {v U:Value}{T:zC}{R:List Br}{F:List Al}{lab:Int}{ss:zW}(h:Mv u v U T R F lab ss) :
 zF 47 [v,U] u fun r _=>r=zO:=by
 have I:=fun (V:PH) (l:PH.le u V)=>T2 (h.sch.mono l) (h.ok.mono l);obtain⟨⟨xa,xc,xb,xd,xe,xf,rfl,H,Z,X⟩,ok,E,hT⟩:=h;obtain⟨ya,W,rfl⟩:=E.opn;rw[A03]at E⊢;have Q:=hT.len;have t2:=ok.t2;refine Fn0.o func47<|G.c call45 (I u (PH.le_refl _)) ?_;rintro v1 u1 l1 rfl;refine G.nF 0 0<|G.nF ss.length T.length<|G.l (ι:=Nat) (fun i=>[(2,.p 0 0),(19,sV ya ss.length W),(20,iV ss.length),(21,iV i)])
  (fun _=>[(0,⟨30,[sV xa T.length xc,sV xb R.length xd,sV xe F.length xf,iV lab]⟩)])
  (fun i V m'=>i<=ss.length/\m'=PH.mt) (fun i=>ss.length-i) 0 ⟨oV,rfl⟩ ?_
 rintro J i Y u2 m2 l2 ⟨hi,rfl⟩;have C:=l1.trans l2;by_cases m:i<ss.length
 ·refine G.lT i ss.length ?_;obtain⟨b,off,rfl,e⟩:=M5 (E.mono C) m;refine G.N ss.length W m e ?_;have t:T[i]?=some T[i]:=A01 oV;have K:=ok.att.kind T[i] (A09 oV);have L:=hT.val i _ _ t (A01 m);rw[show ss[i]=ss.getD i [] by simp[A02,A01 m]]at L;obtain⟨ba,oa,rfl,P⟩:=Ac.at' (H.mono C) (j:=i) (e:=D9 T[i]) (by simp[t]);generalize T[i]=x at t K L P;refine G.n T.length xc P<|G.c call108 (Anq K.1 K.2 L) ?_;rintro v3 u3 l3 rfl;exact G.i i<|G.b (Y (i+1) _ _ _ cV (l2.trans l3) ⟨oV,rfl⟩ oV)
 obtain rfl:i=ss.length:=oV;exact G.lF ss.length ss.length<|G.z zO
end
section
variable {F:CF}{N b sz:Nat}{es:zV}{v:Value}
def Az4 (u m:PH)(v:Value)(F:CF)(N:Nat):Prop :=
 ∃ b a n c b' a' n' c' g1 g2 o1 o2,v=.agg #[.bool b,.slice a n c,.bool b',.slice a' n' c',.map (some g1),.map (some g2)]/\QP u (.agg #[.bool b,.slice a n c,.bool b',.slice a' n' c']) F.c/\(u g1=some o1\/m g1=some o1)/\(u g2=some o2\/m g2=some o2)/\D7 Ap KT u o1 F.s N/\D7 prV KO u o2 F.t N
def Kk.i {u m:PH}(h:Kk m u v F N):Az4 u m v F N:=by
 obtain⟨b,a,n,c,b',j,J,t,g1,g2,K,L,e,C,E,rfl,H,I⟩:=h;exact⟨b,a,n,c,b',j,J,t,g1,g2,K,L,e,C,.inr (by rw[Ad _ _ E,Ab]),.inr (Ab _ _ _),H,I⟩
section
variable {P:Program} [A6 P] {fn:Func} {Post:Ce} {st:List KI×S} {u m:PH}
def G.appendMV (e:TypeId)(sz j:Nat)(z:Value)(m0:PH)(es xs:zV)(v:Value)(a:zP)(n c:Nat)(h:Aj P (adv P st)=.app (some (e,sz,j,z)) true [v,.slice a n c])(U:z.cells.toList.all Ax=true)(I:z.cells.size=sz)(E:0<sz)
 (t:Af m0 m v e sz es) (J:n=xs.length) (T:xs≠[]->∃ b off,a=some ⟨b,off,none⟩/\Hc m b off sz xs) (R:A9 sz xs) (Q:(es.length+xs.length)*j<=140737488355328) (C:es.length+xs.length<=9223372036854775807)
 (k:∀ L K,Af m0 K L e sz (es++xs)->G P fn Post (nx (adv P st) L) u K):G P fn Post st u m:=by
 cases xs with
 |nil =>
  subst J;obtain⟨a1,c1,rfl⟩:=t.shape;refine G.append0 e sz j z a1 a es.length c1 c h t.cap ?_;exact k _ _ (by rw[A1x];exact t)
 |cons x xs =>
  obtain⟨b,off,rfl,H⟩:=T mV;subst J;exact G.appendM e sz j z m0 es (x::xs) v b off _ c h U I E t H R rfl mV Q C k
end
def Af.els {m0 m:PH}{t:TypeId}{b n c:Nat}(h:Af m0 m (zG b n c) t sz es):Hc m b 0 sz es:=fun j e C=>h.el C
def Hc.drop {m:PH}(h:Hc m b 0 sz es)(k:Nat):Hc m b (0+k*sz) sz (es.drop k):=fun j e t=>by
 have:=h (k+j) e (by rw[A39]at t;exact t);rw[A16,A2w]at this;rw[A2w];exact this
theorem An2 (l:List (Par×Rat)):A9 3 (l.map Bt):=fun e he=>by
 obtain⟨p,_,rfl⟩:=A1b.1 he;exact Afk p _ mV
def Ao9 (l:List ((Par×Par)×Rat)):A9 5 (l.map D8):=fun e h=>by
 obtain⟨p,_,rfl⟩:=A1b.1 h;exact Aj6 p _ mV
def Rl {q:Rat}:q.num=0↔q=0:=A4r
def Aod {u m:PH}(h:Az4 u m v F N)(sF:CFS F)(hN:N<=1000000) :
 FnK prog 50 [v] u m fun r u'=>Azl u' r F N:=by
 obtain⟨b,a,n,c,b',a',n',c',g1,g2,o1,o2,rfl,hF,bg,bh,s1,s2⟩:=h;obtain⟨l1,⟨es1,E,rfl,au,ak⟩,bj,am,c0⟩:=s1.at;obtain⟨l2,⟨a3,C,rfl,av,al⟩,bk,an,ae⟩:=s2.at;have b9:(l1.map (·.1)).Nodup:=Hu.nodup (enc:=Ap) ⟨es1,E,rfl,au,ak⟩;have ba:(l2.map (·.1)).Nodup:=Hu.nodup (enc:=prV) ⟨a3,C,rfl,av,al⟩;have ao:∀ {u' m':PH},PH.le u u'->PH.le m m'->u' g1=some (.map es1 E)\/m' g1=some (.map es1 E):=fun a b=>bg.elim (fun e=>.inl (a _ _ e)) (fun e=>.inr (b _ _ e));have ap:∀ {u' m':PH},PH.le u u'->PH.le m m'->u' g2=some (.map a3 C)\/m' g2=some (.map a3 C):=fun a b=>bh.elim (fun e=>.inl (a _ _ e)) (fun e=>.inr (b _ _ e));refine FnK.of func50 kV kV<|G.c call84 (Ox hF (SB.tx sF.c)) ?_;rintro v1 u1 bd rfl;refine G.nF 0 0<|G.mapRange g1 es1 E 118 69 kV (ao bd (fun _ _ h=>h)) ?_;intro it bi bz;have ab:∀ o,PH.le m (m.upd it o):=fun o=>Jw o bi;refine G.l (ι:=List MapEntry×List (Par×Value)×List (Par×Rat)×(zP×Nat)) (fun i=>[(1,.p 0 0),(2,.p 1 0),(6,.p 2002 0),(33,.v (.pointer (zA it)))])
  (fun i=>[(0,⟨108,[bV b,sV a n c,bV b',sV a' n' c',.v (.map (some g1)),.v (.map (some g2))]⟩),(1,⟨38,[tV [],sN,sN]⟩),(2002,⟨38,[tV (Ae F.c),sV i.2.2.2.1 i.2.2.1.length i.2.2.2.2,sN]⟩)])
  (fun i u' m'=>Gj Ap es1 l1 i.1 i.2.1/\R3 Bk F.s (i.2.1.map (·.1)) i.2.2.1/\i.2.2.1.length<=i.2.1.length/\Af (m.upd it (.mapIter (some g1) E (Ar i.1) E)) m' (.slice i.2.2.2.1 i.2.2.1.length i.2.2.2.2) 162 3 (i.2.2.1.map Bt))
  (fun i=>l1.length-i.2.1.length) ([],[],[],(none,0))
  ⟨Gj.nil _ _,R3.nil,A08 _,Af.nil _ _ _⟩ ?_
 rintro J ⟨D,L,S,⟨V,R⟩⟩ hJ u2 m2 a2 ⟨hS,hI,aq,hA⟩;simp only at hS hI aq hA hJ;have Q:=bd.trans a2;have ar:m2 it=some (.mapIter (some g1) E (Ar D) E):=hA.see (Ab _ _ _);have ac:PH.le m m2:=fun g o hg=>hA.see (ab _ g o hg);refine G.mapNextL Bq.inj it g1 es1 E l1 D L kV kV ar (ao Q ac) ak au b9 hS ?done1 ?next1
 case next1 =>
  rintro⟨k,xv⟩ e hp hkn he hek hev hS';simp only at hkn hek hev;have hx:=(bj _ hp).1;simp only at hx;obtain⟨yb,ya,yn,yc,bt,bw,bu,rfl,_⟩:=hx.opn;have W:=hA.base (b:=it) (o:=.mapIter (some g1) E (Ar (D++[e])) E) (by rw[Ab];simp);rw[Dp]at W;have ad:PH.le m (m2.upd it (.mapIter (some g1) E (Ar (D++[e])) E)):=fun g o hg=>W.see (ab _ g o hg);refine G.mapEntry it g1 es1 E D e kV (Ab _ _ _) (ao Q ad) ak he ?_;rw[hek,hev];have a4:=hS'.len;simp only[A1d,A3f,A30]at a4;have aj:=sF.s k;refine G.c call81 (Nt (hx.mono Q) (by have:=(SB.sz aj).1;omega)) ?_;rintro v3 u3 l3 rfl;by_cases h0:F.s k=0
  ·rw[decide_eq_true (Rl.2 h0)];refine G.b (hJ (D++[e],L++[(k,_)],S,(V,R)) _ _ _ cV (a2.trans l3) ⟨hS',by dsimp only;rw[A1i];exact hI.skip h0,by dsimp only;simp;omega,W⟩ (by have:=hS'.len;simp at this;dsimp only;simp;omega))
  rw[decide_eq_false (fun e=>h0 (Rl.1 e))];refine G.c call84 (Ox (hx.mono (Q.trans l3)) (SB.tx aj)) ?_;rintro v4 u4 l4 rfl;refine G.nF 0 0 ?_;have H:=W;generalize bl:m2.upd it (.mapIter (some g1) E (Ar (D++[e])) E)=m3 at H ad;have b4:k∉L.map (·.1):=hkn;refine G.l (ι:=Nat) (fun n=>[(1,.p 0 0),(2,.p 1 0),(6,.p 2002 0),(7,.p 7003 0),(11,.p 12003 0),(12,iV n),(33,.v (.pointer (zA it)))])
   (fun _=>[(0,⟨108,[bV b,sV a n c,bV b',sV a' n' c',.v (.map (some g1)),.v (.map (some g2))]⟩),(1,⟨38,[tV [],sN,sN]⟩),(2002,⟨38,[tV (Ae F.c),sV V S.length R,sN]⟩),(7003,⟨118,[iV k.1,tV k.2]⟩),(12003,⟨162,[iV k.1,tV k.2,tV (Ae (F.s k))]⟩)])
   (fun n u' m'=>n<=S.length/\(∀ j x,j<n->S[j]?=some x->Bk x.1 k<0)/\m'=m3) (fun n=>S.length-n) 0 ⟨oV,fun j x hj=>oV,rfl⟩ ?_
  rintro J2 n2 ay u5 m5 l5 ⟨ae,a0,rfl⟩;have bp:=((Q.trans l3).trans l4).trans l5;refine G.joinF (ι:=Unit) (fun st=>Ajn prog st [zL]) (fun _=>[(1,.p 0 0),(2,.p 1 0),(6,.p 2002 0),(11,.p 12003 0),(12,iV n2),(33,.v (.pointer (zA it)))])
   (fun _=>[(0,⟨108,[bV b,sV a n c,bV b',sV a' n' c',.v (.map (some g1)),.v (.map (some g2))]⟩),(1,⟨38,[tV [],sN,sN]⟩),(2002,⟨38,[tV (Ae F.c),sV V S.length R,sN]⟩),(12003,⟨162,[iV k.1,tV k.2,tV (Ae (F.s k))]⟩)])
   (fun _ u' m'=>m'=m5/\∀ x,S[n2]?=some x->¬ Bk x.1 k<0) (fun _=>kV) kV ?tail ?way
  case way =>
   intro U;by_cases a7:n2<S.length
   ·refine G.lT n2 S.length ?_;obtain⟨x,a5⟩:∃ x,S[n2]?=some x:=⟨_,A01 a7⟩;obtain⟨gs,cs,T⟩:=H.ptr (fun e=>by
     have:S.length=0:=by simpa using congrArg List.length e
     omega)
    simp only[Value.slice.injEq]at T;obtain⟨rfl,_,rfl⟩:=T;refine G.a gs 0 S.length R n2 3 a7<|G.f 162 gs (0+n2*3) 0 0 ?_;have b2:ElP m5 gs (0+n2*3) (Bt x):=H.el (by rw[A1a,a5];rfl);refine G.lM (some 2) gs (0+n2*3+0) (.agg #[zI x.1.1,zS x.1.2]) (b2.sub (k:=0) fun i y I=>by
     match i,I with
     |0,I=>simpa[Bt,Value.cells] using I
     |1,I=>simpa[Bt,Value.cells] using I
     |i+2,I=>simp[Value.cells]at I) ?_
    by_cases hc:Bk x.1 k<0
    ·refine G.c call113 (Fp x.1 k true (decide_eq_true hc)) ?_;rintro v6 u6 l6 rfl;refine G.i n2 ?_;exact G.b (ay (n2+1) _ _ _ cV (l5.trans l6) ⟨oV,fun j y hj I=>by
      rcases (by omega:j<n2\/j=n2) with e|rfl
      ·exact a0 j y e I
      rw[a5]at I;cases I;exact hc,rfl⟩ oV)
    refine G.c call113 (Fp x.1 k false (decide_eq_false hc)) ?_;rintro v6 u6 l6 rfl;exact U () _ _ _ kV cV l6 ⟨rfl,fun y I=>by rw[a5]at I;cases I;exact hc⟩
   refine G.lF n2 S.length ?_;exact U () _ _ _ kV cV (PH.le_refl _) ⟨rfl,fun y I=>by rw[A1v oV]at I;cases I⟩
  rintro _ u6 m6 l6 ⟨rfl,a6⟩;have ah:=H.cap;refine G.sliceTo 3 V S.length R n2 kV oV<|G.sliceFromG V S.length R n2 3 kV ae ah<|G.buildM 162 3 40 (.agg #[zO,zE,zE]) [.agg #[zI k.1,zS k.2,zS (Ae (F.s k))]] kV (Afk (k,F.s k)) rfl oV mV mV ?_;intro gt m7 af;refine G.appendMV 162 3 40 (.agg #[zO,zE,zE]) m6 [.agg #[zI k.1,zS k.2,zS (Ae (F.s k))]] ((S.drop n2).map Bt) (zG gt 1 1) (if R=n2 then V else V.map (·.add (n2*3))) (S.length-n2) (R-n2) kV rfl rfl oV af mV (fun b5=>?_) (An2 _) gV gV ?_
  ·have a7:n2<S.length:=by
    rcases A2e n2 S.length with h|h
    ·exact h
    exact absurd (by rw[A2b h];rfl) b5
   obtain⟨gs,cs,T⟩:=H.ptr (fun e=>by
    have:S.length=0:=by simpa using congrArg List.length e
    omega)
   simp only[Value.slice.injEq]at T;obtain⟨rfl,_,rfl⟩:=T;refine⟨gs,0+n2*3,?_,?_⟩
   ·rw[if_neg oV];simp[Ed]
   have:=H.els.drop n2;rw[<-List.map_drop]at this;exact fun j e hj i y I=>by
    obtain⟨cs,t,fr,q1,q2⟩:=this j e hj i y I;exact⟨cs,t,fr,af.le _ _ q1,q2⟩
  intro v8 m8 Y;obtain⟨a8,c8,rfl⟩:=Y.ptr mV;have ax:=H.take (k:=n2) (by rw[A03];exact ae);obtain⟨mx,bn,bm,ai⟩:=At.swap (x:=⟨.slice V n2 R,162,3,(S.map Bt).take n2⟩) (y:=⟨zG a8 _ c8,162,3,_⟩) Y ax;refine G.appendM 162 3 40 (.agg #[zO,zE,zE]) mx ((S.map Bt).take n2) _ (.slice V n2 R) a8 0 _ c8 kV rfl rfl oV bm Y.els Y.1 rfl mV gV gV ?_;intro v9 m9 aw;obtain⟨mz,am,an⟩:=ai ⟨v9,162,3,_⟩ m9 aw;have b3:(S.map Bt).take n2++([.agg #[zI k.1,zS k.2,zS (Ae (F.s k))]]++(S.drop n2).map Bt)=(S.take n2++[(k,F.s k)]++S.drop n2).map Bt:=by
   rw[A1i,A1i,A5g,A2k];rfl
  have a1:Af (m.upd it (.mapIter (some g1) E (Ar (D++[e])) E)) mz v9 162 3 ((S.take n2++[(k,F.s k)]++S.drop n2).map Bt):=by rw[<-b3];exact an
  obtain⟨a9,c9,rfl⟩:=a1.shape;rw[A03]at a1⊢;have az:(S.take n2++[(k,F.s k)]++S.drop n2).length=S.length+1:=gV;refine G.drop mz kV (fun g o hg=>Af.le am g o hg)<|G.b (hJ (D++[e],L++[(k,_)],S.take n2++[(k,F.s k)]++S.drop n2,(a9,c9)) _ _ _ cV ((((a2.trans l3).trans l4).trans l5).trans l6) ⟨hS',?_,by dsimp only;rw[az];simp;omega,a1⟩ (by have:=hS'.len;simp at this;dsimp only;simp;omega));dsimp only;rw[A1i];exact hI.put Et h0 b4 a0 a6
 case done1 =>
 intro aa;have ag:Can Bk F.s S:=hI.can fun k hk=>am k fun hm=>hk (by
  obtain⟨p,hp,rfl⟩:=A1b.1 hm;exact A1b.2 ⟨p,aa p hp,rfl⟩)
 have b7:S.length<=N:=by have:=hS.len;omega
 refine G.give _ _ _ kV hA (fun g=>?_) ?_
 ·cases hg:m g with
  |none=>exact .inl hg
  |some o=>exact .inr (by rw[ab _ g o hg];simp)
 intro u3 l3 hX;refine G.drop m kV (ab _) ?_;have be:=Q.trans l3;clear hJ hA hI aq ar ac hS aa
 revert S V R
 intro X xa xc ag b7 hX;refine G.mapRange g2 a3 C 175 69 kV (ap be (fun _ _ h=>h)) ?_;intro K b8 bx;have Z:∀ o,PH.le m (m.upd K o):=fun o=>Jw o b8;refine G.l (ι:=List MapEntry×List ((Par×Par)×Value)×List ((Par×Par)×Rat)×(zP×Nat)) (fun i=>[(1,.p 0 0),(2,.p 1 0),(6,.p 2002 0),(85,.v (.pointer (zA K)))])
  (fun i=>[(0,⟨108,[bV b,sV a n c,bV b',sV a' n' c',.v (.map (some g1)),.v (.map (some g2))]⟩),(1,⟨38,[tV [],sN,sN]⟩),(2002,⟨38,[tV (Ae F.c),sV xa X.length xc,sV i.2.2.2.1 i.2.2.1.length i.2.2.2.2]⟩)])
  (fun i u' m'=>Gj prV a3 l2 i.1 i.2.1/\R3 Oc F.t (i.2.1.map (·.1)) i.2.2.1/\i.2.2.1.length<=i.2.1.length/\Af (m.upd K (.mapIter (some g2) C (Ar i.1) C)) m' (.slice i.2.2.2.1 i.2.2.1.length i.2.2.2.2) 181 5 (i.2.2.1.map D8))
  (fun i=>l2.length-i.2.1.length) ([],[],[],(none,0))
  ⟨Gj.nil _ _,R3.nil,A08 _,Af.nil _ _ _⟩ ?_
 rintro J ⟨D,L,S,⟨V,R⟩⟩ hJ u2 m2 a2 ⟨hS,hI,aq,hA⟩;simp only at hS hI aq hA hJ;have Q:=be.trans a2;have ar:m2 K=some (.mapIter (some g2) C (Ar D) C):=hA.see (Ab _ _ _);have ac:PH.le m m2:=fun g o hg=>hA.see (Z _ g o hg);refine G.mapNextL I1.inj K g2 a3 C l2 D L kV kV ar (ap Q ac) al av ba hS ?done2 ?next2
 case next2 =>
  rintro⟨k,xv⟩ e hp hkn he hek hev hS';simp only at hkn hek hev;have hx:=(bk _ hp).1;simp only at hx;obtain⟨yb,ya,yn,yc,bt,bw,bu,rfl,_⟩:=hx.opn;have W:=hA.base (b:=K) (o:=.mapIter (some g2) C (Ar (D++[e])) C) (by rw[Ab];simp);rw[Dp]at W;have ad:PH.le m (m2.upd K (.mapIter (some g2) C (Ar (D++[e])) C)):=fun g o hg=>W.see (Z _ g o hg);refine G.mapEntry K g2 a3 C D e kV (Ab _ _ _) (ap Q ad) al he ?_;rw[hek,hev];have a4:=hS'.len;simp only[A1d,A3f,A30]at a4;have aj:=sF.t k;refine G.c call81 (Nt (hx.mono Q) (by have:=(SB.sz aj).1;omega)) ?_;rintro v3 u3 l3 rfl;by_cases h0:F.t k=0
  ·rw[decide_eq_true (Rl.2 h0)];refine G.b (hJ (D++[e],L++[(k,_)],S,(V,R)) _ _ _ cV (a2.trans l3) ⟨hS',by dsimp only;rw[A1i];exact hI.skip h0,by dsimp only;simp;omega,W⟩ (by have:=hS'.len;simp at this;dsimp only;simp;omega))
  rw[decide_eq_false (fun e=>h0 (Rl.1 e))];refine G.c call84 (Ox (hx.mono (Q.trans l3)) (SB.tx aj)) ?_;rintro v4 u4 l4 rfl;refine G.nF 0 0<|G.pub 19003 175 [zI k.1.1,zS k.1.2,zI k.2.1,zS k.2.2] kV kV ?_;intro bq c1 b6;have b0:(m.upd K (.mapIter (some g2) C (Ar (D++[e])) C)) bq=none:=by
   cases hh:(m.upd K (.mapIter (some g2) C (Ar (D++[e])) C)) bq with
   |none=>rfl
   |some o=>rw[W.see hh]at b6;cases b6
  have H:=W.fresh (o:=.cells [Value.int .i64 k.1.1,zS k.1.2,zI k.2.1,zS k.2.2].toArray 175 (0,0)) b6;obtain⟨br,bs⟩:=Aly (m:=(m2.upd K (.mapIter (some g2) C (Ar (D++[e])) C)).upd bq (.cells [Value.int .i64 k.1.1,zS k.1.2,zI k.2.1,zS k.2.2].toArray 175 (0,0))) (Ab _ _ _);refine G.addrA 175 118 2 bq 0 0 2 kV kV kV kV oV<|G.v (some 2) br<|G.addrA 175 118 2 bq 0 1 2 kV kV kV kV oV<|G.v (some 2) bs ?_;generalize bl:(m2.upd K (.mapIter (some g2) C (Ar (D++[e])) C)).upd bq (.cells [Value.int .i64 k.1.1,zS k.1.2,zI k.2.1,zS k.2.2].toArray 175 (0,0))=m3 at H;have b4:k∉L.map (·.1):=hkn;refine G.l (ι:=Nat) (fun n=>[(1,.p 0 0),(2,.p 1 0),(6,.p 2002 0),(17,.p 24006 0),(18,iV n),(85,.v (.pointer (zA K)))])
   (fun _=>[(0,⟨108,[bV b,sV a n c,bV b',sV a' n' c',.v (.map (some g1)),.v (.map (some g2))]⟩),(1,⟨38,[tV [],sN,sN]⟩),(2002,⟨38,[tV (Ae F.c),sV xa X.length xc,sV V S.length R]⟩),(24006,⟨181,[iV k.1.1,tV k.1.2,iV k.2.1,tV k.2.2,tV (Ae (F.t k))]⟩)])
   (fun n u' m'=>n<=S.length/\(∀ j x,j<n->S[j]?=some x->Oc x.1 k<0)/\m'=m3) (fun n=>S.length-n) 0 ⟨oV,fun j x hj=>oV,rfl⟩ ?_
  rintro J2 n2 ay u5 m5 l5 ⟨ae,a0,rfl⟩;have bp:=((Q.trans l3).trans l4).trans l5;refine G.joinF (ι:=Unit) (fun st=>Ajn prog st [zL]) (fun _=>[(1,.p 0 0),(2,.p 1 0),(6,.p 2002 0),(17,.p 24006 0),(18,iV n2),(85,.v (.pointer (zA K)))])
   (fun _=>[(0,⟨108,[bV b,sV a n c,bV b',sV a' n' c',.v (.map (some g1)),.v (.map (some g2))]⟩),(1,⟨38,[tV [],sN,sN]⟩),(2002,⟨38,[tV (Ae F.c),sV xa X.length xc,sV V S.length R]⟩),(24006,⟨181,[iV k.1.1,tV k.1.2,iV k.2.1,tV k.2.2,tV (Ae (F.t k))]⟩)])
   (fun _ u' m'=>m'=m5/\∀ x,S[n2]?=some x->¬ Oc x.1 k<0) (fun _=>kV) kV ?tail2 ?way2
  case way2 =>
   intro U;by_cases a7:n2<S.length
   ·refine G.lT n2 S.length ?_;obtain⟨x,a5⟩:∃ x,S[n2]?=some x:=⟨_,A01 a7⟩;obtain⟨gs,cs,T⟩:=H.ptr (fun e=>by
     have:S.length=0:=by simpa using congrArg List.length e
     omega)
    simp only[Value.slice.injEq]at T;obtain⟨rfl,_,rfl⟩:=T;refine G.a gs 0 S.length R n2 5 a7 ?_;have b2:ElP m5 gs (0+n2*5) (D8 x):=H.el (by rw[A1a,a5];rfl);refine G.v (some 5) b2 ?_;by_cases hc:Oc x.1 k<0
    ·refine G.c call114 (P4 x (k,F.t k) true (decide_eq_true hc)) ?_;rintro v6 u6 l6 rfl;refine G.i n2 ?_;exact G.b (ay (n2+1) _ _ _ cV (l5.trans l6) ⟨oV,fun j y hj I=>by
      rcases (by omega:j<n2\/j=n2) with e|rfl
      ·exact a0 j y e I
      rw[a5]at I;cases I;exact hc,rfl⟩ oV)
    refine G.c call114 (P4 x (k,F.t k) false (decide_eq_false hc)) ?_;rintro v6 u6 l6 rfl;exact U () _ _ _ kV cV l6 ⟨rfl,fun y I=>by rw[a5]at I;cases I;exact hc⟩
   refine G.lF n2 S.length ?_;exact U () _ _ _ kV cV (PH.le_refl _) ⟨rfl,fun y I=>by rw[A1v oV]at I;cases I⟩
  rintro _ u6 m6 l6 ⟨rfl,a6⟩;have ah:=H.cap;refine G.sliceTo 5 V S.length R n2 kV oV<|G.sliceFromG V S.length R n2 5 kV ae ah<|G.buildM 181 5 64 (.agg #[zO,zE,zO,zE,zE]) [.agg #[zI k.1.1,zS k.1.2,zI k.2.1,zS k.2.2,zS (Ae (F.t k))]] kV (Aj6 (k,F.t k)) rfl oV mV mV ?_;intro gt m7 af;refine G.appendMV 181 5 64 (.agg #[zO,zE,zO,zE,zE]) m6 [.agg #[zI k.1.1,zS k.1.2,zI k.2.1,zS k.2.2,zS (Ae (F.t k))]] ((S.drop n2).map D8) (zG gt 1 1) (if R=n2 then V else V.map (·.add (n2*5))) (S.length-n2) (R-n2) kV rfl rfl oV af mV (fun b5=>?_) (Ao9 _) gV gV ?_
  ·have a7:n2<S.length:=by
    rcases A2e n2 S.length with h|h
    ·exact h
    exact absurd (by rw[A2b h];rfl) b5
   obtain⟨gs,cs,T⟩:=H.ptr (fun e=>by
    have:S.length=0:=by simpa using congrArg List.length e
    omega)
   simp only[Value.slice.injEq]at T;obtain⟨rfl,_,rfl⟩:=T;refine⟨gs,0+n2*5,?_,?_⟩
   ·rw[if_neg oV];simp[Ed]
   have:=H.els.drop n2;rw[<-List.map_drop]at this;exact fun j e hj i y I=>by
    obtain⟨cs,t,fr,q1,q2⟩:=this j e hj i y I;exact⟨cs,t,fr,af.le _ _ q1,q2⟩
  intro v8 m8 Y;obtain⟨a8,c8,rfl⟩:=Y.ptr mV;have ax:=H.take (k:=n2) (by rw[A03];exact ae);obtain⟨mx,bn,bb,ai⟩:=At.swap (x:=⟨.slice V n2 R,181,5,(S.map D8).take n2⟩) (y:=⟨zG a8 _ c8,181,5,_⟩) Y ax;refine G.appendM 181 5 64 (.agg #[zO,zE,zO,zE,zE]) mx ((S.map D8).take n2) _ (.slice V n2 R) a8 0 _ c8 kV rfl rfl oV bb Y.els Y.1 rfl mV gV gV ?_;intro v9 m9 aw;obtain⟨mz,am,an⟩:=ai ⟨v9,181,5,_⟩ m9 aw;have b3:(S.map D8).take n2++([.agg #[zI k.1.1,zS k.1.2,zI k.2.1,zS k.2.2,zS (Ae (F.t k))]]++(S.drop n2).map D8)=(S.take n2++[(k,F.t k)]++S.drop n2).map D8:=by
   rw[A1i,A1i,A5g,A2k];rfl
  have bo:Af ((m.upd K (.mapIter (some g2) C (Ar (D++[e])) C)).upd bq (.cells [Value.int .i64 k.1.1,zS k.1.2,zI k.2.1,zS k.2.2].toArray 175 (0,0))) mz v9 181 5 ((S.take n2++[(k,F.t k)]++S.drop n2).map D8):=by rw[<-b3];exact an
  have a1:=bo.del (l:=bq) (by rw[Ab];simp);rw[Rk b0]at a1;obtain⟨a9,c9,rfl⟩:=a1.shape;rw[A03]at a1⊢;have az:(S.take n2++[(k,F.t k)]++S.drop n2).length=S.length+1:=gV;refine G.drop (mz.del bq) kV (fun g o hg=>Af.le am g o (Ap6 _ _ g o hg))<|G.b (hJ (D++[e],L++[(k,_)],S.take n2++[(k,F.t k)]++S.drop n2,(a9,c9)) _ _ _ cV ((((a2.trans l3).trans l4).trans l5).trans l6) ⟨hS',?_,by dsimp only;rw[az];simp;omega,a1⟩ (by have:=hS'.len;simp at this;dsimp only;simp;omega));dsimp only;rw[A1i];exact hI.put A0t h0 b4 a0 a6
 case done2 =>
 intro aa;have b1:Can Oc F.t S:=hI.can fun k hk=>an k fun hm=>hk (by
  obtain⟨p,hp,rfl⟩:=A1b.1 hm;exact A1b.2 ⟨p,aa p hp,rfl⟩)
 have bf:S.length<=N:=by have:=hS.len;omega
 refine G.give _ _ _ kV hA (fun g=>?_) ?_
 ·cases hg:m g with
  |none=>exact .inl hg
  |some o=>exact .inr (by rw[Z _ g o hg];simp)
 intro u4 l4 hY;exact G.drop m kV (Z _)<|G.r (.tuple #[.agg #[zS (Ae F.c),.slice xa X.length xc,.slice V S.length R],zO]) ⟨rfl,_,rfl,X,S,xa,xc,V,R,rfl,hX.mono (a2.trans l4),hY,ag,b1,b7,bf⟩
end
section
variable {F:List Al}{a i:Nat}{f:Al}{z:Int}
def Aro (F:List Al)(a:Nat)(z:Int)(i:Nat)(fe:Int)(dr ho:Bool):Prop :=
 (∃ k f,k<i/\F[k]?=some f/\f.1=a/\fe=(k:Int)/\dr=decide (f.2.2=1)/\ho=decide (f.2.1=2))\/((∀ k f,k<i->F[k]?=some f->f.1≠a)/\fe=z/\dr=true/\ho=false)
theorem Af1 (q:Rat):q+0=q:=by grind
theorem An4 {t:Int}{m u:Bool}(h:Aro F a z i t m u)(I:F[i]?=some f)(H:f.1≠a):Aro F a z (i+1) t m u:=by
 rcases h with ⟨k,g,C,j,E⟩|⟨C,j⟩
 ·exact .inl ⟨k,g,oV,j,E⟩
 refine .inr ⟨fun k g K J=>?_,j⟩;rcases (by omega:k<i\/k=i) with e|rfl
 ·grind
 grind
theorem Aqe (hf:F[i]?=some f)(he:f.1=a):Aro F a z (i+1) (i:Int) (decide (f.2.2=1)) (decide (f.2.1=2)) :=
 .inl ⟨i,f,oV,hf,he,rfl,rfl,rfl⟩
theorem Av7 {T:zC}{F:List Al}{lab:Int}{a:Nat}{z:Int}{x:zB×Nat}{t:zB}{u:Int}{P E:Bool}(hF:Da T F lab)(l1:-1<=lab)(l2:∀ l:Nat,lab=(l:Int)->∃ n,T[l]?=some (n,2))
 (J:T[a]?=some x) (R:Rj x.2 t) (W:((a:Int)=lab/\z = -1)\/((a:Int)≠lab/\z = -2)) (h:Aro F a z F.length u P E) :
 (u = -2/\Gm F lab a t=some none)\/(u≠-2/\((E=true/\Gm F lab a t=some (some ((u,t),1)))\/(E=false/\t = []/\Gm F lab a t=(if P then none else some none))\/(E=false/\t≠[]/\SmW (Lk t)/\Ae (Lk t)=t/\Gm F lab a t=some (some ((u,[]),Lk t))))):=by
 rcases h with ⟨k,f,Z,H,rfl,rfl,rfl,rfl⟩|⟨V,rfl,rfl,rfl⟩
 ·obtain⟨n,kd,hT,j,I⟩:=hF.ok f (A1k H);rw[Zu hF.nodup H I];rw[hT]at J;cases J;refine .inr ⟨oV,?_⟩;unfold I3;rcases j with ⟨U,rfl,X⟩|⟨U,rfl,X⟩
  ·rw[U,if_neg oV];by_cases m:t = []
   ·grind
   obtain⟨K,L⟩:=Hz R m;exact .inr (.inr ⟨rfl,m,K,L,by rw[if_neg m]⟩)
  grind
 rcases W with ⟨C,rfl⟩|⟨C,rfl⟩
 ·refine .inr ⟨oV,.inr ?_⟩;obtain⟨n,Q⟩:=l2 a C.symm;rw[J]at Q;cases Q;have e:Gm F lab a t=Sy t:=by unfold Gm;rw[if_pos C]
  rw[e];unfold Sy;by_cases m:t = []
  ·grind
  obtain⟨K,L⟩:=Hz R m;exact .inr ⟨rfl,m,K,L,by rw[if_neg m]⟩
 rcases Gn (F:=F) (w:=t) C with e|⟨i,f,H,Y,_⟩
 ·grind
 grind
def Ale {g1 g2:Nat}(h:g1≠g2)(t u j m:Obj):(((PH.mt.upd g1 t).upd g2 u).upd g1 j).upd g2 m=(PH.mt.upd g1 j).upd g2 m:=by
 rw[Iq _ _ _ (fun e=>h e.symm),Dp,Dp]
def Ahp {u:PH}{v:Value}{T:zC}{R:List Br}{lab:Int}{x:zB×Nat}{t:zB}(h:H5 u v T R F lab)(ok:Bl u T R F lab)(hx:T[a]?=some x)(hv:Rj x.2 t) :
 Ag prog 112 [v,zI a,zS t] u PH.mt fun v' u' m'=>Kk m' u' v' (Gm F lab a t).cf 1:=by
 have ae:=ok.f2;have l1:=ok.l1;have t2:=ok.t2;have ad:a<T.length:=(A05.1 hx).1;obtain⟨pa,ca,pb,cb,pe,ce,rfl,hT,hR,hF⟩:=h;refine Ag.o func112<|G.joinF (ι:=Int) (fun st=>Ajn prog st [zL]) (fun z=>[(1,iV a),(2,tV t),(3,.p 0 0),(6,.p 1 0),(7,iV z),(8,bT),(9,bF)])
  (fun _=>[(0,⟨30,[sV pa T.length ca,sV pb R.length cb,sV pe F.length ce,iV lab]⟩),(1,⟨108,[bF,sN,bF,sN,.v (.map none),.v (.map none)]⟩)])
  (fun z u' m'=>u'=u/\m'=PH.mt/\(((a:Int)=lab/\z = -1)\/((a:Int)≠lab/\z = -2))) (fun _=>kV) kV ?tail ?way
 case way =>
  intro P;by_cases hl:(a:Int)=lab
  ·refine G.eT' a lab hl<|G.pastI ?_;exact P (-1) _ _ _ kV cV (PH.le_refl _) ⟨rfl,rfl,.inl ⟨hl,rfl⟩⟩
  refine G.eF' a lab hl ?_;exact P (-2) _ _ _ kV cV (PH.le_refl _) ⟨rfl,rfl,.inr ⟨hl,rfl⟩⟩
 rintro z _ _ _ ⟨rfl,rfl,hz⟩;refine G.l (ι:=Nat×Int×Bool×Bool) (fun i=>[(1,iV a),(2,tV t),(6,.p 1 0),(7,iV i.2.1),(8,bV i.2.2.1),(9,bV i.2.2.2),(20,sV pe F.length ce),(21,iV F.length),(22,iV i.1)])
  (fun _=>[(1,⟨108,[bF,sN,bF,sN,.v (.map none),.v (.map none)]⟩)])
  (fun i u' m'=>i.1<=F.length/\m'=PH.mt/\Aro F a z i.1 i.2.1 i.2.2.1 i.2.2.2) (fun i=>F.length-i.1) (0,z,true,false) ⟨oV,rfl,.inr ⟨fun k f hk=>by dsimp only at hk;omega,rfl,rfl,rfl⟩⟩ ?_
 rintro J ⟨i,m,dr,ho⟩ hJ u2 m2 l2 ⟨hi,rfl,hI⟩;simp only at hi hI hJ;by_cases a0:i<F.length
 ·refine G.lT i F.length ?_;obtain⟨f,W⟩:∃ f,F[i]?=some f:=⟨_,A01 a0⟩;obtain⟨fb,fo,rfl,ef⟩:=Ac.at' (hF.mono l2) (j:=i) (e:=Cm f) (by simp[W]);obtain⟨p1,p2,p3⟩:=f;refine G.N F.length ce a0 ef ?_;by_cases hp:(p1:Int)=(a:Int)
  ·refine G.eT' p1 a hp ?_;have U:=Aqe (z:=z) W (show p1=a by omega);simp only at U;by_cases h3:p3=1
   ·refine G.eT p3 1 ?_;by_cases h2:p2=2
    ·refine G.eT p2 2<|G.i i ?_;rw[decide_eq_true h3,decide_eq_true h2]at U;exact G.b (hJ (i+1,(i:Int),true,true) _ _ _ cV l2 ⟨dV,rfl,U⟩ dV)
    refine G.eF p2 2<|G.i i ?_;rw[decide_eq_true h3,decide_eq_false h2]at U;exact G.b (hJ (i+1,(i:Int),true,false) _ _ _ cV l2 ⟨dV,rfl,U⟩ dV)
   refine G.eF p3 1 ?_;by_cases h2:p2=2
   ·refine G.eT p2 2<|G.i i ?_;rw[decide_eq_false h3,decide_eq_true h2]at U;exact G.b (hJ (i+1,(i:Int),false,true) _ _ _ cV l2 ⟨dV,rfl,U⟩ dV)
   refine G.eF p2 2<|G.i i ?_;rw[decide_eq_false h3,decide_eq_false h2]at U;exact G.b (hJ (i+1,(i:Int),false,false) _ _ _ cV l2 ⟨dV,rfl,U⟩ dV)
  exact G.eF' p1 a hp<|G.i i<|G.b (hJ (i+1,m,dr,ho) _ _ _ cV l2 ⟨dV,rfl,An4 hI W (show ¬ p1=a by omega)⟩ dV)
 obtain rfl:i=F.length:=oV;refine G.lF F.length F.length ?_;have n0:(⟨((0:Int):Rat),fun _=>0,fun _=>0⟩:CF)=CF.num 0:=by rw[show ((0:Int):Rat)=0 by decide +kernel];rfl
 have n1:(⟨((1:Int):Rat),fun _=>0,fun _=>0⟩:CF)=CF.num 1:=by rw[show ((1:Int):Rat)=1 by decide +kernel];rfl
 rcases Av7 ok.feat l1 ok.l2 hx hv hz hI with ⟨rfl,e⟩|⟨a7,hc⟩
 ·rw[e];refine G.eT' (-2) (-2) rfl<|G.callO _ _ kV call46 (Jm (n:=1) oV oV) ?_;intro v3 u3 m3 l3 X _;obtain⟨b,H,n,c,b',E,L,I,g1,g2,rfl⟩:=Oe X;rw[By];exact G.r (.agg #[.bool b,.slice H n c,.bool b',.slice E L I,.map (some g1),.map (some g2)]) (X.congr n1 oV)
 refine G.eF' m (-2) a7<|G.callO _ _ kV call46 (Jm (n:=1) oV oV) ?_;intro v3 u3 m3 l3 X _;rw[By];rcases hc with ⟨rfl,e⟩|⟨rfl,ht,e⟩|⟨rfl,ht,q1,q2,e⟩
 ·rw[e];obtain⟨b,H,n,c,b',E,L,I,g1,g2,o1,o2,rfl,k1,C,rfl,s1,s2⟩:=X;have K:Ay (m,t) (m,t)=((m,t),(m,t)):=Ii (by rw[Et.refl];omega);refine G.c call22 (P6 (z:=1) oV oV) ?_;intro v4 u4 V Q;rw[show ((1:Int):Rat)=1 by decide +kernel]at Q;obtain⟨b4,a4,n4,c4,a2,a8,a3,rfl,_⟩:=Q.opn;refine G.callG _ _ kV kV call109 (g:=g1) (o:=o1) (by rw[Ad _ _ C,Ab])
   (Oi (a:=(m,t)) (g2:=some g2) (y1:=b) (y2:=(H,n,c)) (y3:=b') (y4:=(E,L,I)) (s1.mono V) Q I7.sb SB.zero (by rw[Af1];exact I7.sb)) ?_
  intro v5 u5 a9 Y k5;refine G.c call22 (P6 (z:=1) oV oV) ?_;intro v6 u6 Z k6;rw[show ((1:Int):Rat)=1 by decide +kernel]at k6;obtain⟨b6,a6,n6,c6,ab,af,ac,rfl,_⟩:=k6.opn;refine G.callG _ _ kV kV call110 (g:=g2) (o:=o2) (by rw[Ad _ _ C.symm,Ab])
   (H7 (p:=(m,t)) (r:=(m,t)) (g1:=some g1) (y1:=b) (y2:=(H,n,c)) (y3:=b') (y4:=(E,L,I)) (((s2.mono V).mono Y).mono Z) k6 I7.sb (by rw[K];exact SB.zero) (by rw[K,Af1];exact I7.sb)) ?_
  intro v7 u7 aa l7 k7;rw[Ale C];rw[K]at k7;exact G.r (.agg #[.bool b,.slice H n c,.bool b',.slice E L I,.map (some g1),.map (some g2)]) ⟨b,H,n,c,b',E,L,I,g1,g2,_,_,rfl,(((k1.mono V).mono Y).mono Z).mono l7,C,rfl,((k5.mono Z).mono l7).congr fun k=>by rw[Af1];rfl,k7.congr fun k=>by
   rw[Af1];show (if k=((m,t),(m,t)) then (1:Rat) else 0)=if k=((m,t),(m,t)) then (1:Rat)*1 else 0
   rw[show (1:Rat)*1=1 by decide +kernel]⟩
 ·obtain⟨b,H,n,c,b',E,L,I,g1,g2,rfl⟩:=Oe X;refine G.q t [] ht ?_;rw[e];cases dr with
  |true =>
   refine G.drop PH.mt kV (PH.mt_le _)<|G.callO _ _ kV call46 (Jm (n:=0) oV oV) ?_;intro v4 u4 m4 V Q _;obtain⟨b,H,n,c,b',E,L,I,g1,g2,rfl⟩:=Oe Q;rw[By];exact G.r (.agg #[.bool b,.slice H n c,.bool b',.slice E L I,.map (some g1),.map (some g2)]) (Q.congr n0 oV)
  |false =>
   exact G.r (.agg #[.bool b,.slice H n c,.bool b',.slice E L I,.map (some g1),.map (some g2)]) (X.congr n1 oV)
 rw[e];obtain⟨b,H,n,c,b',E,L,I,g1,g2,o1,o2,rfl,k1,C,rfl,s1,s2⟩:=X;refine G.w t [] ht ?_;have K:Ay (m,[]) (m,[])=((m,[]),(m,[])):=Ii (by rw[Et.refl];omega);have a1:=G8 (u:=u3) (q:=Lk t) (SB.tx q1.sb);rw[q2]at a1;refine G.c call27 a1 ?_;intro v4 u4 V Q;obtain⟨b4,a4,n4,c4,a2,a8,a3,rfl,_⟩:=Q.opn;refine G.callG _ _ kV kV call109 (g:=g1) (o:=o1) (by rw[Ad _ _ C,Ab])
  (Oi (a:=(m,[])) (g2:=some g2) (y1:=b) (y2:=(H,n,c)) (y3:=b') (y4:=(E,L,I)) (s1.mono V) Q q1.sb SB.zero (by rw[Af1];exact q1.sb)) ?_
 intro v5 u5 a9 Y k5;refine G.c call28 (Gh (Q.mono Y) (Q.mono Y) (SB.ten q1.sb) (SB.ten q1.sb)) ?_;intro v6 u6 Z k6;refine G.callG _ _ kV kV call110 (g:=g2) (o:=o2) (by rw[Ad _ _ C.symm,Ab])
  (H7 (p:=(m,[])) (r:=(m,[])) (g1:=some g1) (y1:=b) (y2:=(H,n,c)) (y3:=b') (y4:=(E,L,I)) (((s2.mono V).mono Y).mono Z) k6 q1.sb2 (by rw[K];exact SB.zero) (by rw[K,Af1];exact q1.sb2)) ?_
 intro v7 u7 aa l7 k7;rw[Ale C];rw[K]at k7;exact G.r (.agg #[.bool b,.slice H n c,.bool b',.slice E L I,.map (some g1),.map (some g2)]) ⟨b,H,n,c,b',E,L,I,g1,g2,_,_,rfl,(((k1.mono V).mono Y).mono Z).mono l7,C,rfl,((k5.mono Z).mono l7).congr fun k=>by rw[Af1];rfl,k7.congr fun k=>by rw[Af1];rfl⟩
end
section
variable {u:PH}
def Kk.all {f:FuncId}{args:zV}{F:CF}{N:Nat}(c:Ag prog f args u PH.mt fun v e j=>Kk j e v F N):zF f args u fun v e=>R9 e v F N:=by
 refine Fn0.weak c.giveAll ?_;rintro v e ⟨t,m,h,l2,k⟩;exact k.give h l2
def R9.up {u:PH}{v:Value}{F:CF}{N M:Nat}(h:R9 u v F N)(j:N<=M):R9 u v F M:=by
 obtain⟨b,a,n,c,b',m,K,t,g1,g2,L,P,e,C,E,H,I,J⟩:=h;exact⟨b,a,n,c,b',m,K,t,g1,g2,L,P,e,C,E,H,I.up j,J.up j⟩
def Arh {v tv:Value}{T:zC}{R:List Br}{F:List Al}{lab:Int}{ss:zW}(h:Mv u v tv T R F lab ss)(ak:ss.length<=8) :
 zF 49 [v,tv] u fun r u'=>R9 u' r (cfT F lab ss) 255/\CFS (cfT F lab ss):=by
 have hX:=h.sch;obtain⟨⟨xa,xc,xb,xd,xe,xf,rfl,al,aj,ah⟩,ok,hS,hT⟩:=h;obtain⟨ya,yc,rfl⟩:=hS.opn;rw[A03]at hS⊢;have m:=N0 ok hT;have a9:=hT.len;obtain⟨L,P⟩:∃ L,L=Fh F lab ss:=⟨_,rfl⟩;have a3:cfT F lab ss=Iv (CF.num 1) L:=by rw[P];rfl
 rw[a3];rw[<-P]at m;have ai:L.length=ss.length:=by rw[P];exact G3
 refine Fn0.o func49<|G.c call46 (Kk.all (Jm (n:=1) oV oV)) ?_;intro v2 u2 l2 k2;have n1:(⟨((1:Int):Rat),fun _=>0,fun _=>0⟩:CF)=CF.num 1:=by rw[show ((1:Int):Rat)=1 by decide +kernel];rfl
 rw[n1]at k2;obtain⟨b,a,n,c,b',Q,n',W,g1,g2,rfl⟩:=Sw k2;refine G.l (ι:=Nat×(Bool×SlI)×(Bool×SlI)×Nat×Nat) (fun i=>[(2,.p 0 0),(4,.p 1 0),(5,.p 1001 0),(9,sV ya ss.length yc),(10,iV ss.length),(11,iV i.1)])
  (fun i=>[(0,⟨30,[sV xa T.length xc,sV xb R.length xd,sV xe F.length xf,iV lab]⟩),(1,⟨108,[bF,sN,bF,sN,.v (.map none),.v (.map none)]⟩),(1001,⟨108,[bV i.2.1.1,sV i.2.1.2.1 i.2.1.2.2.1 i.2.1.2.2.2,bV i.2.2.1.1,sV i.2.2.1.2.1 i.2.2.1.2.2.1 i.2.2.1.2.2.2,.v (.map (some i.2.2.2.1)),.v (.map (some i.2.2.2.2))]⟩)])
  (fun i u' m'=>i.1<=ss.length/\R9 u' (.agg #[.bool i.2.1.1,.slice i.2.1.2.1 i.2.1.2.2.1 i.2.1.2.2.2,.bool i.2.2.1.1,.slice i.2.2.1.2.1 i.2.2.1.2.2.1 i.2.2.1.2.2.2,.map (some i.2.2.2.1),.map (some i.2.2.2.2)]) (Iv (CF.num 1) (L.take i.1)) (2^i.1-1)/\m'=PH.mt)
  (fun i=>ss.length-i.1) (0,(b,a,n,c),(b',Q,n',W),g1,g2) ⟨oV,k2,rfl⟩ ?_
 rintro J ⟨i,⟨b,a,n,c⟩,⟨b',Q,n',W⟩,g1,g2⟩ hJ u3 m3 l3 ⟨hi,K,rfl⟩;simp only at hi K hJ;have C:=l2.trans l3;by_cases j:i<ss.length
 ·refine G.lT i ss.length ?_;obtain⟨bb,off,rfl,e⟩:=M5 (hS.mono C) j;refine G.N ss.length yc j e ?_;have I:ss.getD i []=ss[i]:=by simp[A02,A01 j]
  have H:T[i]?=some T[i]:=A01 oV;have E:L[i]?=some (Gm F lab i (ss.getD i [])):=by rw[P,I];exact Hg (A01 j)
  have a2:(Gm F lab i (ss.getD i [])).Small:=m _ (A1k E);have hv:=hT.val i _ _ H (A01 j);rw[<-I]at hv;refine G.c call112 (Kk.all (Ahp (hX.mono C) (ok.mono C) H hv)) ?_;intro v4 u4 l4 k4;obtain⟨b4,a4,n4,c4,ab,aa,am,ac,ae,af,rfl⟩:=Sw k4;have a1:2^i<=2^7:=A10 oV oV;have ag:1<=2^i:=Nat.one_le_two_pow;obtain⟨Y,ad⟩:=R2 m i oV;have t:Iv (CF.num 1) (L.take (i+1))=(Iv (CF.num 1) (L.take i)).mul (Gm F lab i (ss.getD i [])).cf:=by
   rw[A1n,E];exact Aa0 _ _ _
  refine G.c call111 (Kk.all (Arj (K.mono l4) k4 (Azw Y a2.cfd oV (Azz oV) (Nat.pos_of_ne_zero mV) oV))) ?_;intro v5 u5 l5 k5;obtain⟨b5,a5,n5,c5,V,U,a8,X,Z,a0,rfl⟩:=Sw k5;refine G.i i ?_;rw[<-t]at k5;exact G.b (hJ (i+1,(b5,a5,n5,c5),(V,U,a8,X),Z,a0) _ _ _ cV ((l3.trans l4).trans l5) ⟨dV,k5.up (by dsimp only;rw[A2d];omega),rfl⟩ dV)
 obtain rfl:i=ss.length:=oV;refine G.lF ss.length ss.length ?_;have a7:L.take ss.length=L:=by rw[A1j oV]
 have a6:CFS (Iv (CF.num 1) L):=by
  obtain⟨q1,_⟩:=R2 m L.length (A08 _);rw[A15]at q1;exact q1.cfs oV (A0n oV)
 rw[a7]at K;have a1:2^ss.length<=2^8:=A10 oV oV;exact G.r (.agg #[.bool b,.slice a n c,.bool b',.slice Q n' W,.map (some g1),.map (some g2)]) ⟨rfl,K.up oV,a6⟩
end
section
variable {u:PH}
def Tw {p:Par}(h:PV p):zF 161 [Ap p] u fun v _=>v=zT:=by
 refine Fn0.o func161<|G.hT' p.1 (-1) (by have:=h.lo;omega) ?_;by_cases e:p.2 = []
 ·exact G.q p.2 [] e<|G.z zT
 refine G.w p.2 [] e<|G.c call107 (Rr (h.cat.resolve_left e)) ?_;rintro t m j rfl;exact G.z zT
def ElP.par {b off:Nat}{x:Par×Rat}(h:ElP u b off (Bt x)):ElP u b (off+0) (.agg #[zI x.1.1,zS x.1.2]):=h.sub fun i y e=>by
 match i,e with
 |0,e=>simpa[Bt,Value.cells] using e
 |1,e=>simpa[Bt,Value.cells] using e
 |i+2,e=>simp[Value.cells]at e
def Ahu {v:Value}{F:CF}{K:Nat}(h:No u v F K)(sF:CFS F)(vF:CFV F)(hK:K<=1000000):zF 92 [v] u fun r _=>r=zT:=by
 obtain⟨T,Q,a1,c1,a2,c2,rfl,hT,hQ,cT,cQ,kT,kQ⟩:=h;refine Fn0.o func92<|G.c call24 (Ee (SB.tx sF.c)) ?_;rintro v1 u1 l1 rfl;refine G.l (ι:=Nat) (fun i=>[(1,.p 0 0),(12,sV a1 T.length c1),(13,iV T.length),(14,iV i)])
  (fun _=>[(0,⟨38,[tV (Ae F.c),sV a1 T.length c1,sV a2 Q.length c2]⟩)])
  (fun i u' m'=>i<=T.length/\m'=PH.mt) (fun i=>T.length-i) 0 ⟨oV,rfl⟩ ?_
 rintro J i X u2 m2 l2 ⟨hi,rfl⟩;have W:=l1.trans l2;by_cases C:i<T.length
 ·refine G.lT i T.length ?_;obtain⟨x,P⟩:∃ x,T[i]?=some x:=⟨_,A01 C⟩;have E:=A1k P;obtain⟨m,H⟩:=cT.val _ E;obtain⟨ba,oa,rfl,ea⟩:=Ac.at' (hT.mono W) (j:=i) (e:=Bt x) (by simp[P]);have R:SB x.2:=by rw[m];exact sF.s _
  have a6:PV x.1:=vF.s x.1 (by rw[<-m];exact H);refine G.N T.length c1 C ea<|G.c call161 (Tw a6) ?_;rintro v3 u3 U rfl;refine G.c call24 (Ee (SB.tx R)) ?_;rintro v4 u4 V rfl;refine G.w (Ae x.2) [48] (Sf H) ?_;by_cases h0:i=0
  ·subst h0;exact G.gF (0:Nat) 0<|G.p (0:Nat) 1 (0+1:Nat)<|G.b (X (0+1) _ _ _ cV ((l2.trans U).trans V) ⟨oV,rfl⟩ oV)
  refine G.gT i 0<|G.s i 1 (i-1:Nat) ?_;obtain⟨y,Z⟩:∃ y,T[i-1]?=some y:=⟨_,A01 oV⟩;have I:Bk y.1 x.1<0:=by
   have hp:=cT.srt;obtain⟨h1,rfl⟩:=A05.1 P;obtain⟨h2,rfl⟩:=A05.1 Z;have:=A3n.1 hp (i-1) i (by rw[A03];omega) (by rw[A03];omega) oV;rw[A3v,A3v]at this;exact this
  obtain⟨bb,ob,e1,eb⟩:=Ac.at' (hT.mono ((W.trans U).trans V)) (j:=i-1) (e:=Bt y) (by simp[Z]);cases e1;refine G.a ba oa T.length c1 (i-1) 3 oV<|G.f 162 ba (oa+(i-1)*3) 0 0<|G.g (some 2) eb.par<|G.c call113 (Fp y.1 x.1 true (decide_eq_true I)) ?_;rintro v5 u5 l5 rfl;exact G.i i<|G.b (X (i+1) _ _ _ cV (((l2.trans U).trans V).trans l5) ⟨oV,rfl⟩ oV)
 obtain rfl:i=T.length:=oV;refine G.lF T.length T.length ?_;clear X;refine G.l (ι:=Nat) (fun i=>[(1,.p 0 0),(53,sV a2 Q.length c2),(54,iV Q.length),(55,iV i)])
  (fun _=>[(0,⟨38,[tV (Ae F.c),sV a1 T.length c1,sV a2 Q.length c2]⟩)])
  (fun i u' m'=>i<=Q.length/\m'=PH.mt) (fun i=>Q.length-i) 0 ⟨oV,rfl⟩ ?_
 rintro J i X u3 m3 U ⟨hi,rfl⟩;have a3:=W.trans U;by_cases C:i<Q.length
 ·refine G.lT i Q.length ?_;obtain⟨x,L⟩:∃ x,Q[i]?=some x:=⟨_,A01 C⟩;have E:=A1k L;obtain⟨m,H⟩:=cQ.val _ E;obtain⟨ba,oa,rfl,ea⟩:=Ac.at' (hQ.mono a3) (j:=i) (e:=D8 x) (by simp[L]);have R:SB x.2:=by rw[m];exact sF.t _
  obtain⟨a4,a5,a0⟩:=vF.t x.1 (by rw[<-m];exact H);refine G.N Q.length c2 C ea<|G.c call161 (Tw a4) ?_;rintro v3 u4 V rfl;refine G.c call161 (Tw a5) ?_;rintro v4 u5 l5 rfl;refine G.c call113 (Fp x.1.2 x.1.1 false (decide_eq_false fun e=>a0 ((Et.sym _ _).1 e))) ?_;rintro v5 u6 l6 rfl;refine G.c call24 (Ee (SB.tx R)) ?_;rintro v6 u7 l7 rfl;refine G.w (Ae x.2) [48] (Sf H) ?_;by_cases h0:i=0
  ·subst h0;exact G.gF (0:Nat) 0<|G.p (0:Nat) 1 (0+1:Nat)<|G.b (X (0+1) _ _ _ cV ((((U.trans V).trans l5).trans l6).trans l7) ⟨oV,rfl⟩ oV)
  refine G.gT i 0<|G.s i 1 (i-1:Nat) ?_;obtain⟨y,Y⟩:∃ y,Q[i-1]?=some y:=⟨_,A01 oV⟩;have I:Oc y.1 x.1<0:=by
   have hp:=cQ.srt;obtain⟨h1,rfl⟩:=A05.1 L;obtain⟨h2,rfl⟩:=A05.1 Y;have:=A3n.1 hp (i-1) i (by rw[A03];omega) (by rw[A03];omega) oV;rw[A3v,A3v]at this;exact this
  obtain⟨bb,ob,e1,eb⟩:=Ac.at' (hQ.mono ((((a3.trans V).trans l5).trans l6).trans l7)) (j:=i-1) (e:=D8 y) (by simp[Y]);cases e1;refine G.n Q.length c2 eb<|G.c call114 (P4 y x true (decide_eq_true I)) ?_;rintro v5 u8 l8 rfl;exact G.i i<|G.b (X (i+1) _ _ _ cV (((((U.trans V).trans l5).trans l6).trans l7).trans l8) ⟨oV,rfl⟩ oV)
 obtain rfl:i=Q.length:=oV;exact G.lF Q.length Q.length<|G.z zT
end
theorem Src.h0or (s:Src)(k j:Nat)(m:PH)(g:Nat):s.M k g=none\/(m.or (s.M j)) g≠none:=by
 rcases s.h0 k j g with e|e
 ·grind
 right;intro h;cases hx:m g with
 |some o=>rw[PH.or_l hx]at h;cases h
 |none=>rw[PH.or_r hx]at h;exact e h
def Atc {m:PH}{a b c d:Arr}(h:Bag m [a,b,c,d]):Bag m [a,c,d]:=by
 have e:Bag m [a,c,d,b]:=Bag.perm (List.Perm.cons a ((List.Perm.swap c b [d]).trans (List.Perm.cons c (List.Perm.swap d b [])))) h;obtain⟨j,C,t,E,u,F,_⟩:=e;exact⟨j,C,t,E,u,F,trivial⟩
def Ay7 {x:Int}(h:x∈[1,2,2,(3:Int)]):∃ n:Nat,x=(n:Int)/\1<=n/\n<=3:=by
 simp at h;rcases h with rfl|rfl|rfl
 ·exact⟨1,rfl,oV,oV⟩
 ·exact⟨2,rfl,oV,oV⟩
 exact⟨3,rfl,oV,oV⟩
def Ags {u:PH}{s:Src}{ts:List Int}{k:Nat}(most:Nat)(f7:1<=most)(e4:most<=6)(h:J0 u s ts)(hk:k<=s.n) :
 Ag prog 104 [s.ptr,zI most] u (s.M k) fun v u' m'=>∃ (T:zC) (R:List Br) (F:List Al) (lab:Int) (k':Nat),H5 u' v T R F lab/\Bl u' T R F lab/\T.length<=6/\k'<=s.n/\m'=s.M k'/\TOK T/\T.length<=most/\F.length<=most:=by
 refine Ag.o func104<|G.A call181 (Anm (lo:=1) (hi:=3) (n:=3) h hk oV oV oV oV oV) ?_;rintro v1 u1 m1 l1 ⟨r,k1,rfl,hr,e0,rfl⟩ _;rw[By];obtain⟨n,hn⟩:∃ n:Nat,(1:Int)+(r:Int)=(n:Int):=⟨1+r,oV⟩;rw[hn];refine G.l (ι:=Nat×Nat×zC×(zP×Nat)×List Br×(zP×Nat)) (fun i=>[(0,.v s.ptr),(1,iV most),(4,.p 0 0),(5,.p 1001 0),(6,iV n),(7,iV i.1)])
  (fun i=>[(0,⟨30,[sN,sN,sN,iV 0]⟩),(1001,⟨30,[sV i.2.2.2.1.1 i.2.2.1.length i.2.2.2.1.2,sV i.2.2.2.2.2.1 i.2.2.2.2.1.length i.2.2.2.2.2.2,sN,iV (-1)]⟩)])
  (fun i u' m'=>i.1<=n/\i.2.1<=s.n/\TOM most i.2.2.1/\ROK u' i.2.2.1.length i.2.2.2.2.1/\i.2.2.2.2.1.length=i.1/\(0<i.1->0<i.2.2.1.length)/\Bag m' [s.arr i.2.1,Acx i.2.2.2.1.1 i.2.2.2.1.2 i.2.2.1,Zn i.2.2.2.2.2.1 i.2.2.2.2.2.2 i.2.2.2.2.1])
  (fun i=>n-i.1) (0,k1,[],(none,0),[],(none,0))
  ⟨A1t _,e0,TOM.nil most,ROK.nil,rfl,fun h=>absurd h mV,s.bag0 k1 ⟨PH.mt,Af.nil _ _ _,PH.mt,Af.nil _ _ _,trivial⟩⟩ ?_
 rintro J ⟨i,k2,T,⟨ta,tc⟩,R,⟨ra,rc⟩⟩ hJ u2 m2 l2 ⟨hi,ck,hT,hR,cz,h0,b7⟩;simp only at hi ck hT hR cz h0 b7 hJ;subst cz;have c0:=l1.trans l2;have dy:=hT.le;by_cases f6:R.length<n
 ·refine G.lT R.length n<|G.l (ι:=Nat×Nat×zK×(zP×Nat)) (fun i=>[(0,.v s.ptr),(1,iV most),(4,.p 0 0),(5,.p 1001 0),(6,iV n),(7,iV R.length),(8,sV i.2.2.2.1 i.2.2.1.length i.2.2.2.2),(23,iV T.length),(24,iV i.1)])
   (fun i=>[(0,⟨30,[sN,sN,sN,iV 0]⟩),(1001,⟨30,[sV ta T.length tc,sV ra R.length rc,sN,iV (-1)]⟩)])
   (fun i u' m'=>i.1<=T.length/\i.2.1<=s.n/\LOK i.2.2.1 i.1/\Bag m' [s.arr i.2.1,Agt i.2.2.2.1 i.2.2.2.2 i.2.2.1,Acx ta tc T,Zn ra rc R])
   (fun i=>T.length-i.1) (0,k2,[],(none,0))
   ⟨A1t _,ck,LOK.nil,by obtain⟨m0,e9,hL⟩:=b7;exact⟨m0,e9,m0,Af.nil _ _ _,hL⟩⟩ ?_
  rintro J1 ⟨j,k3,l,⟨la,lc⟩⟩ V u3 m3 l3 ⟨hj,a3,hl,aj⟩;simp only at hj a3 hl aj V;have f5:=hl.len;by_cases f2:j<T.length
  ·refine G.lT j T.length ?_;obtain⟨n4,al,ci⟩:=aj;obtain⟨rfl,b8⟩:=Src.split al;refine G.D call14 (Src.apart b8) (I4 (n:=3) (h.mono (c0.trans l3)) a3 oV oV) ?_;rintro v4 u4 m4 l4 ⟨r4,k4,rfl,e7,bs,rfl⟩ _;have m:Bag _ [s.arr k4,Agt la lc l,Acx ta tc T,Zn ra rc R]:=⟨_,Src.at b8,ci⟩;by_cases d8:r4=0
   ·refine G.eT r4 0<|G.B 3 1 8 zO [zI j] (Av [j]) ?_;intro g6 u6 l6 e6;obtain⟨cr,bg,ak⟩:=m.focus 1 rfl;rw[Aca]at bg;refine G.append 3 1 8 zO cr (Ai l) [zI j] (.slice la l.length lc) g6 0 1 1 kV rfl rfl oV bg e6 (Av [j]) rfl oV (by simp[Ai];omega) (by simp[Ai];omega) ?_;intro w6 cs ab;rw[Di]at ab;obtain⟨a6,c6,rfl⟩:=ab.shape;rw[Ak]at ab⊢;have X:=ak (Agt a6 c6 (l++[j])) cs ab;simp only[A2j,A2p]at X;exact G.i j<|G.b (V (j+1,k4,l++[j],(a6,c6)) _ _ _ cV ((l3.trans l4).trans l6) ⟨dV,bs,hl.snoc,X⟩ dV)
   exact G.eF r4 0<|G.i j<|G.b (V (j+1,k4,l,(la,lc)) _ _ _ cV (l3.trans l4) ⟨dV,bs,hl.up,m⟩ dV)
  obtain rfl:j=T.length:=oV;refine G.lF T.length T.length ?_;obtain⟨n4,al,ci⟩:=aj;obtain⟨rfl,b8⟩:=Src.split al;refine G.D call14 (Src.apart b8) (I4 (n:=3) (h.mono (c0.trans l3)) a3 oV oV) ?_;rintro v4 u4 m4 l4 ⟨r4,k4,rfl,e7,bs,rfl⟩ _;have m:Bag _ [s.arr k4,Agt la lc l,Acx ta tc T,Zn ra rc R]:=⟨_,Src.at b8,ci⟩;refine G.l (ι:=Int×Nat×zK×(zP×Nat)×zC×(zP×Nat)) (fun i=>[(0,.v s.ptr),(1,iV most),(4,.p 0 0),(5,.p 1001 0),(6,iV n),(7,iV R.length),(8,sV i.2.2.2.1.1 i.2.2.1.length i.2.2.2.1.2),(10,iV i.1)])
   (fun i=>[(0,⟨30,[sN,sN,sN,iV 0]⟩),(1001,⟨30,[sV i.2.2.2.2.2.1 i.2.2.2.2.1.length i.2.2.2.2.2.2,sV ra R.length rc,sN,iV (-1)]⟩)])
   (fun i u' m'=>i.2.1<=s.n/\(i.2.2.1 = []->0<=i.1)/\-1<=i.1/\i.1<=2/\T.length<=i.2.2.2.2.1.length/\TOM most i.2.2.2.2.1/\LOK i.2.2.1 i.2.2.2.2.1.length/\(∀ a,T.length<=a->a<i.2.2.2.2.1.length->a∈i.2.2.1)/\Bag m' [s.arr i.2.1,Agt i.2.2.2.1.1 i.2.2.2.1.2 i.2.2.1,Acx i.2.2.2.2.2.1 i.2.2.2.2.2.2 i.2.2.2.2.1,Zn ra rc R])
   (fun i=>(i.1+1).toNat) ((r4:Int),k4,l,(la,lc),T,(ta,tc))
   ⟨bs,fun _=>dV,dV,dV,A08 _,hT,hl,fun a h1 h2=>by dsimp only at h2;omega,m⟩ ?_
  rintro J2 ⟨z,k5,E,⟨a0,a1⟩,C,⟨bp,bq⟩⟩ cx u5 m5 cq ⟨a4,df,eb,ec,ai,b6,bd,a5,t⟩;simp only at a4 df eb ec ai b6 bd a5 t cx;have ez:=b6.le;have f0:=bd.len;have dg:=((c0.trans l3).trans l4).trans cq;have c1:=(l3.trans l4).trans cq;refine dite (0<z) (fun hz=>?zp) (fun hz=>?zn)
  case' zp =>
   refine G.gT z 0 ?_;refine dite (C.length<most) (fun be=>?g1) (fun be=>?l1)
  case' g1=>refine G.lT C.length most ?_
  case' l1 =>
   refine G.lF C.length most ?_;refine dite (E = []) (fun I=>?e1) (fun I=>?n1)
  case' n1=>have d7:0<C.length:=oV
  case' zn =>
   refine G.gF z 0 ?_;refine dite (E = []) (fun I=>?y2) (fun I=>?n2)
  case' y2 =>
   have f8:=df I;have d5:E.length=0:=by rw[I];rfl
   refine G.eT E.length 0 ?_;refine dite (C.length<most) (fun be=>?g2) (fun be=>?e2)
  case' g2=>refine G.lT C.length most ?_
  case' e2=>refine G.lF C.length most ?_
  case' n2 =>
   have d5:0<E.length:=A4f.2 I;refine G.eF E.length 0 ?_;have d7:0<C.length:=by
    obtain⟨x,hx⟩:=List.exists_mem_of_ne_nil _ I;have:=bd.lt x hx;omega
  case g1|g2 =>
   refine G.B 3 1 8 zO [zI C.length] (Av [C.length]) ?_;intro ds fd cp dp;obtain⟨dh,c4,bu⟩:=t.focus 1 rfl;rw[Aca]at c4;refine G.append 3 1 8 zO dh (Ai E) [zI C.length] (.slice a0 E.length a1) ds 0 1 1 kV rfl rfl oV c4 dp (Av [C.length]) rfl oV (by simp[Ai];omega) (by simp[Ai];omega) ?_;intro fh dj au;rw[Di]at au;obtain⟨ca,cb,rfl⟩:=au.shape;rw[Ak]at au⊢;have aq:=bu (Agt ca cb (E++[C.length])) dj au;simp only[A2j,A2p]at aq;refine G.both [0,1,2,3,4,6] 5 7 [8,9,10,11,12,13] kV ?_ ?_;refine G.c call182 (S0 (p:=[97]) (i:=C.length) oV mV) ?_;rintro eu em ay rfl;refine G.B 3 1 8 zO [zI 1,zI 2,zI 2,zI 3] (N7 [1,2,2,3]) ?_;intro du eo bj cd;have c7:=(((dg).trans cp).trans ay).trans bj;have c8:=ay.trans bj;have c2:=cd.listP
   rotate_left
   refine G.B 3 1 8 zO [zI 1,zI 2,zI 2,zI 3] (N7 [1,2,2,3]) ?_;intro du eo bj cd;refine G.c call182 (S0 (p:=[97]) (i:=C.length) oV mV) ?_;rintro eu em ay rfl;have c7:=(((dg).trans cp).trans bj).trans ay;have c8:=bj.trans ay;have c2:=cd.listP.mono ay;all_goals
    obtain⟨dl,bz,cy⟩:=aq;obtain⟨rfl,c3⟩:=Src.split bz;refine G.D call88 (Src.apart c3) (Aer (L:=[1,2,2,3]) (h.mono c7) a4 c2 mV mV) ?_;rintro fg fe f9 ed ⟨kd,bt,cm,rfl,d1,rfl⟩ _;obtain⟨kn,rfl,d3,d4⟩:=Ay7 bt;have br:Bag (dl.or (s.M cm)) [s.arr cm,Agt ca cb (E++[C.length]),Acx bp bq C,Zn ra rc R]:=⟨dl,Src.at c3,cy⟩;refine G.B 96 2 24 (.agg #[zE,zO]) [.agg #[zS (nmA C.length),zI kn]] (Ak2 (nmA C.length,kn)) ?_;intro dv ff ee dq;obtain⟨di,c5,bw⟩:=br.focus 2 rfl;rw[Ath]at c5;refine G.append 96 2 24 (.agg #[zE,zO]) di (C.map D9) [.agg #[zS (nmA C.length),zI kn]] (.slice bp C.length bq) dv 0 1 1 kV rfl rfl oV c5 dq (Ak2 (nmA C.length,kn)) rfl oV (by simp[Ai];omega) (by simp[Ai];omega) ?_;intro fi dk av;rw[show C.map D9++[.agg #[zS (nmA C.length),zI kn]]=(C++[(nmA C.length,kn)]).map D9 by rw[A1i];rfl]at av;obtain⟨cu,cv,rfl⟩:=av.shape;rw[A03]at av⊢;have ar:=bw (Acx cu cv (C++[(nmA C.length,kn)])) dk av;simp only[A2j,A2p]at ar;refine G.s z 1 (z-1) ?_;exact G.b (cx (z-1,cm,E++[C.length],(ca,cb),C++[(nmA C.length,kn)],(cu,cv)) _ _ _ cV ((((cq.trans cp).trans c8).trans ed).trans ee) ⟨d1,fun e=>by simp at e,dV,dV,by dsimp only;rw[A1d];omega,b6.snocm d3 d4 oV e4,by dsimp only;rw[A1d];exact bd.snoc,fun a h1 h2=>by
     dsimp only at h2⊢;rw[A1d,A20]at h2;rcases A2e a C.length with e|e
     ·exact A24 _ (a5 a h1 e)
     exact A6v _ (A12.2 oV),ar⟩ dV)
  case e1|e2 =>
   subst I;refine G.eT' (([]:zK).length:Int) 0 mV<|G.B 3 1 8 zO [zI (0:Nat)] (Av [0]) ?_;intro a2 dm bk dr;have bb:Ac dm (zG a2 1 1) 1 (Ai [0]):=dr.listP;have W:=Atc t;refine G.c call182 (S0 (p:=[114]) (i:=R.length) oV mV) ?_;rintro ew ep an rfl;refine G.B 98 2 40 (.agg #[zE,zN]) [.agg #[zS (nmR R.length),zG a2 1 1]] (Sh (nmR R.length,[0],((some (⟨a2,0,none⟩:Addr)),1))) ?_;intro ch ct ao ce;obtain⟨bm,ah,aa⟩:=W.focus 2 rfl;rw[Aj5]at ah;refine G.append 98 2 40 (.agg #[zE,zN]) bm (R.map Hs) [.agg #[zS (nmR R.length),zG a2 1 1]] (.slice ra R.length rc) ch 0 1 1 kV rfl rfl oV ah ce (Sh (nmR R.length,[0],((some (⟨a2,0,none⟩:Addr)),1))) rfl oV (by simp[Ai];omega) (by simp[Ai];omega) ?_;intro ey bo U;rw[show R.map Hs++[.agg #[zS (nmR R.length),zG a2 1 1]]=(R++[(nmR R.length,[0],((some (⟨a2,0,none⟩:Addr)),1))]).map Hs by rw[A1i];rfl]at U;obtain⟨b1,b3,rfl⟩:=U.shape;rw[A03]at U⊢;have P:=aa (Zn b1 b3 (R++[(nmR R.length,[0],((some (⟨a2,0,none⟩:Addr)),1))])) bo U;simp only[A2j,A2p]at P;refine G.p R.length 1 (R.length+1:Nat) ?_;have b5:ROK ct C.length (R++[(nmR R.length,[0],((some (⟨a2,0,none⟩:Addr)),1))]):=by
    refine (hR.mono (c1 |>.trans bk |>.trans an |>.trans ao)).snoc ai (LOK.zero oV) mV (fun a h1 h2=>?_) (bb.mono (an.trans ao));exact absurd (a5 a h1 h2) mV
   exact G.b (hJ (R.length+1,k5,C,(bp,bq),R++[(nmR R.length,[0],((some (⟨a2,0,none⟩:Addr)),1))],(b1,b3)) _ _ _ cV (l2.trans (c1 |>.trans bk |>.trans an |>.trans ao)) ⟨dV,a4,b6,b5,mV,fun _=>dV,P⟩ dV)
  case n1|n2 =>
   have f4:0<E.length:=A4f.2 I;refine G.eF E.length 0 ?_;obtain⟨mL,dd,cl⟩:=t.take 1 rfl;have W:Bag mL [s.arr k5,Acx bp bq C,Zn ra rc R]:=cl;rw[Aca]at dd;refine G.give mL (Ai E) (.slice a0 E.length a1) kV dd (fun g=>?_) ?_
   ·obtain⟨eh,db,_⟩:=W;obtain⟨rfl,_⟩:=Src.split db;exact s.h0or k k5 eh g
   intro dm bk bb;refine G.c call182 (S0 (p:=[114]) (i:=R.length) oV mV) ?_;rintro ew ep an rfl;refine G.B 98 2 40 (.agg #[zE,zN]) [.agg #[zS (nmR R.length),.slice a0 E.length a1]] (Sh (nmR R.length,E,(a0,a1))) ?_;intro ch ct ao ce;obtain⟨bm,ah,aa⟩:=W.focus 2 rfl;rw[Aj5]at ah;refine G.append 98 2 40 (.agg #[zE,zN]) bm (R.map Hs) [.agg #[zS (nmR R.length),.slice a0 E.length a1]] (.slice ra R.length rc) ch 0 1 1 kV rfl rfl oV ah ce (Sh (nmR R.length,E,(a0,a1))) rfl oV (by simp[Ai];omega) (by simp[Ai];omega) ?_;intro ey bo U;rw[show R.map Hs++[.agg #[zS (nmR R.length),.slice a0 E.length a1]]=(R++[(nmR R.length,E,(a0,a1))]).map Hs by rw[A1i];rfl]at U;obtain⟨b1,b3,rfl⟩:=U.shape;rw[A03]at U⊢;have P:=aa (Zn b1 b3 (R++[(nmR R.length,E,(a0,a1))])) bo U;simp only[A2j,A2p]at P;refine G.p R.length 1 (R.length+1:Nat) ?_;have b5:ROK ct C.length (R++[(nmR R.length,E,(a0,a1))]):=by
    exact (hR.mono (c1 |>.trans bk |>.trans an |>.trans ao)).snoc ai bd I a5 (bb.mono (an.trans ao))
   exact G.b (hJ (R.length+1,k5,C,(bp,bq),R++[(nmR R.length,E,(a0,a1))],(b1,b3)) _ _ _ cV (l2.trans (c1 |>.trans bk |>.trans an |>.trans ao)) ⟨dV,a4,b6,b5,mV,fun _=>dV,P⟩ dV)
 obtain rfl:R.length=n:=oV;refine G.lF R.length R.length ?_;have cj:=h0 oV;obtain⟨n0,dc,hL⟩:=b7;obtain⟨rfl,dz⟩:=Src.split dc;refine G.giveP (ma:=n0) (sm:=s.M k2) kV rfl (Src.apart dz) (s.h0 k k2) ?_;intro u3 l3 d6;have cw:Ac u3 (.slice ta T.length tc) 2 (T.map D9):=hL.list d6 0 rfl;have dx:Ac u3 (.slice ra R.length rc) 2 (R.map Hs):=hL.list d6 1 rfl;refine G.l (ι:=Nat×Nat×List Al×(zP×Nat)×Int) (fun i=>[(0,.v s.ptr),(4,.p 0 0),(5,.p 1001 0),(86,sV ta T.length tc),(87,iV T.length),(88,iV i.1)])
  (fun i=>[(0,⟨30,[sN,sN,sN,iV 0]⟩),(1001,⟨30,[sV ta T.length tc,sV ra R.length rc,sV i.2.2.2.1.1 i.2.2.1.length i.2.2.2.1.2,iV i.2.2.2.2]⟩)])
  (fun i u' m'=>i.1<=T.length/\i.2.1<=s.n/\FOK T i.2.2.1 i.2.2.2.2 i.1/\Bag m' [s.arr i.2.1,W3 i.2.2.2.1.1 i.2.2.2.1.2 i.2.2.1])
  (fun i=>T.length-i.1) (0,k2,[],(none,0),-1)
  ⟨A1t _,ck,FOK.nil,s.bag0 k2 ⟨PH.mt,Af.nil _ _ _,trivial⟩⟩ ?_
 rintro J1 ⟨a,k3,F,⟨fa,fc⟩,lab⟩ V u4 m4 l4 ⟨ha,a3,hF,m⟩;simp only at ha a3 hF m V;have az:=(c0.trans l3).trans l4;have f3:=hF.len;by_cases bf:a<T.length
 ·refine G.lT a T.length ?_;have ax:T[a]?=some T[a]:=A01 bf;have bt:=hT.kd _ (A09 bf);obtain⟨ba,oa,rfl,ea⟩:=Ac.at' (cw.mono l4) (j:=a) (e:=D9 T[a]) (by simp[ax]);generalize T[a]=x at ax bt ea;obtain⟨nm,kd⟩:=x;simp only at bt;refine G.N T.length tc bf ea ?_;by_cases d0:kd=2
  ·subst d0;refine G.eT (2:Nat) 2 ?_;by_cases f1:lab<0
   ·refine G.lT lab 0 ?_;obtain⟨n5,Z,aw⟩:=m;obtain⟨rfl,ae⟩:=Src.split Z;refine G.D call14 (Src.apart ae) (I4 (n:=2) (h.mono az) a3 oV oV) ?_;rintro v5 u5 m5 E ⟨r5,k5,rfl,e8,a4,rfl⟩ _;have t:Bag _ [s.arr k5,W3 fa fc F]:=⟨_,Src.at ae,aw⟩;by_cases d8:r5=0
    ·exact G.eT r5 0<|G.i a<|G.b (V (a+1,k5,F,(fa,fc),(a:Int)) _ _ _ cV (l4.trans E) ⟨dV,a4,hF.lab ax,t⟩ dV)
    refine G.eF r5 0<|G.eT (2:Nat) 2 ?_;have Y:=ae;have ac:=aw;refine G.D call14 (Src.apart Y) (I4 (n:=4) (h.mono (az.trans E)) a4 oV oV) ?_;rintro er ei ef am ⟨ap,bh,rfl,d9,af,rfl⟩ _;have a7:Bag _ [s.arr bh,W3 fa fc F]:=⟨_,Src.at Y,ac⟩;by_cases e5:0<ap
    ·refine G.gT ap 0 ?_;have ad:=Y;have b4:=ac;refine G.D call14 (Src.apart ad) (I4 (n:=2) (h.mono ((az.trans E).trans am)) af oV oV) ?_;rintro et ej eg cn ⟨H,bi,rfl,da,b9,rfl⟩ _;have a8:Bag _ [s.arr bi,W3 fa fc F]:=⟨_,Src.at ad,b4⟩;refine G.B 100 3 24 (.agg #[zO,zO,zO]) [.agg #[zI a,zI (1:Nat),zI H]] (Kg (a,1,H)) ?_;intro cg ek co cc;obtain⟨bl,ag,a9⟩:=a8.focus 1 rfl;rw[Acb]at ag;refine G.append 100 3 24 (.agg #[zO,zO,zO]) bl (F.map Cm) [.agg #[zI a,zI (1:Nat),zI H]] (.slice fa F.length fc) cg 0 1 1 kV rfl rfl oV ag cc (Kg (a,1,H)) rfl oV (by simp[Ai];omega) (by simp[Ai];omega) ?_;intro ex bn Q;rw[show F.map Cm++[.agg #[zI a,zI (1:Nat),zI H]]=(F++[(a,1,H)]).map Cm by rw[A1i];rfl]at Q;obtain⟨b0,b2,rfl⟩:=Q.shape;rw[A03]at Q⊢;have K:=a9 (W3 b0 b2 (F++[(a,1,H)])) bn Q;simp only[A2j,A2p]at K;exact G.i a<|G.b (V (a+1,bi,F++[(a,1,H)],(b0,b2),lab) _ _ _ cV ((((l4.trans E).trans am).trans cn).trans co) ⟨dV,b9,hF.put ax (.inl ⟨rfl,rfl,oV⟩),K⟩ dV)
    exact G.gF ap 0<|G.eF (2:Nat) 3<|G.i a<|G.b (V (a+1,bh,F,(fa,fc),lab) _ _ _ cV ((l4.trans E).trans am) ⟨dV,af,hF.skip,a7⟩ dV)
   refine G.lF lab 0<|G.eT (2:Nat) 2 ?_;obtain⟨fb,bx,ac⟩:=m;obtain⟨rfl,Y⟩:=Src.split bx;refine G.D call14 (Src.apart Y) (I4 (n:=4) (h.mono az) a3 oV oV) ?_;rintro er ei ef am ⟨ap,bh,rfl,d9,af,rfl⟩ _;have a7:Bag _ [s.arr bh,W3 fa fc F]:=⟨_,Src.at Y,ac⟩;by_cases e5:0<ap
   ·refine G.gT ap 0 ?_;have ad:=Y;have b4:=ac;refine G.D call14 (Src.apart ad) (I4 (n:=2) (h.mono (az.trans am)) af oV oV) ?_;rintro et ej eg cn ⟨H,bi,rfl,da,b9,rfl⟩ _;have a8:Bag _ [s.arr bi,W3 fa fc F]:=⟨_,Src.at ad,b4⟩;refine G.B 100 3 24 (.agg #[zO,zO,zO]) [.agg #[zI a,zI (1:Nat),zI H]] (Kg (a,1,H)) ?_;intro cg ek co cc;obtain⟨bl,ag,a9⟩:=a8.focus 1 rfl;rw[Acb]at ag;refine G.append 100 3 24 (.agg #[zO,zO,zO]) bl (F.map Cm) [.agg #[zI a,zI (1:Nat),zI H]] (.slice fa F.length fc) cg 0 1 1 kV rfl rfl oV ag cc (Kg (a,1,H)) rfl oV (by simp[Ai];omega) (by simp[Ai];omega) ?_;intro ex bn Q;rw[show F.map Cm++[.agg #[zI a,zI (1:Nat),zI H]]=(F++[(a,1,H)]).map Cm by rw[A1i];rfl]at Q;obtain⟨b0,b2,rfl⟩:=Q.shape;rw[A03]at Q⊢;have K:=a9 (W3 b0 b2 (F++[(a,1,H)])) bn Q;simp only[A2j,A2p]at K;exact G.i a<|G.b (V (a+1,bi,F++[(a,1,H)],(b0,b2),lab) _ _ _ cV (((l4.trans am).trans cn).trans co) ⟨dV,b9,hF.put ax (.inl ⟨rfl,rfl,oV⟩),K⟩ dV)
   exact G.gF ap 0<|G.eF (2:Nat) 3<|G.i a<|G.b (V (a+1,bh,F,(fa,fc),lab) _ _ _ cV (l4.trans am) ⟨dV,af,hF.skip,a7⟩ dV)
  refine G.eF kd 2<|G.eF kd 2 ?_;by_cases d2:kd=3
  ·subst d2;refine G.eT (3:Nat) 3 ?_;obtain⟨n5,Z,aw⟩:=m;obtain⟨rfl,ae⟩:=Src.split Z;refine G.D call14 (Src.apart ae) (I4 (n:=4) (h.mono az) a3 oV oV) ?_;rintro v5 u5 m5 E ⟨r5,k5,rfl,e8,a4,rfl⟩ _;have t:Bag _ [s.arr k5,W3 fa fc F]:=⟨_,Src.at ae,aw⟩;by_cases d8:0<r5
   ·refine G.gT r5 0<|G.B 100 3 24 (.agg #[zO,zO,zO]) [.agg #[zI a,zI (2:Nat),zI (0:Nat)]] (Kg (a,2,0)) ?_;intro g6 u6 l6 e6;obtain⟨cr,bg,ak⟩:=t.focus 1 rfl;rw[Acb]at bg;refine G.append 100 3 24 (.agg #[zO,zO,zO]) cr (F.map Cm) [.agg #[zI a,zI (2:Nat),zI (0:Nat)]] (.slice fa F.length fc) g6 0 1 1 kV rfl rfl oV bg e6 (Kg (a,2,0)) rfl oV (by simp[Ai];omega) (by simp[Ai];omega) ?_;intro w6 cs ab;rw[show F.map Cm++[.agg #[zI a,zI (2:Nat),zI (0:Nat)]]=(F++[(a,2,0)]).map Cm by rw[A1i];rfl]at ab;obtain⟨a6,c6,rfl⟩:=ab.shape;rw[A03]at ab⊢;have X:=ak (W3 a6 c6 (F++[(a,2,0)])) cs ab;simp only[A2j,A2p]at X;exact G.i a<|G.b (V (a+1,k5,F++[(a,2,0)],(a6,c6),lab) _ _ _ cV ((l4.trans E).trans l6) ⟨dV,a4,hF.put ax (.inr ⟨rfl,rfl,rfl⟩),X⟩ dV)
   exact G.gF r5 0<|G.i a<|G.b (V (a+1,k5,F,(fa,fc),lab) _ _ _ cV (l4.trans E) ⟨dV,a4,hF.skip,t⟩ dV)
  exact G.eF kd 3<|G.i a<|G.b (V (a+1,k3,F,(fa,fc),lab) _ _ _ cV l4 ⟨dV,a3,hF.skip,m⟩ dV)
 obtain rfl:a=T.length:=oV;refine G.lF T.length T.length ?_;obtain⟨n5,Z,aw⟩:=m;obtain⟨rfl,ae⟩:=Src.split Z;refine G.giveP (ma:=n5) (sm:=s.M k3) kV rfl (Src.apart ae) (s.h0 k k3) ?_;intro u5 E e3;have dw:Ac u5 (.slice fa F.length fc) 3 (F.map Cm):=aw.list e3 0 rfl;exact G.gF F.length 8<|G.r (.agg #[.slice ta T.length tc,.slice ra R.length rc,.slice fa F.length fc,zI lab]) ⟨T,R,F,lab,k3,⟨_,_,_,_,_,_,rfl,cw.mono (l4.trans E),dx.mono (l4.trans E),dw⟩,Aw6 hT.toTOK (hR.mono ((l3.trans l4).trans E)) hF cj oV oV,dy,a3,rfl,hT.toTOK,hT.lem,A04 hF.len hT.lem⟩
abbrev Dm:Type:=zW×Nat×(zP×Nat)
def F3 (y:Dm):Value:=.agg #[.slice y.2.2.1 y.1.length y.2.2.2,zI y.2.1]
def Yi (x:Dm):A9 2 [F3 x]:=by
 intro e h;simp at h;subst h;exact⟨rfl,fun y j=>by simp[F3,Value.cells]at j;rcases j with rfl|rfl<;>rfl⟩
def Avm (a:zP)(c:Nat)(L:List Dm):Arr:=⟨.slice a L.length c,53,2,L.map F3⟩
def Avq {a:zP}{c:Nat}{L:List Dm}{m0 m:PH}:(Avm a c L).At m0 m=Af m0 m (.slice a L.length c) 53 2 (L.map F3):=rfl
def WOK (u:PH)(T:zC)(L:List Dm):Prop:=∀ y∈L,Ac u (.slice y.2.2.1 y.1.length y.2.2.2) 1 (y.1.map nmV)/\Bw T y.1/\1<=y.2.1/\y.2.1<=7
def WOK.mono {u j:PH}{T:zC}{L:List Dm}(h:WOK u T L)(m:PH.le u j):WOK j T L:=fun y e=>⟨(h y e).1.mono m,(h y e).2⟩
def W9 (T:zC)(L:List Dm):Prop:=∀ y∈L,∀ (i:Nat) (x:zB×Nat) (t:zB),T[i]?=some x->y.1[i]?=some t->Zi x.2 t
def Ajh {u:PH}{s:Src}{ts:List Int}{k most:Nat}{v:Value}{T:zC}{R:List Br}{F:List Al}{lab:Int}(h:J0 u s ts)(hk:k<=s.n)(hX:H5 u v T R F lab)(ok:Bl u T R F lab)(hm:most<=100) :
 Ag prog 35 [s.ptr,v,zI most] u (s.M k) fun r Z m'=>∃ (L:List Dm) (k':Nat),Ac Z r 2 (L.map F3)/\L.length<=most/\WOK Z T L/\W9 T L/\k'<=s.n/\m'=s.M k':=by
 obtain⟨xa,xc,xb,xd,xe,xf,rfl,a1,aa,a9⟩:=id hX;have t2:=ok.t2;refine Ag.o func35<|G.i most<|G.A call14 (I4 (n:=most+1) h hk oV oV) ?_;rintro v1 u1 m1 l1 ⟨r,k1,rfl,hr,a2,rfl⟩ _;rw[By];refine G.l (ι:=Nat×Nat×List Dm×(zP×Nat)) (fun i=>[(0,.v s.ptr),(4,.p 0 0),(7,sV i.2.2.2.1 i.2.2.1.length i.2.2.2.2),(8,iV i.1)])
  (fun _=>[(0,⟨30,[sV xa T.length xc,sV xb R.length xd,sV xe F.length xf,iV lab]⟩)])
  (fun i Z m'=>i.1+i.2.2.1.length=r/\i.2.1<=s.n/\WOK Z T i.2.2.1/\W9 T i.2.2.1/\Bag m' [s.arr i.2.1,Avm i.2.2.2.1 i.2.2.2.2 i.2.2.1])
  (fun i=>i.1) (r,k1,[],(none,0))
  ⟨rfl,a2,fun y e=>by simp at e,fun y e=>by simp at e,s.bag0 k1 ⟨PH.mt,Af.nil _ _ _,trivial⟩⟩ ?_
 rintro J ⟨i,k2,L,⟨na,nc⟩⟩ hJ u2 m2 l2 ⟨hi,P,hW,h9,C⟩;simp only at hi P hW h9 C hJ;have Q:=l1.trans l2;obtain⟨m0,W,hL⟩:=C;obtain⟨rfl,j⟩:=Src.split W;by_cases ab:0<i
 ·refine G.gT i 0<|G.D call87 (Src.apart j) (Ami (w:=.slice xb R.length xd) (x:=.slice xe F.length xf) (y:=zI lab) (h.mono Q) P (a1.mono Q) oV ok.att.kind ⟨_,_,_,rfl⟩ ⟨_,_,_,rfl⟩ ⟨_,rfl⟩) ?_;rintro v3 u3 m3 Y ⟨ss,k3,hS,a0,U,a3,rfl⟩ _;obtain⟨E,H,rfl⟩:=hS.opn;rw[A03]at hS⊢;refine G.buildU 3 1 8 zO (Fc [1,1,2,7]) kV (N7 _) rfl oV (by simp[Fc]) (by simp[Fc]) ?_;intro g4 u4 l4 e4;refine G.D call88 (Src.apart j) (Aer (L:=[1,1,2,7]) (h.mono ((Q.trans Y).trans l4)) a3 e4.listP mV mV) ?_;rintro v5 u5 m5 l5 ⟨z,hz,k5,rfl,a4,rfl⟩ _;obtain⟨w,rfl,a6,a8⟩:∃ w:Nat,z=(w:Int)/\1<=w/\w<=7:=by
   simp at hz;rcases hz with rfl|rfl|rfl
   ·exact⟨1,rfl,oV,oV⟩
   ·exact⟨2,rfl,oV,oV⟩
   exact⟨7,rfl,oV,oV⟩
  refine G.B 53 2 32 (.agg #[zN,zO]) [.agg #[.slice E ss.length H,zI w]] (Yi (ss,w,E,H)) ?_;intro g6 u6 l6 e6;have I:Bag (m0.or (s.M k5)) [s.arr k5,Avm na nc L]:=⟨m0,Src.at j,hL⟩;obtain⟨mm,X,V⟩:=I.focus 1 rfl;rw[Avq]at X;refine G.k 53 2 32 (.agg #[zN,zO]) mm (L.map F3) [F3 (ss,w,E,H)] (.slice na L.length nc) g6 0 1 1 X e6 (Yi (ss,w,E,H)) ?_;intro v7 m7 m;rw[show L.map F3++[F3 (ss,w,E,H)]=(L++[(ss,w,E,H)]).map F3 by rw[A1i];rfl]at m;obtain⟨a7,c7,rfl⟩:=m.shape;rw[A03]at m⊢;have K:=V (Avm a7 c7 (L++[(ss,w,E,H)])) m7 m;have lx:=((Y.trans l4).trans l5).trans l6;refine G.s i 1 (i-1:Nat)<|G.b (hJ (i-1,k5,L++[(ss,w,E,H)],(a7,c7)) _ _ _ cV (l2.trans lx) ⟨by dsimp only;simp;omega,a4,?_,?_,K⟩ dV)
  ·intro y e;rcases A1h.1 e with e|e
   ·exact hW.mono lx y e
   simp only[A12]at e;subst e;exact⟨hS.mono ((l4.trans l5).trans l6),⟨a0,fun i x t h1 h2=>(U i x t h1 h2).ok⟩,a6,a8⟩
  intro y e;rcases A1h.1 e with e|e
  ·exact h9 y e
  simp only[A12]at e;subst e;exact U
 obtain rfl:i=0:=oV;refine G.gF (0:Nat) 0<|G.giveP (ma:=m0) (sm:=s.M k2) kV rfl (Src.apart j) (s.h0 k k2) ?_;intro u3 Y a5;exact G.r (.slice na L.length nc) ⟨L,k2,hL.list a5 0 rfl,oV,hW.mono Y,h9,P,rfl⟩
section
variable {F:List Al}{R:List Br}{T:zC}{lab:Int}{u:PH}
def Ig {α:Type}{p:List α->Prop}(h0:p [])(h1:∀ l a,p l->p (l++[a]))(l:List α):p l:=by
 have:∀ r:List α,p r.reverse:=fun r=>by
  induction r with
  |nil=>exact h0
  |cons a r ih=>rw[List.reverse_cons];exact h1 _ _ ih
 have:=this l.reverse;rwa[List.reverse_reverse]at this
noncomputable def Cf (F:List Al)(lab:Int)(L:List Dm):CF:=L.foldl (fun C y=>C.add ((cfT F lab y.1).scale (y.2.1:Rat))) (CF.num 0)
def Eb (F:List Al)(lab:Int)(L:List Dm)(y:Dm):Cf F lab (L++[y])=(Cf F lab L).add ((cfT F lab y.1).scale (y.2.1:Rat)):=by
 unfold Cf;rw[A5w];rfl
def Auv {w:Nat}(h:w<=7):Dn 0 7 (w:Rat):=⟨(w:Int),by simp[A2r],by simpa using h⟩
def Apv {ss:zW}(ok:Bl u T R F lab)(h:Bw T ss):CFD (2*T.length) (1374926400^T.length) (cfT F lab ss)/\CFV (cfT F lab ss):=by
 have e:=N0 ok h;have j:(Fh F lab ss).length=T.length:=by rw[G3];exact h.len
 have:=R2 e (Fh F lab ss).length (A08 _);rw[A15,j]at this;exact this
theorem Alz (ok:Bl u T R F lab):∀ {L:List Dm},(∀ y∈L,Bw T y.1/\y.2.1<=7)->CFD (2*T.length) (L.length*(1374926400^T.length*7)) (Cf F lab L)/\CFV (Cf F lab L):=by
 intro L;induction L using Ig with
 |h0=>exact fun _=>⟨CFD.count (Dn.zero _ _),CFV.count 0⟩
 |h1 L y ih =>
  intro h;obtain⟨i1,i2⟩:=ih fun z hz=>h z (A24 _ hz);obtain⟨h1,h2⟩:=h y mV;obtain⟨c1,c2⟩:=Apv ok h1;rw[Eb];refine⟨?_,i2.add (c2.scale _)⟩;have:=i1.add (c1.scale (Auv h2));rw[A1d,A20,A16,A3i];exact this
end
section
variable {F:List Al}{T:zC}{lab:Int}
theorem Axf {ss:zW}(hF:Da T F lab)(u:Bw T ss)(e:-1<=lab)(j:∀ l:Nat,lab=(l:Int)->l<ss.length) :
 ((cfT F lab ss).c=1/\∀ p q,(cfT F lab ss).t (Ay p q)=(cfT F lab ss).s p*(cfT F lab ss).s q)\/((cfT F lab ss).c=0/\(∀ p,(cfT F lab ss).s p=0)/\∀ k,(cfT F lab ss).t k=0):=by
 cases hc:G4 F lab ss with
 |false=>right;rw[Ajl hF u e j hc];exact⟨rfl,fun _=>rfl,fun _=>rfl⟩
 |true =>
  left;have m:=Alr hF u e j hc;refine⟨m.c,fun p q=>?_⟩;rw[m.t,if_neg (To p q)];by_cases h:0<Bk p q
  ·rw[Ro h];grind
  rw[Ii h]
def Ah2 (n:Nat):(0:Rat)<=(n:Rat):=by
 have:((0:Nat):Rat)<=(n:Rat):=by exact_mod_cast A1t n
 exact this
theorem Arb (hF:Da T F lab)(h1:-1<=lab)(h2:∀ l:Nat,lab=(l:Int)->l<T.length):∀ {L:List Dm},(∀ y∈L,Bw T y.1/\y.2.1<=7)->∃ k:Nat,(Cf F lab L).c=(k:Rat)/\k<=7*L.length:=by
 intro L;induction L using Ig with
 |h0=>exact fun _=>⟨0,rfl,mV⟩
 |h1 L y ih =>
  intro h;obtain⟨k,hk,hkl⟩:=ih fun z hz=>h z (A24 _ hz);obtain⟨hy,hw⟩:=h y mV;have hlen:=hy.len;rw[Eb];show ∃ k:Nat,(Cf F lab L).c+(cfT F lab y.1).c*(y.2.1:Rat)=(k:Rat)/\_;rw[hk];rw[A1d,A20];rcases Axf hF hy h1 (fun l hl=>by have:=h2 l hl;omega) with ⟨e1,_⟩|⟨e1,_⟩
  ·exact⟨k+y.2.1,by rw[e1,Bbs];grind,oV⟩
  ·exact⟨k,by rw[e1];grind,oV⟩
end
section
variable {a b c d:Nat}{q:Rat}
def De (a b:Nat)(q:Rat):Prop:=∃ (k:Int) (D:Nat),q*(D:Rat)=(k:Rat)/\0<D/\k.natAbs<10^a/\D<10^b
def T4 {D:Nat}(h:0<D):(D:Rat)≠0:=by
 intro e;have j:(D:Rat)=((0:Nat):Rat):=e;have:=A9l.1 j;omega
def De.mono (h:De a b q)(j:a<=c)(m:b<=d):De c d q:=by
 obtain⟨k,D,e,h0,t,u⟩:=h;exact⟨k,D,e,h0,A2s t (A10 oV j),A2s u (A10 oV m)⟩
def Qy {x y a b:Nat}(e:x<10^a)(h:y<10^b):x*y<10^(a+b):=by
 rw[A4k];exact Nat.mul_lt_mul'' e h
theorem De.add {a b c d f:Nat}{q r:Rat}(h:De a b q)(u:De c d r)(C:a+d<=f)(F:c+b<=f):De (f+1) (b+d) (q+r):=by
 obtain⟨k,D,e,h0,H,j⟩:=h;obtain⟨l,E,t,I,J,m⟩:=u;refine⟨k*(E:Int)+l*(D:Int),D*E,?_,A51 h0 I,?_,Qy j m⟩
 ·rw[A7d,A3c,A3c,<-e,<-t,A7e,A2r,A2r];grind
 have g1:(k*(E:Int)).natAbs<10^f:=by
  rw[A26];exact A2s (Qy H (by simpa using m)) (A10 oV C)
 have g2:(l*(D:Int)).natAbs<10^f:=by
  rw[A26];exact A2s (Qy J (by simpa using j)) (A10 oV F)
 rw[A2d];omega
theorem De.nat {a n:Nat}(h:n<10^a):De a 1 (n:Rat):=⟨(n:Int),1,by rw[A2r];show (n:Rat)*1=_;grind,oV,by simpa using h,oV⟩
theorem De.frac (h:De a b q):q.num.natAbs<10^a/\q.den<10^b:=by
 obtain⟨k,D,m,hp,t,F⟩:=h;have u:q=Rat.divInt k (D:Int):=by
  rw[A37,A2r,<-m];have:=T4 hp;grind
 obtain⟨e,j,C⟩:=O7 (y:=k) (z:=(D:Int)) oV;rw[u];constructor
 ·rw[e,A8o];exact A22 (A3u _ _) t
 have E:((Rat.divInt k (D:Int)).den:Int)<=(D:Int):=by
  rw[j,show ((D:Int)).natAbs=D from rfl,A32 oV,<-A5k];exact Bao.2 (A3u _ _)
 omega
def De.tx (h:De a b q)(u:0<a)(e:a<=400)(C:0<b)(j:b<=400):Tx q:=by
 obtain⟨m,t⟩:=h.frac;exact⟨A04 (Cz u m) e,A04 (Cz C t) j⟩
def Dn.de {d N a b:Nat}(h:Dn d N q)(m:N<10^a)(j:12^d<10^b):De a b q:=by
 obtain⟨k,e,t⟩:=h;exact⟨k,12^d,e,Adj d,oV,j⟩
end
section
variable {H:CF}
def B9 {α:Type}(f:α->Rat):List α->Rat
 |[]=>0
 |a::l=>f a+B9 f l
section
variable {α β:Type} {f g:α->Rat}
theorem U7:∀ (l l':List α),B9 f (l++l')=B9 f l+B9 f l'
 |[],l'=>by show B9 f l'=0+B9 f l';grind
 |a::l,l'=>by show f a+B9 f (l++l')=f a+B9 f l+B9 f l';rw[U7 l l'];grind
theorem Ang (l:List α)(a:α):B9 f (l++[a])=B9 f l+f a:=by
 rw[U7];show _+(f a+0)=_;grind
def Dt:∀ {l:List α},(∀ a∈l,f a=g a)->B9 f l=B9 g l
 |[],_=>rfl
 |a::l,h=>by
  show f a+B9 f l=g a+B9 g l;rw[h a (A4l ..),Dt fun x e=>h x (A2f _ e)]
theorem L7:∀ (l:List α),B9 (fun a=>f a+g a) l=B9 f l+B9 g l
 |[]=>by show (0:Rat)=0+0;grind
 |a::l=>by show f a+g a+B9 (fun a=>f a+g a) l=(f a+B9 f l)+(g a+B9 g l);rw[L7 l];grind
theorem Ls (k:Rat):∀ (l:List α),B9 (fun a=>f a*k) l=B9 f l*k
 |[]=>by show (0:Rat)=0*k;grind
 |a::l=>by show f a*k+B9 (fun a=>f a*k) l=(f a+B9 f l)*k;rw[Ls k l];grind
theorem Ji (k:Rat)(l:List α):B9 (fun a=>k*f a) l=k*B9 f l:=by
 rw[show (fun a=>k*f a)=fun a=>f a*k from funext fun a=>by grind,Ls];grind
theorem Fv:∀ {l:List α},(∀ a∈l,f a=0)->B9 f l=0
 |[],_=>rfl
 |a::l,h=>by
  show f a+B9 f l=0;rw[h a (A4l ..),Fv fun x e=>h x (A2f _ e)];grind
def So (h:β->α):∀ (l:List β),B9 f (l.map h)=B9 (fun b=>f (h b)) l
 |[]=>rfl
 |a::l=>by show f (h a)+B9 f (l.map h)=f (h a)+B9 (fun b=>f (h b)) l;rw[So h l]
end
def An (P:List Par):List (Option Par):=none::P.map some
def B7:Par:=(-1,[])
def As (C:CF):Option Par->Option Par->Rat
 |none,none=>C.c
 |none,some p=>C.s p
 |some p,none=>C.s p
 |some p,some q=>C.t (Ay p q)
def Bh (C:CF):Option Par->Rat
 |none=>C.s B7
 |some p=>C.t (Ay B7 p)
def Dh (b:Option Par->Rat)(P:List Par)(C:CF):Rat:=B9 (fun e=>B9 (fun f=>b e*As C e f*b f) (An P)) (An P)
def T1 (C H:CF)(w:Rat)(e f:Option Par):As (C.add (H.scale w)) e f=As C e f+As H e f*w:=by
 cases e<;>cases f<;>rfl
def Bde (C H:CF)(w:Rat)(e:Option Par):Bh (C.add (H.scale w)) e=Bh C e+Bh H e*w:=by
 cases e<;>rfl
theorem Am0 (b:Option Par->Rat)(P:List Par)(C H:CF)(w:Rat):Dh b P (C.add (H.scale w))=Dh b P C+Dh b P H*w:=by
 unfold Dh;rw[<-Ls w,<-L7];refine Dt fun e _=>?_;rw[<-Ls w,<-L7];refine Dt fun f _=>?_;rw[T1];grind
def Anc (b:Option Par->Rat)(P:List Par)(x:Par->Rat):Rat:=b none+B9 (fun p=>b (some p)*x p) P
def Zg (x:Par->Rat):Option Par->Rat
 |none=>1
 |some p=>x p
theorem Aej (b:Option Par->Rat)(P:List Par)(x:Par->Rat):B9 (fun e=>b e*Zg x e) (An P)=Anc b P x:=by
 unfold An Anc;show b none*1+B9 _ (P.map some)=_;rw[So];show b none*1+B9 (fun p=>b (some p)*x p) P=_;grind
structure Qi (H:CF):Prop where
 c:H.c=1
 t:∀ p q,H.t (Ay p q)=H.s p*H.s q
theorem Qi.cell (h:Qi H)(e f:Option Par):As H e f=Zg H.s e*Zg H.s f:=by
 cases e<;>cases f
 ·show H.c=1*1;rw[h.c];grind
 ·show H.s _=1*H.s _;grind
 ·show H.s _=H.s _*1;grind
 exact h.t _ _
theorem Qi.right (h:Qi H)(e:Option Par):Bh H e=H.s B7*Zg H.s e:=by
 cases e
 ·show H.s B7=H.s B7*1;grind
 exact h.t _ _
theorem Qi.norm (h:Qi H)(b:Option Par->Rat)(P:List Par):Dh b P H=Anc b P H.s*Anc b P H.s:=by
 unfold Dh;have j:∀ e,B9 (fun f=>b e*As H e f*b f) (An P)=(b e*Zg H.s e)*Anc b P H.s:=fun e=>by
  rw[<-Aej,<-Ji];exact Dt fun f _=>by rw[h.cell];grind
 rw[Dt fun e _=>j e,Ls,Aej]
structure Ag0 (H:CF):Prop where
 c:H.c=0
 s:∀ p,H.s p=0
 t:∀ k,H.t k=0
def Ag0.cell (h:Ag0 H)(e f:Option Par):As H e f=0:=by
 cases e<;>cases f
 ·exact h.c
 ·exact h.s _
 ·exact h.s _
 exact h.t _
theorem Ag0.norm (h:Ag0 H)(b:Option Par->Rat)(P:List Par):Dh b P H=0 :=
 Fv fun e _=>Fv fun f _=>by rw[h.cell];grind
theorem Pf {T:zC}{F:List Al}{lab:Int}{ss:zW}(hF:Da T F lab)(u:Bw T ss)(e:-1<=lab)(j:∀ l:Nat,lab=(l:Int)->l<ss.length) :
 (G4 F lab ss=true/\Qi (cfT F lab ss))\/(G4 F lab ss=false/\Ag0 (cfT F lab ss)):=by
 cases hc:G4 F lab ss with
 |false=>right;rw[Ajl hF u e j hc];exact⟨rfl,rfl,fun _=>rfl,fun _=>rfl⟩
 |true =>
  left;have m:=Alr hF u e j hc;refine⟨rfl,m.c,fun p q=>?_⟩;rw[m.t,if_neg (To p q)];by_cases h:0<Bk p q
  ·rw[Ro h];grind
  rw[Ii h]
end
section
variable {q:Rat}{u:PH}
def S7 (h:Tx q):zF 103 [zS (Ae q)] u fun v _=>v=zI (sgn q.num):=by
 refine Fn0.o func103<|G.c call169 (Gu h) ?_;rintro L I F rfl;refine G.c call133 (Gs h) ?_;intro P J l2 e;obtain⟨E,a1,n1,c1,m,j,C,t,rfl⟩:=e.opn;refine G.c call131 (Aao e (A04 h.sz.1 oV)) ?_;rintro Q K H rfl;exact G.z _
def Agd (h:Tx q):zF 25 [zS (Ae q)] u fun v _=>v=zI (sgn q.num):=by
 refine Fn0.o func25<|G.c call24 (Ee h) ?_;rintro L I E rfl;refine G.c call27 (G8 h) ?_;intro P J F e;obtain⟨C,a3,n3,c3,j,t,m,rfl,_⟩:=e.opn;refine G.c call33 (Aef e (A04 h.sz.1 oV)) ?_;rintro Q K H rfl;exact G.z _
end
structure Ai6 (C:CF)(k:Nat):Prop where
 c:C.c=(k:Rat)
 lt:k<100
 s:∀ p,De 75 18 (C.s p)
 t:∀ p,De 75 18 (C.t p)
def Ai6.tx {C:CF}{k:Nat}(h:Ai6 C k):Tx C.c:=by
 rw[h.c];exact (De.nat (a:=2) (by have:=h.lt;omega)).tx oV oV oV oV
def Ai6.cpos {C:CF}{k:Nat}(h:Ai6 C k)(h0:k≠0):0<C.c:=by
 rw[h.c];have j:=Ah2 k;refine Rat.lt_of_le_of_ne j fun e=>T4 (D:=k) oV e.symm
def Cp (P:List Par):(An P).length=P.length+1:=by unfold An;simp
def Aq2 {u:PH}:zF 55 [] u fun r _=>r=Ap B7:=Fn0.o func55<|G.z (Ap B7)
section
variable {N d:Nat}{q:Rat}
theorem Dn.lift (j:Nat)(h:Dn d N q):Dn (d+j) (N*12^j) q:=by
 obtain⟨k,e,m⟩:=h;refine⟨k*((12^j:Nat):Int),?_,?_⟩
 ·rw[A3c,A2r,<-e,A4k,A7e];grind
 rw[A26];exact A13 _ m
def Dn.to {d e N M:Nat}(h:Dn d N q)(m:d<=e)(j:N*12^(e-d)<=M):Dn e M q:=by
 have:=h.lift (e-d);rw[show d+(e-d)=e by omega]at this;exact this.mono j
def Bd3 {α:Type}{l:List α}{i:Nat}{x:α}(h:l[i]?=some x):l.take (i+1)=l.take i++[x]:=by rw[A1n,h];rfl
end
section
open Go.RowKit Go.MapKept Go.Shelf Go.Sort
variable {L:List Par}
def S1 (L:List Par):A2 (L.map Ap)=L.flatMap Ci:=by
 unfold A2;rw[List.flatMap_map];rfl
def F0 (L:List Par):(L.flatMap Ci).length=L.length*2:=by
 induction L with
 |nil=>rfl
 |cons x L ih=>rw[A6o,A1d,ih,Nf,A3f,A16];omega
def Add {L e:List Par}(u:e.length=L.length)(rest:zV):putCells id 0 (flatK Ci 2 e.toArray) (L.flatMap Ci++rest).toArray=(e.flatMap Ci++rest).toArray:=by
 have j:=F0 L;have m:=F0 e;have C:(flatK Ci 2 e.toArray).size=e.length*2:=by rw[size_flatK];simp
 apply Baq;intro t;unfold putCells;rw[Array.getElem?_mapIdx,A3j,A3j,C];by_cases h:t<e.length*2
 ·rw[A1r oV,A1r oV,Qb Nf e t h];have:(L.flatMap Ci)[t]?=some (L.flatMap Ci)[t]:=A01 oV;rw[this];simp only[A4c,A1t,A2w,true_and,if_pos h,id,A6t];rw[get_flatK Ci 2 _ t (by simpa using h)]
 rw[A18 oV,A18 oV,j,m,u];cases hr:rest[t-L.length*2]? with
 |none=>rfl
 |some x =>
  simp only[A4c,A1t,A2w,true_and];rw[if_neg oV]
def Aex (L:List Par):A9 2 (L.map Ap):=by
 intro e j;obtain⟨x,_,rfl⟩:=A1b.1 j;exact⟨rfl,fun y h=>by simp[Ap,Value.cells]at h;rcases h with rfl|rfl<;>rfl⟩
def Aq7 {u m0 m:PH}{v:Value}(hA:Af m0 m v 118 2 (L.map Ap))(a6:L.Nodup)(hl:L.length<=1000000) :
 Ag prog 267 [v,.func (.func 200) #[] #[]] u m fun r u' m'=>r=.tuple #[]/\Af m0 m' v 118 2 ((E6 Bk L).map Ap):=by
 have hp:=Ir (c:=Bk) L;have P:(E6 Bk L).length=L.length:=hp.length_eq;intro w R;obtain⟨a7,h⟩:=hA;rcases h with ⟨rfl,he,rfl⟩|⟨g,cap,rest,a2,rfl,rfl,T,K,Q⟩
 ·have hL:L = []:=by simpa using he
  subst hL;refine (AnyF.slices_SortFunc_none Tryz.sortPar none 0 _ w).mono ?_;rintro e w' ⟨rfl,rfl⟩;exact⟨_,u,m,rfl,R,⟨A08 _,fun _ _ _=>rfl,fun _ _=>rfl,fun _ _ h=>h,⟨rfl,rfl⟩,fun f=>f.elim⟩,rfl,by
   have e:E6 Bk ([]:List Par) = []:=A9i.1 P;rw[e];exact Af.nil _ _ _⟩
 rw[A03]at T⊢;rw[S1]at K R;have W:w.heap[g]?=some (.cells (L.flatMap Ci++rest).toArray 118 (0,0)):=R.pm g _ (Ab _ _ _);have hH:HoldsK Ci 2 w g 0 L.toArray:=Ani (enc:=Ci) (k:=2) Nf W (by
  show (L.flatMap Ci++rest).take (L.length*2)=_;rw[A6n (by rw[F0];omega),A1j (by rw[F0];omega)])
 have a0:g<w.heap.size:=Aw W;have J:=AnyQ.slices_SortFunc_total Tryz.sortPar 2 (fun w=>kV) (fun w=>kV) Ci (fun _=>rfl) (fun x v hv=>by simp at hv;rcases hv with rfl|rfl<;>rfl) Bk Et.swo 200 #[] g 0 cap L.toArray w call200 (Ai5 g 0 _ w) hH a0 gV Et.tot
 change Calls prog 267 _ _ _ at J;simp only[A7s]at J;refine Calls.mono J ?_;rintro e w' ⟨rfl,nn,os,rfl⟩;change Ady _ _ _ (sortWorldK Ci 2 w g 0 nn (E6 Bk L).toArray os);obtain⟨w',Y⟩:∃ w',w'=sortWorldK Ci 2 w g 0 nn (E6 Bk L).toArray os:=⟨_,rfl⟩;have F:w'.heap=w.heap.modify g (onCells (putCells id 0 (flatK Ci 2 (E6 Bk L).toArray)))++os:=by rw[Y];rfl
 have a3:w'.os=w.os/\w'.output=w.output:=by rw[Y];exact⟨rfl,rfl⟩
 rw[<-Y];have a4:w.heap.size<=w'.heap.size:=by rw[F,Array.size_append,A83];omega
 have I:∀ k,k<w.heap.size->k≠g->w'.heap[k]?=w.heap[k]?:=fun k C X=>by
  rw[F,A5s (by rw[A83];exact C),A8c,if_neg (fun e=>X e.symm)]
 have U:w'.heap[g]?=some (.cells ((E6 Bk L).flatMap Ci++rest).toArray 118 (0,0)):=by
  rw[F,A5s (by rw[A83];exact a0),A8c,if_pos rfl,W];show some (Obj.cells (putCells id 0 _ _) _ _)=_;rw[Add P]
 have a5:u g=none:=(R.ap g).resolve_right (by rw[Ab];simp);have V:=Aex (E6 Bk L);refine⟨_,fun k=>if k<w.heap.size then u k else w'.heap[k]?,m0.upd g (.cells (A2 ((E6 Bk L).map Ap)++rest).toArray 118 (0,0)),rfl,⟨?_,?_,?_,?_⟩,⟨a4,?_,?_,?_,a3,fun f=>f.elim⟩,rfl,V,.inr ⟨g,cap,rest,a2,rfl,by rw[A03,P],by rw[A03,P];exact T,?_,Q⟩⟩
 ·intro k o C;simp only at C;split at C
  ·rename_i H;have X:k≠g:=fun e=>by subst e;rw[a5]at C;cases C
   rw[I k H X];exact R.pu k o C
  exact C
 ·intro k o C;by_cases e:k=g
  ·subst e;rw[Ab]at C;cases C;rw[U,S1]
  rw[Ad _ _ e]at C;have:=R.pm k o (by rw[Ad _ _ e];exact C);rw[I k (Aw this) e];exact this
 ·intro k;simp only;by_cases H:k<w.heap.size
  ·rw[if_pos H];rcases R.ap k with h|h
   ·exact .inl h
   by_cases e:k=g
   ·subst e;rw[Ab]at h;cases h
   right;rw[Ad _ _ e]at h⊢;exact h
  right;have e:k≠g:=fun e=>oV;rw[Ad _ _ e];have:=R.pm.none (g:=k) (by show w.heap.size<=k;omega);rw[Ad _ _ e]at this;exact this
 ·intro k cs t fr j z C hj;simp only;by_cases H:k<w.heap.size
  ·rw[if_pos H];by_cases e:k=g
   ·subst e;rw[U]at C;cases C;exfalso;have a1:Value.int .u64 z∈(E6 Bk L).flatMap Ci++rest:=by
     rw[A3j]at hj;exact A1k hj
    have Z:∀ x∈(E6 Bk L).flatMap Ci++rest,Ax x=true:=fun x hx=>by
     rcases A1h.1 hx with h|h
     ·rw[<-S1]at h;exact Fu V x h
     exact Q x h
    have:=Z _ a1;cases this
   rw[I k H e]at C;exact R.cl k cs t fr j z C hj
  rw[if_neg H];exact C
 ·intro k C E;refine I k C fun e=>?_;subst e;simp only at E;rw[Ab]at E;cases E
 ·intro k C;simp only;exact if_pos C
 ·intro k C E;by_cases e:k=g
  ·subst e;simp only at E;rw[Ab]at E;cases E
  simp only at E;rw[Ad _ _ e]at E⊢;exact E
 rw[S1,A1d,F0,P];rw[A1d,F0]at K;exact K
end
end Go.Proofs.YtemmheaocgmebaaGreatDoor
