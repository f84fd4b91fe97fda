/- Parts of one proof, joined by a program. -/
import Derived.Test.YtnjlhkppabfebaaGreatDoorX08
set_option linter.defProp false
set_option linter.unusedVariables false
set_option linter.unusedSimpArgs false
set_option linter.unusedSectionVars false
set_option maxHeartbeats 16000000
namespace Go.Proofs.YtnjlhkppabfebaaGreatDoor
open Go.Proofs.Tryz
open Go.RowKit Go.MapKept
section
variable {k:Nat}{v:Value}
def Af.fresh {m0 m:PH}{t:TypeId}{sz:Nat}{es:List Value}{b:Nat}{o:Obj}(h:Af m0 m v t sz es)(z:m b=none):Af (m0.upd b o) (m.upd b o) v t sz es:=by
 obtain⟨C,h⟩:=h;rcases h with ⟨j,n,rfl⟩|⟨g,cap,rest,j,rfl,n,E,F,H⟩
 ·exact⟨C,.inl ⟨j,n,rfl⟩⟩
 have d:g≠b:=fun e=>by subst e;rw[Ab]at z;cases z
 exact⟨C,.inr ⟨g,cap,rest,by rw[Ad _ _ d];exact j,Iq _ _ _ d,n,E,F,H⟩⟩
section
variable [Cl] [Co] [Pu] {P:Program} [A6 P] {fn:Func} {Post:Ce} {st:List KI×S} {u m:PH}
def G.appendL (e:TypeId)(sz g:Nat)(z:Value)(m0:PH)(es xs:List Value)(v:Value)(a:Option Addr)(n c:Nat)(h:Aj P (adv P st)=.app (some (e,sz,g,z)) true [v,.slice a n c])(R:z.cells.toList.all Ax=true)(H:z.cells.size=sz)(E:0<sz)
 (t:Af m0 m v e sz es) (F:Ac u (.slice a n c) sz xs) (Q:A9 sz xs) (O:(es.length+xs.length)*g<=140737488355328) (C:es.length+xs.length<=9223372036854775807)
 (k:∀ J I,Af m0 I J e sz (es++xs)->G P fn Post (nx (adv P st) J) u I):G P fn Post st u m:=by
 have d:n=xs.length:=by obtain⟨_,_,N,_⟩:=F;cases N;rfl
 cases xs with
 |nil =>
  simp only[A30]at d;subst d;obtain⟨K,L,rfl⟩:=t.shape;refine G.append0 e sz g z K a es.length L c h t.cap ?_;exact k _ _ (by rw[A1x];exact t)
 |cons x xs =>
  obtain⟨b,off,rfl,_⟩:=Ac.at' F (j:=0) (e:=x) rfl;subst d;exact G.append e sz g z m0 es (x::xs) v b off _ c h R H E t F.els Q rfl mV O C k
end
def Aue {u:PH}{L:List Par}{p:Par}(h:Ac u v 2 (L.map Ap))(I:L[k]?=some p)(N:∀ j,j<k->L[j]?≠some p)(Q:L.length<=1000000) :
 Fn0 prog 52 [v,Ap p] u fun r _=>r=.int .i64 k:=by
 obtain⟨a,c,rfl⟩:=h.opn;rw[A03]at h⊢;obtain⟨K,t⟩:=A05.1 I;refine Fn0.o func52<|G.l (ι:=Nat) (fun i=>[(0,sV a L.length c),(3,.p 0 0),(7,iV L.length),(8,iV i)]) (fun _=>[(0,⟨77,[iV p.1,tV p.2]⟩)])
  (fun i T O=>i<=k/\O=PH.mt) (fun i=>k+1-i) 0 ⟨oV,rfl⟩ ?_
 rintro J i H U R C ⟨hi,rfl⟩;refine G.lT i L.length ?_;have d:L[i]?=some L[i]:=A01 oV;obtain⟨z,E,rfl,F⟩:=Ac.at' (h.mono C) (j:=i) (e:=Ap L[i]) (by simp[d]);refine G.a z E L.length c i 2 oV<|G.lU (some 2) z (E+i*2) (.agg #[.int .i64 L[i].1,.string (mkS L[i].2)]) F ?_;by_cases n:p=L[i]
 ·have g:i=k:=by
   rcases A2e i k with e|e
   ·exact absurd (by rw[d,<-n]) (N i e)
   omega
  exact G.eqAgg 77 #[.int .i64 p.1,.string (mkS p.2)] #[.int .i64 L[i].1,.string (mkS L[i].2)] true kV kV kV (fun w=>by rw[<-decide_eq_true n];exact Bq.eq p L[i] w)<|G.r (.int .i64 i) ⟨rfl,by rw[g]⟩
 have g:i≠k:=fun e=>by subst e;exact n t.symm
 exact G.eqAgg 77 #[.int .i64 p.1,.string (mkS p.2)] #[.int .i64 L[i].1,.string (mkS L[i].2)] false kV kV kV (fun w=>by rw[<-decide_eq_false n];exact Bq.eq p L[i] w)<|G.i i<|G.b (H (i+1) _ _ _ cV C ⟨oV,rfl⟩ oV)
def F5 (P:List Par)(L:List (Par×Rat)):List (List UInt8):=[49]::P.map fun p=>Ae (Fo p L)
def Ae2 (P:List Par)(L:List (Par×Rat)):(F5 P L).length=P.length+1:=by unfold F5;simp
def Ar9 (P:List Par):F5 P [] = [49]::List.replicate P.length [48]:=by
 unfold F5
 congr 1
 have:(fun p:Par=>Ae (Fo p []))=fun _=>[48]:=by funext p;unfold Fo;exact Fz
 rw[this,List.map_const']
def Zb {κ:Type}[DecidableEq κ]{a:κ}{x:κ×Rat}:∀ {L:List (κ×Rat)},x.1∉L.map (·.1)->Fo a (L++[x])=if a=x.1 then x.2 else Fo a L
 |[],_=>by obtain⟨b,q⟩:=x;simp[Fo]
 |(b,q)::L,h=>by
  rw[A2u,A1g,not_or]at h;rw[A4x];unfold Fo;by_cases e:a=b
  ·rw[if_pos e,if_neg (fun d=>h.1 (by rw[<-d,e]))];simp[e]
  rw[if_neg e,Zb h.2];simp[e]
def Yu {κ:Type}{l:List κ}(h:l.Nodup){i j:Nat}{x:κ}(z:l[i]?=some x)(C:l[j]?=some x):i=j:=by
 obtain⟨d,g⟩:=A05.1 z;obtain⟨n,t⟩:=A05.1 C;rcases A5u i j with e|e|e
 ·exact absurd (g.trans t.symm) (A3n.1 h i j d n e)
 ·exact e
 exact absurd (t.trans g.symm) (A3n.1 h j i n d e)
def Amm {P:List Par}{L:List (Par×Rat)}{x:Par×Rat}(h:P[k]?=some x.1)(z:P.Nodup)(C:x.1∉L.map (·.1)):(F5 P L).set (k+1) (Ae x.2)=F5 P (L++[x]):=by
 unfold F5;rw[A2j]
 congr 1
 obtain⟨t,d⟩:=A05.1 h;refine List.ext_getElem mV fun j g E=>?_;rw[List.getElem_set];simp only[A3v];rw[Zb C];by_cases e:k=j
 ·subst e;rw[if_pos rfl,if_pos d]
 rw[if_neg e,if_neg];intro n;simp at g;exact e (Yu z h (by rw[A01 (by simpa using g),n]))
def Anh {u:PH}{v pv tv:Value}{T:List (List UInt8×Nat)}{R:List Br}{F:List Al}{lab:Int}{ss:List (List UInt8)}{Q:List Par}(h:Mv u v tv T R F lab ss)(hQ:Ac u pv 2 (Q.map Ap))(hs:Hb Bk Q)(b7:∀ x∈Dx F ss F.length,x.1∈Q)(hl:Q.length<=100000) :
 Fn0 prog 16 [v,pv,tv] u fun r V=>∃ lv,r=.tuple #[lv,.int .i64 0]/\Ac V lv 1 ((F5 Q (Dx F ss F.length)).map nmV):=by
 have an:=Lm h;have ae:=fun (V:PH) (l:PH.le u V)=>Aql (h.mono l);have ai:=h;have br:=h.ok.f2;obtain⟨⟨xa,xc,xb,xd,xe,xf,rfl,bo,bn,bm⟩,ok,hS,hT⟩:=h;obtain⟨ya,yc,rfl⟩:=hS.opn;obtain⟨N,C,rfl⟩:=hQ.opn;rw[A03]at hS an ae ai hQ⊢;rw[A03]at⊢;have ah:=hs.nodup Et;refine Fn0.o func16<|G.c call24 an ?_;rintro v1 u1 l1 rfl;refine G.nF 0 0<|G.l (ι:=Nat) (fun i=>[(2,sV ya ss.length yc),(3,.p 0 0),(4,.p 1 0),(6,.p 2 0),(7,.p 3 0),(9,iV i)])
  (fun _=>[(0,⟨27,[sV xa T.length xc,sV xb R.length xd,sV xe F.length xf,iV lab]⟩),(1,⟨34,[sV N Q.length C]⟩),(2,⟨54,[sV none 0 0]⟩),(3,⟨43,[iV 0]⟩)])
  (fun i V t=>1<=i/\t=PH.mt) (fun i=>Q.length-i) 1 ⟨oV,rfl⟩ ?_
 rintro J i E u2 m2 l2 ⟨hi,rfl⟩;by_cases a2:i<Q.length
 ·refine G.lT i Q.length ?_;have ab:=hQ.mono (l1.trans l2);have ay:Q[i]?=some Q[i]:=A01 a2;have az:Q[i-1]?=some (Q[i-1]'oV):=A01 oV;have b3:Bk (Q[i-1]'oV) Q[i]<0:=A3n.1 hs (i-1) i oV a2 oV;obtain⟨ba,oa,e0,ea⟩:=Ac.at' ab (j:=i) (e:=Ap Q[i]) (by simp[ay]);obtain⟨bl,bu,a7,eb⟩:=Ac.at' ab (j:=i-1) (e:=Ap (Q[i-1]'oV)) (by simp[az]);rw[e0]at a7;cases a7;subst e0;refine G.s i 1 (i-1:Nat)<|G.a ba oa Q.length C (i-1) 2 oV<|G.lU (some 2) ba (oa+(i-1)*2) (Ap (Q[i-1]'oV)) eb<|G.a ba oa Q.length C i 2 a2<|G.lU (some 2) ba (oa+i*2) (Ap Q[i]) ea<|G.c call49 (Re _ _ true (decide_eq_true b3)) ?_;rintro v3 u3 l3 rfl;exact G.i i<|G.b (E (i+1) _ _ _ cV (l2.trans l3) ⟨oV,rfl⟩ oV)
 refine G.lF i Q.length ?_;clear E;refine G.pub 1 34 [.slice N Q.length C] kV kV ?_;intro K bi bj;refine G.buildM 29 1 16 (.string (mkS [])) [.string (mkS [49])] kV (Gc [[49]]) rfl oV mV mV ?_;intro g3 m3 a8;refine G.B 29 1 16 (.string (mkS [])) [.string (mkS [48])] (Gc [[48]]) ?_;intro g4 u4 l4 e4;have ax:Ac u4 (.slice (some ⟨g4,0,none⟩) 1 1) 1 [.string (mkS [48])]:=⟨_,1,rfl,A08 _,fun j e hj=>⟨g4,0,rfl,e4 j e hj⟩⟩;refine G.lM none K 0 (.slice N Q.length C) (My (xs:=[.slice N Q.length C]) (a8.see (Ab _ _ _)) rfl)<|G.c call50 (Ao2 (n:=Q.length) ax (Gc [[48]]) oV) ?_;intro v5 u5 l5 k5;obtain⟨a5,c5,rfl⟩:=Ac.opn k5;have b4:(F5 Q []).map nmV = [Value.string (mkS [49])]++List.replicate Q.length (Value.string (mkS [48])):=by
  rw[Ar9,A2u,A8z];rfl
 refine G.appendL 29 1 16 (.string (mkS [])) _ [.string (mkS [49])] (List.replicate Q.length (.string (mkS [48]))) _ a5 _ c5 kV rfl rfl oV a8 k5 ((Gc [[48]]).replicate _) gV gV ?_;intro v6 m6 O;rw[<-b4]at O;obtain⟨a6,c6,rfl⟩:=O.shape;refine G.pub 9006 54 [.slice a6 ((F5 Q []).map nmV).length c6] kV kV ?_;intro b bq a0;have ad:m6 K=some (.cells [Value.slice N Q.length C].toArray 34 (0,0)):=O.see (Ab _ _ _);have a1:b≠K:=fun e=>by subst e;rw[ad]at a0;cases a0
 have ao:=O.fresh (o:=.cells [Value.slice a6 ((F5 Q []).map nmV).length c6].toArray 54 (0,0)) a0;have a4:PH.le u u5:=(((l1.trans l2).trans l4).trans l5);refine G.c call51 (ae u5 a4) ?_;rintro v8 u8 l8 ⟨b1,b2,rfl,e1,e2⟩;obtain⟨z,U⟩:∃ z,z=Pj K (.cells [Value.slice N Q.length C].toArray 34 (0,0)):=⟨_,rfl⟩;have ap:Y4 54 29 1 b z ((F5 Q []).map nmV) (m6.upd b (.cells [Value.slice a6 ((F5 Q []).map nmV).length c6].toArray 54 (0,0))):=by
  rw[U];exact⟨a6,c6,ao⟩
 have bb:z K=some (.cells [Value.slice N Q.length C].toArray 34 (0,0)):=by rw[U];exact Ck _ _
 have b5:∀ {es:List Value} {t:PH},Y4 54 29 1 b z es t->PH.le z t:=fun h=>(by
  obtain⟨a,c,h⟩:=h;exact fun g o hg=>h.see (by rw[Ad _ _ (fun e=>by rw[U]at hg;rw[e,Mz _ a1]at hg;cases hg)];exact hg))
 refine G.rangeF (rfG Tryz.f16) (A0v Tryz.f16) (rfX Tryz.f16) (rfY Tryz.f16) 95 [.pointer (some ⟨b1,0,none⟩),.pointer (some ⟨b2,0,none⟩)] (fun V t=>Y4 54 29 1 b z ((F5 Q (Dx F ss F.length)).map nmV) t) kV kV kV call95 ?_ ?_
 ·intro l r r1 r2 r3 r4 r5 r6 r7 I af;have d:b≠l:=fun e=>by subst e;rw[Ab]at I;cases I
  have aj:K≠l:=fun e=>by subst e;rw[Ad _ _ (fun e=>a1 e.symm),ad]at I;cases I
  have ag:z l=none:=by rw[U];exact Mz _ (fun e=>aj e.symm)
  have ak:r.params = #[46,47]:=r3.trans kV;have hn:r.tmps.size=59:=r6.trans kV;have bd:r.tmps[4]?=some (.pointer (some ⟨K,0,none⟩)):=r7 4 _ kV;have am:r.tmps[10]?=some (.pointer (some ⟨b,0,none⟩)):=r7 10 _ kV;have a3:∀ {es:List Value} {t:PH},Y4 54 29 1 b (z.upd l (.loop r)) es t->t l=some (.loop r):=fun h=>h.see d (Ab _ _ _);refine Ag.weak (Arp (ai.mono (a4.trans l8)) e1 e2 (fun L V t=>PH.le u8 V/\Y4 54 29 1 b (z.upd l (.loop r)) ((F5 Q L).map nmV) t) (fun _ _ _ _ hl h=>⟨h.1.trans hl,h.2⟩) (fun i x V t hi hl E hx bs=>?_) ?_) ?_
  ·obtain⟨aa,E⟩:=E;have be:=b7 x hx;obtain⟨k,hk,b9⟩:=A2y be;have H:Q[k]?=some x.1:=by rw[A01 hk,b9]
   have bf:x.1∉(Dx F ss i).map (·.1):=fun hm=>by
    obtain⟨y,hy,bg⟩:=A1b.1 hm;obtain⟨j,f,hj,_,hv⟩:=F9.1 hy;have:=Ow hv;rw[bg]at this;omega
   refine Amn (n:=59) (T:=[(4,.pointer (some ⟨K,0,none⟩)),(10,.pointer (some ⟨b,0,none⟩)),(46,Ap x.1),(47,.string (mkS (Ae x.2)))]) (a3 E) r1 r2 (by rw[ak];rfl) hn (fun y hy=>?_) ?_
   ·rw[ak,Aje];simp only[A1g,A11,or_false]at hy;rcases hy with rfl|rfl|rfl|rfl
    ·rw[A2m mV,A2m mV];exact bd
    ·rw[A2m mV,A2m mV];exact am
    ·rw[A2m mV];simp[hn]
    simp[hn]
   rw[r4,r5];refine RW.seq' kV (RW.reg' Tryz.f16 kV fun Post J' aq=>?_);refine G.b (aq _ _ _ (RW.reg' Tryz.f16 kV fun Post J2 ar=>?_));have Z:=E.base (o:=.loop (Vg r)) d (by rw[Ab];simp);rw[Dp]at Z;have bc:(t.upd l (.loop (Vg r))) K=some (.cells [Value.slice N Q.length C].toArray 34 (0,0)):=Z.see a1.symm.symm (by rw[Ad _ _ aj];exact bb);obtain⟨a,c,W⟩:=Z;have b0:∀ {n c':Nat} {a':Option Addr},((z.upd l (.loop (Vg r))).upd b (.cells #[.slice a' n c'] 54 (0,0))) b=some (.cells [Value.slice a' n c'].toArray 54 (0,0)):=Ab _ _ _;refine G.b (ar _ _ _ ⟨a3 E,RW.block' kV (RW.seq' kV (RW.reg' Tryz.f16 kV fun Post J3 au=>?_))⟩);refine G.lM none K 0 (.slice N Q.length C) (My (xs:=[.slice N Q.length C]) bc rfl)<|G.c call52 (Aue (hQ.mono ((a4.trans l8).trans aa)) H (fun j hj b8=>?_) oV) ?_
   ·have:=Yu ah b8 H;omega
   rintro v9 u9 l9 rfl;refine G.b (au _ _ _ (RW.seq' kV (RW.seq' kV (RW.reg' Tryz.f16 kV fun Post J4 av=>?_))));refine G.lF k 0<|G.b (av _ _ _ (RW.condF' kV kV (RW.skip' kV ?_)));refine RW.reg' Tryz.f16 kV fun Post J5 aw=>?_;refine G.lM none b 0 (.slice a ((F5 Q (Dx F ss i)).map nmV).length c) (My (xs:=[.slice a ((F5 Q (Dx F ss i)).map nmV).length c]) (W.see b0) rfl) ?_;obtain⟨g,c',b6⟩:=W.ptr (by unfold F5;simp);cases b6;refine G.i k ?_;have bk:((F5 Q (Dx F ss i)).map nmV).length=Q.length+1:=by rw[A03,Ae2]
   refine G.a g 0 ((F5 Q (Dx F ss i)).map nmV).length c (k+1) 1 oV<|G.storeA 1 _ ((F5 Q (Dx F ss i)).map nmV) g ((F5 Q (Dx F ss i)).map nmV).length c (k+1) (.string (mkS (Ae x.2))) kV W oV rfl rfl ?_;intro bh X;have al:((F5 Q (Dx F ss i)).map nmV).set (k+1) (.string (mkS (Ae x.2)))=(F5 Q (Dx F ss i++[x])).map nmV:=by
    rw[<-Amm H ah bf,A2g];rfl
   have af:((F5 Q (Dx F ss i)).map nmV).length=((F5 Q (Dx F ss i++[x])).map nmV).length:=by simp[Ae2]
   rw[al,af]at X;have hB:Y4 54 29 1 b (z.upd l (.loop (Vg r))) ((F5 Q (Dx F ss i++[x])).map nmV) bh:=⟨_,_,X⟩;refine G.b (aw _ _ _ ⟨hB.see d (Ab _ _ _),aa.trans l9,?_⟩);have a9:=hB.base (o:=.loop r) d (by rw[Ab];simp);rw[Dp]at a9;exact a9
  ·refine⟨PH.le_refl _,?_⟩;obtain⟨a,c,h⟩:=ap;refine⟨a,c,?_⟩;rw[Iq _ _ _ (fun e=>d e.symm)];exact h.fresh I
  rintro v' V t ⟨_,E⟩;refine⟨r,by rw[r1];simp,r2,a3 E,t.del l,Ap6 _ _,Axu _ _,?_⟩;obtain⟨a,c,W⟩:=E;have:=W.del (l:=l) (by rw[Ad _ _ (fun e=>d e.symm),Ab];simp);rw[Alu d,Rk ag]at this;exact⟨a,c,this⟩
 rintro u9 m9 l9 ⟨a,c,W⟩;refine G.giveP (ma:=m9) (sm:=PH.mt) kV (by funext g;unfold PH.or;cases m9 g<;>rfl) (fun g=>.inr rfl) (fun g=>.inl rfl) ?_
 intro bv bt Y;have ac:m9 b=some (.cells [Value.slice a ((F5 Q (Dx F ss F.length)).map nmV).length c].toArray 54 (0,0)):=W.see (Ab _ _ _);exact G.lU none b 0 (.slice a ((F5 Q (Dx F ss F.length)).map nmV).length c) ((My (xs:=[.slice a ((F5 Q (Dx F ss F.length)).map nmV).length c]) ac rfl).mono Y)<|G.r (.tuple #[.slice a ((F5 Q (Dx F ss F.length)).map nmV).length c,.int .i64 0]) ⟨rfl,_,rfl,W.list Y⟩
end
section
def ElP.fld {u:PH}{b off j:Nat}{xs:Array Value}{x:Value}(h:ElP u b off (.agg xs))(g:xs[j]?=some x)(e:x.cells = #[x]):ElP u b (off+j) x:=h.sub fun i y d=>by
 rw[e]at d
 match i,d with
 |0,d=>simp at d;subst d;exact g
 |i+1,d=>simp at d
def Ajn (P:Program):List KI×S->List Value->List KI×S
 |st,[]=>st
 |st,v::l=>Ajn P (nx (adv P st) v) l
section
variable {P:Program} [A6 P] {fn:Func} {Post:Ce} {st:List KI×S} {u m:PH}
def G.joinF {ι:Type}(f:List KI×S->List KI×S)(T:ι->List (Nat×SV))(B:ι->List (Nat×Blk))(h:ι->PH->PH->Prop)(H:∀ i,Up (T i) (B i)=true)(I:Bgr (Ff P 200 (f st)).1=true)
 (j:∀ i e g,PH.le u e->h i e g->G P fn Post ((Ff P 200 (f st)).1,S.of (Ff P 200 (f st)).2.n (T i) (B i)) e g)
 (k:(∀ i d e g,(Ff P 200 d).1=(Ff P 200 (f st)).1->Cov (Ff P 200 (f st)).2.n (Ff P 200 d).2 (T i) (B i)->PH.le u e->h i e g->G P fn Post d e g)->G P fn Post st u m):G P fn Post st u m:=by
 refine k fun i d e g z v C E=>?_;have F:Cov (Ff P 200 d).2.n (Ff P 200 d).2 (T i) (B i):=⟨rfl,v.t,v.b⟩;refine G.canon (T i) (B i) (by rw[z];exact I) (H i) F ?_;rw[z,v.n];exact j i e g C E
end
def Aeo {L:List (List UInt8)}(h:L.Nodup){i k:Nat}{x y:List UInt8}(v:L[i]?=some x)(z:L[k]?=some y)(d:k≠i):y≠x:=fun e=>by
 subst e;obtain⟨g,j⟩:=A05.1 v;obtain⟨n,t⟩:=A05.1 z;rcases Nat.lt_or_gt_of_ne d with e|e
 ·exact absurd (t.trans j.symm) (A3n.1 h k i n g e)
 exact absurd (j.trans t.symm) (A3n.1 h i k g n e)
def Rr {u:PH}{s:List UInt8}(h:Hn s=true):Fn0 prog 91 [.string (mkS s)] u fun v _=>v=.bool true:=by
 obtain⟨z,C⟩:=Aa2 h;obtain⟨c0,e⟩:∃ c,s[0]?=some c:=⟨_,A01 oV⟩;have E:=Y3 h e;refine Fn0.o func91<|G.eF s.length 0<|G.gF s.length 12<|G.idxS s 0 c0 kV e<|G.cmpG .lss .u8 (c0.toNat:Int) 97 false kV rfl (by simp only[Db,decide_eq_false_iff_not];omega)<|G.idxS s 0 c0 kV e<|G.cmpG .gtr .u8 (c0.toNat:Int) 122 false kV rfl (by simp only[Db,decide_eq_false_iff_not];omega)<|G.l (ι:=Nat) (fun i=>[(0,tV s),(3,iV i)]) (fun _=>[])
  (fun i K F=>i<=s.length/\F=PH.mt) (fun i=>s.length-i) 0 ⟨oV,rfl⟩ ?_
 rintro J i g L I l2 ⟨hi,rfl⟩;by_cases j:i<s.length
 ·refine G.lT i s.length ?_;obtain⟨b,d⟩:∃ b,s[i]?=some b:=⟨_,A01 j⟩;have H:=Y3 h d;refine G.idxS s i b kV d ?_;by_cases t:97<=b.toNat
  ·exact G.cmpG .geq .u8 (b.toNat:Int) 97 true kV rfl (by simp only[Db,decide_eq_true_eq];omega)<|G.idxS s i b kV d<|G.cmpG .leq .u8 (b.toNat:Int) 122 true kV rfl (by simp only[Db,decide_eq_true_eq];omega)<|G.i i<|G.b (g (i+1) _ _ _ cV l2 ⟨oV,rfl⟩ oV)
  refine G.cmpG .geq .u8 (b.toNat:Int) 97 false kV rfl (by simp only[Db,decide_eq_false_iff_not];omega)<|G.idxS s i b kV d ?_;by_cases n:48<=b.toNat
  ·exact G.cmpG .geq .u8 (b.toNat:Int) 48 true kV rfl (by simp only[Db,decide_eq_true_eq];omega)<|G.idxS s i b kV d<|G.cmpG .leq .u8 (b.toNat:Int) 57 true kV rfl (by simp only[Db,decide_eq_true_eq];omega)<|G.i i<|G.b (g (i+1) _ _ _ cV l2 ⟨oV,rfl⟩ oV)
  exact G.cmpG .geq .u8 (b.toNat:Int) 48 false kV rfl (by simp only[Db,decide_eq_false_iff_not];omega)<|G.idxS s i b kV d<|G.cmpG .eql .u8 (b.toNat:Int) 45 true kV rfl (by simp only[Db,decide_eq_true_eq];omega)<|G.i i<|G.b (g (i+1) _ _ _ cV l2 ⟨oV,rfl⟩ oV)
 obtain rfl:i=s.length:=oV;exact G.lF s.length s.length<|G.r (.bool true) ⟨rfl,rfl⟩
def T2 {u:PH}{v:Value}{T:List (List UInt8×Nat)}{R:List Br}{F:List Al}{lab:Int}(h:H5 u v T R F lab)(ok:Bl u T R F lab) :
 Fn0 prog 47 [v] u fun r _=>r=.int .i64 0:=by
 obtain⟨xa,O,xb,U,xe,Y,rfl,hT,hR,hF⟩:=h;have t1:=ok.t1;have t2:=ok.t2;have r1:=ok.r1;have r2:=ok.r2;have f2:=ok.f2;have lo:=ok.l1;have hi:lab<T.length:=by
  rcases A5q lab 0 with ap|be
  ·omega
  obtain⟨n,hn⟩:=ok.l2 lab.toNat oV;obtain⟨hk,_⟩:=A05.1 hn;omega
 refine Fn0.o func47<|G.eF T.length 0<|G.gF T.length 12<|G.eF R.length 0<|G.gF R.length 6<|G.gF F.length 8<|G.l (ι:=Nat) (fun i=>[(1,.p 0 0),(49,sV xa T.length O),(50,iV T.length),(51,iV i)])
  (fun _=>[(0,⟨27,[sV xa T.length O,sV xb R.length U,sV xe F.length Y,iV lab]⟩)])
  (fun i u' K=>i<=T.length/\K=PH.mt) (fun i=>T.length-i) 0 ⟨oV,rfl⟩ ?_
 rintro J i hJ u1 m1 l1 ⟨bm,rfl⟩;by_cases ap:i<T.length
 ·refine G.lT i T.length ?_;obtain⟨x,am⟩:∃ x,T[i]?=some x:=⟨_,A01 ap⟩;have b5:=A1k am;obtain⟨bg,bh⟩:=ok.att.kind x b5;have t:=ok.att.names.word x.1 (A1b.2 ⟨x,b5,rfl⟩);have Q:(T.map (·.1))[i]?=some x.1:=by rw[A1a,am];rfl
  obtain⟨H,N,rfl,ea⟩:=Ac.at' (hT.mono l1) (j:=i) (e:=D9 x) (by simp[am]);obtain⟨xn,xk⟩:=x;simp only at bg bh t Q;refine G.a H N T.length O i 2 ap<|G.lU (some 2) H (N+i*2) (.agg #[.string (mkS xn),.int .i64 xk]) ea<|G.c call91 (Rr t) ?_;rintro v2 u2 l2 rfl;refine G.l (ι:=Nat) (fun k=>[(1,.p 0 0),(3,iV i),(4,.p 5003 0),(5,iV k),(49,sV (some ⟨H,N,none⟩) T.length O),(50,iV T.length),(51,iV i)])
   (fun _=>[(0,⟨27,[sV (some ⟨H,N,none⟩) T.length O,sV xb R.length U,sV xe F.length Y,iV lab]⟩),(5003,⟨73,[tV xn,iV xk]⟩)])
   (fun k u' K=>k<=i/\K=PH.mt) (fun k=>i-k) 0 ⟨oV,rfl⟩ ?_
  rintro J2 k z u3 m3 l3 ⟨hk,rfl⟩;by_cases an:k<i
  ·refine G.lT k i ?_;obtain⟨y,a0⟩:∃ y,T[k]?=some y:=⟨_,A01 oV⟩;have a4:(T.map (·.1))[k]?=some y.1:=by rw[A1a,a0];rfl
   have a9:=Aeo ok.att.names.nodup Q a4 oV;obtain⟨_,_,e',ek⟩:=Ac.at' (hT.mono ((l1.trans l2).trans l3)) (j:=k) (e:=D9 y) (by simp[a0]);cases e';exact G.a H N T.length O k 2 oV<|G.f 73 H (N+k*2) 0 0<|G.lU none H (N+k*2+0) (.string (mkS y.1)) (ek.fld rfl rfl)<|G.w y.1 xn a9<|G.i k<|G.b (z (k+1) _ _ _ cV l3 ⟨oV,rfl⟩ oV)
  obtain rfl:k=i:=oV;exact G.lF k k<|G.lF xk 1<|G.gF xk 3<|G.i k<|G.b (hJ (k+1) _ _ _ cV ((l1.trans l2).trans l3) ⟨oV,rfl⟩ oV)
 obtain rfl:i=T.length:=oV;refine G.lF T.length T.length ?_;clear hJ;refine G.make 4 1 1 (.bool false) T.length kV rfl rfl oV oV oV ?_;rintro v1 mA ar ⟨ad,rfl⟩;obtain⟨g,rfl,_⟩:=ar.some';refine G.l (ι:=Nat×List Bool) (fun i=>[(1,.p 0 0),(6,sV (some ⟨g,0,none⟩) T.length T.length),(88,sV xb R.length U),(89,iV R.length),(90,iV i.1)])
  (fun _=>[(0,⟨27,[sV xa T.length O,sV xb R.length U,sV xe F.length Y,iV lab]⟩)])
  (fun i u' K=>i.1<=R.length/\i.2.length=T.length/\(∀ r∈R.take i.1,∀ q∈r.2.1,i.2[q]?=some true)/\Af PH.mt K (.slice (some ⟨g,0,none⟩) T.length T.length) 4 1 (i.2.map Value.bool)) (fun i=>R.length-i.1) (0,List.replicate T.length false)
  ⟨mV,mV,mV,by rw[A8z];exact ar⟩ ?_
 rintro J ⟨i,L⟩ hJ u2 m2 l2 ⟨bf,hL,Z,ai⟩;simp only at bf hL Z ai hJ;have aa:=l1.trans l2;by_cases ae:i<R.length
 ·refine G.lT i R.length ?_;obtain⟨q,a7⟩:∃ q,R[i]?=some q:=⟨_,A01 ae⟩;have E:=A1k a7;have b3:R.take (i+1)=R.take i++[q]:=by rw[A1n,a7];rfl
  have t:=ok.rel.names.word q.1 (A1b.2 ⟨q,E,rfl⟩);have Q:(R.map (·.1))[i]?=some q.1:=by rw[A1a,a7];rfl
  obtain⟨H,N,rfl,ea⟩:=Ac.at' (hR.mono aa) (j:=i) (e:=Hs q) (by simp[a7]);obtain⟨qs,d,qa,qc⟩:=q;have a9:d≠[]:=ok.rel.ne _ E;have bi:∀ p∈d,p<T.length:=ok.rel.lt _ E;have bt:d.length<=1000:=ok.rel.len _ E;have aw:∀ (k:Nat) x y,d[k]?=some x->d[k+1]?=some y->x<y:=ok.rel.asc _ E;have b2:Ac u2 (.slice qa d.length qc) 1 (Ai d):=(ok.rel.at' _ E).mono aa;have bs:0<d.length:=A4f.2 a9;simp only at t Q;refine G.a H N R.length U i 2 ae<|G.lU (some 2) H (N+i*2) (.agg #[.string (mkS qs),.slice qa d.length qc]) ea<|G.c call91 (Rr t) ?_;rintro v3 u3 l3 rfl;refine G.l (ι:=Nat) (fun k=>[(1,.p 0 0),(6,sV (some ⟨g,0,none⟩) T.length T.length),(7,iV i),(8,.p 19003 0),(9,iV k),(88,sV (some ⟨H,N,none⟩) R.length U),(89,iV R.length),(90,iV i)])
   (fun _=>[(0,⟨27,[sV xa T.length O,sV (some ⟨H,N,none⟩) R.length U,sV xe F.length Y,iV lab]⟩),(19003,⟨70,[tV qs,sV qa d.length qc]⟩)])
   (fun k u' K=>k<=i/\K=m2) (fun k=>i-k) 0 ⟨oV,rfl⟩ ?_
  rintro J2 k z u4 m4 l4 ⟨hk,rfl⟩;by_cases an:k<i
  ·refine G.lT k i ?_;obtain⟨y,a0⟩:∃ y,R[k]?=some y:=⟨_,A01 oV⟩;have a4:(R.map (·.1))[k]?=some y.1:=by rw[A1a,a0];rfl
   have az:=Aeo ok.rel.names.nodup Q a4 oV;obtain⟨_,_,e',ek⟩:=Ac.at' (hR.mono ((aa.trans l3).trans l4)) (j:=k) (e:=Hs y) (by simp[a0]);cases e';exact G.a H N R.length U k 2 oV<|G.f 70 H (N+k*2) 0 0<|G.lU none H (N+k*2+0) (.string (mkS y.1)) (ek.fld rfl rfl)<|G.w y.1 qs az<|G.i k<|G.b (z (k+1) _ _ _ cV l4 ⟨oV,rfl⟩ oV)
  obtain rfl:k=i:=oV;refine G.lF k k ?_;clear z;refine G.eF d.length 0<|G.l (ι:=Nat×List Bool) (fun j=>[(1,.p 0 0),(6,sV (some ⟨g,0,none⟩) T.length T.length),(8,.p 19003 0),(88,sV (some ⟨H,N,none⟩) R.length U),(89,iV R.length),(90,iV k),(118,sV qa d.length qc),(119,iV d.length),(120,iV j.1)])
   (fun _=>[(0,⟨27,[sV xa T.length O,sV (some ⟨H,N,none⟩) R.length U,sV xe F.length Y,iV lab]⟩),(19003,⟨70,[tV qs,sV qa d.length qc]⟩)])
   (fun j u' K=>j.1<=d.length/\j.2.length=T.length/\(∀ r∈R.take k,∀ q∈r.2.1,j.2[q]?=some true)/\(∀ q∈d.take j.1,j.2[q]?=some true)/\Af PH.mt K (.slice (some ⟨g,0,none⟩) T.length T.length) 4 1 (j.2.map Value.bool)) (fun j=>d.length-j.1) (0,L)
   ⟨mV,hL,Z,mV,ai⟩ ?_
  rintro J2 ⟨j,L2⟩ z u6 m6 l6 ⟨hj,al,V,I,aj⟩;simp only at hj al V I aj z;have b6:=(l3.trans l4).trans l6;have a5:=b2.mono b6;by_cases ag:j<d.length
  ·refine G.lT j d.length ?_;obtain⟨p,aq⟩:∃ p,d[j]?=some p:=⟨_,A01 ag⟩;have bj:p<T.length:=bi _ (A1k aq);have b4:d.take (j+1)=d.take j++[p]:=by rw[A1n,aq];rfl
   obtain⟨bq,oq,rfl,eq⟩:=Ac.at' a5 (j:=j) (e:=.int .i64 p) (by simp[Ai,aq]);refine G.a bq oq d.length qc j 1 ag<|G.lU none bq (oq+j*1) (.int .i64 p) eq<|G.lF p 0<|G.hF p T.length<|G.a g 0 T.length T.length p 1 bj<|G.storeA 1 PH.mt (L2.map Value.bool) g T.length T.length p (.bool true) kV aj (by rw[A03];omega) rfl rfl ?_;intro m7 au;rw[Sd]at au;refine G.i j ?_;have a1:∀ q,L2[q]?=some true->(L2.set p true)[q]?=some true:=fun q X=>by
    rw[A1z];split
    ·subst_vars;rw[if_pos oV]
    exact X
   exact G.b (z (j+1,L2.set p true) _ _ _ cV l6 ⟨dV,by simp[al],fun r hr q X=>a1 q (V r hr q X),by
    intro q X;dsimp only at X⊢;rw[b4,A1h,A12]at X;rcases X with X|rfl
    ·exact a1 q (I q X)
    rw[A1z];simp;omega,au⟩ dV)
  obtain rfl:j=d.length:=oV;refine G.lF d.length d.length ?_;clear z;rw[A15]at I;refine G.l (ι:=Nat) (fun j=>[(1,.p 0 0),(6,sV (some ⟨g,0,none⟩) T.length T.length),(8,.p 19003 0),(12,iV (j+1:Nat)),(88,sV (some ⟨H,N,none⟩) R.length U),(89,iV R.length),(90,iV k)])
   (fun _=>[(0,⟨27,[sV xa T.length O,sV (some ⟨H,N,none⟩) R.length U,sV xe F.length Y,iV lab]⟩),(19003,⟨70,[tV qs,sV qa d.length qc]⟩)])
   (fun j u' K=>j+1<=d.length/\K=m6) (fun j=>d.length-j) 0
   ⟨oV,rfl⟩ ?_
  rintro J3 j b9 u8 m8 l8 ⟨bp,rfl⟩;have a6:=a5.mono l8;by_cases ah:j+1<d.length
  ·refine G.lT (j+1:Nat) d.length ?_;obtain⟨C,b0⟩:∃ p,d[j]?=some p:=⟨_,A01 oV⟩;obtain⟨p2,b1⟩:∃ p,d[j+1]?=some p:=⟨_,A01 ah⟩;have a3:=aw j _ _ b0 b1;obtain⟨bq,oq,rfl,b8⟩:=Ac.at' a6 (j:=j+1) (e:=.int .i64 p2) (by simp[Ai,b1]);obtain⟨_,_,e',b7⟩:=Ac.at' a6 (j:=j) (e:=.int .i64 C) (by simp[Ai,b0]);cases e';exact G.a bq oq d.length qc (j+1) 1 ah<|G.lU none bq (oq+(j+1)*1) (.int .i64 p2) b8<|G.s (j+1:Nat) 1 j<|G.a bq oq d.length qc j 1 oV<|G.lU none bq (oq+j*1) (.int .i64 C) b7<|G.kF p2 C<|G.p (j+1:Nat) 1 (j+1+1:Nat)<|G.b (b9 (j+1) _ _ _ cV l8 ⟨oV,rfl⟩ oV)
  refine G.lF (j+1:Nat) d.length<|G.i k ?_;exact G.b (hJ (k+1,L2) _ _ _ cV ((l2.trans b6).trans l8) ⟨dV,al,by
   intro r hr q X;dsimp only at hr X⊢;rw[b3,A1h,A12]at hr;rcases hr with hr|rfl
   ·exact V r hr q X
   exact I q X,aj⟩ dV)
 obtain rfl:i=R.length:=oV;refine G.lF R.length R.length ?_;clear hJ;rw[A15]at Z;refine G.l (ι:=Nat) (fun i=>[(1,.p 0 0),(6,sV (some ⟨g,0,none⟩) T.length T.length),(156,sV (some ⟨g,0,none⟩) T.length T.length),(157,iV T.length),(158,iV i)])
  (fun _=>[(0,⟨27,[sV xa T.length O,sV xb R.length U,sV xe F.length Y,iV lab]⟩)])
  (fun i u' K=>i<=T.length/\K=m2) (fun i=>T.length-i) 0 ⟨oV,rfl⟩ ?_
 rintro J i hJ u3 m3 l3 ⟨bn,rfl⟩;by_cases a3:i<T.length
 ·refine G.lT i T.length ?_;have bc:L[i]?=some true:=by
   obtain⟨r,hr,X⟩:=ok.rel.all i a3;exact Z r hr i X
  exact G.a g 0 T.length T.length i 1 a3<|G.lM none g (0+i*1) (.bool true) (ai.el (by rw[A1a,bc];rfl))<|G.i i<|G.b (hJ (i+1) _ _ _ cV l3 ⟨oV,rfl⟩ oV)
 obtain rfl:i=T.length:=oV;refine G.lF T.length T.length ?_;clear hJ;have bk:=aa.trans l3;refine G.l (ι:=Nat) (fun i=>[(1,.p 0 0),(6,sV (some ⟨g,0,none⟩) T.length T.length),(166,sV xe F.length Y),(167,iV F.length),(168,iV i)])
  (fun _=>[(0,⟨27,[sV xa T.length O,sV xb R.length U,sV xe F.length Y,iV lab]⟩)])
  (fun i u' K=>i<=F.length/\K=m3) (fun i=>F.length-i) 0 ⟨oV,rfl⟩ ?_
 rintro J i hJ u4 m4 l4 ⟨bo,rfl⟩;have ac:=bk.trans l4;by_cases af:i<F.length
 ·refine G.lT i F.length ?_;obtain⟨f,ak⟩:∃ f,F[i]?=some f:=⟨_,A01 af⟩;have bd:=A1k ak;obtain⟨fn,fk,ax,a2,ay⟩:=ok.feat.ok f bd;obtain⟨a8,_⟩:=A05.1 ax;have Q:(F.map (·.1))[i]?=some f.1:=by rw[A1a,ak];rfl
  obtain⟨fb,fo,rfl,ef⟩:=Ac.at' (hF.mono ac) (j:=i) (e:=Cm f) (by simp[ak]);obtain⟨ab,ao,rfl,ea⟩:=Ac.at' (hT.mono ac) (j:=f.1) (e:=D9 (fn,fk)) (by simp[ax]);obtain⟨C,p2,p3⟩:=f;simp only at a2 ay a8 Q ea;refine G.a fb fo F.length Y i 3 af<|G.lU (some 3) fb (fo+i*3) (.agg #[.int .i64 C,.int .i64 p2,.int .i64 p3]) ef<|G.lF C 0<|G.hF C T.length<|G.joinF (ι:=Unit) (fun st=>Ip prog (Ajn prog st [.bool false,.bool true,.bool true,undef,undef,undef,.bool true])) (fun _=>[(1,.p 0 0),(6,sV (some ⟨g,0,none⟩) T.length T.length),(15,iV i),(16,.p 50003 0),(166,sV (some ⟨fb,fo,none⟩) F.length Y),(167,iV F.length),(168,iV i)])
   (fun _=>[(0,⟨27,[sV (some ⟨ab,ao,none⟩) T.length O,sV xb R.length U,sV (some ⟨fb,fo,none⟩) F.length Y,iV lab]⟩),(50003,⟨75,[iV C,iV p2,iV p3]⟩)])
   (fun _ u' K=>u'=u4/\K=m4) (fun _=>kV) kV ?tail ?way
  case way =>
   intro W;rcases a2 with ⟨rfl,rfl,br⟩|⟨rfl,rfl,rfl⟩
   ·refine G.eT (1:Nat) 1 ?_;rcases (by omega:p3=0\/p3=1) with rfl|rfl
    ·refine G.eT (0:Nat) 0<|G.a ab ao T.length O C 2 a8<|G.f 73 ab (ao+C*2) 1 1<|G.lU none ab (ao+C*2+1) (.int .i64 (2:Nat)) (L9 ea)<|G.eT (2:Nat) 2<|G.eF (1:Nat) 2<|G.pastI ?_;exact W () _ _ _ kV cV (PH.le_refl _) ⟨rfl,rfl⟩
    refine G.eF (1:Nat) 0<|G.eT (1:Nat) 1<|G.a ab ao T.length O C 2 a8<|G.f 73 ab (ao+C*2) 1 1<|G.lU none ab (ao+C*2+1) (.int .i64 (2:Nat)) (L9 ea)<|G.eT (2:Nat) 2<|G.eF (1:Nat) 2<|G.pastI ?_;exact W () _ _ _ kV cV (PH.le_refl _) ⟨rfl,rfl⟩
   refine G.eF (2:Nat) 1<|G.eT (2:Nat) 2<|G.eT (0:Nat) 0<|G.a ab ao T.length O C 2 a8<|G.f 73 ab (ao+C*2) 1 1<|G.lU none ab (ao+C*2+1) (.int .i64 (3:Nat)) (L9 ea)<|G.eT (3:Nat) 3<|G.pastI ?_;exact W () _ _ _ kV cV (PH.le_refl _) ⟨rfl,rfl⟩
  rintro _ u5 m5 _ ⟨rfl,rfl⟩;refine G.l (ι:=Nat) (fun k=>[(1,.p 0 0),(6,sV (some ⟨g,0,none⟩) T.length T.length),(15,iV i),(16,.p 50003 0),(19,iV k),(166,sV (some ⟨fb,fo,none⟩) F.length Y),(167,iV F.length),(168,iV i)])
   (fun _=>[(0,⟨27,[sV (some ⟨ab,ao,none⟩) T.length O,sV xb R.length U,sV (some ⟨fb,fo,none⟩) F.length Y,iV lab]⟩),(50003,⟨75,[iV C,iV p2,iV p3]⟩)])
   (fun k u' K=>k<=i/\K=m5) (fun k=>i-k) 0 ⟨oV,rfl⟩ ?_
  rintro J2 k z u6 m6 l6 ⟨hk,rfl⟩;by_cases an:k<i
  ·refine G.lT k i ?_;obtain⟨y,av⟩:∃ y,F[k]?=some y:=⟨_,A01 oV⟩;have a4:(F.map (·.1))[k]?=some y.1:=by rw[A1a,av];rfl
   have a9:y.1≠C:=fun e=>Nat.ne_of_lt an (Yu ok.feat.nodup a4 (by rw[Q,e]));obtain⟨_,_,e',ek⟩:=Ac.at' (hF.mono (ac.trans l6)) (j:=k) (e:=Cm y) (by simp[av]);cases e';exact G.a fb fo F.length Y k 3 oV<|G.f 75 fb (fo+k*3) 0 0<|G.lU none fb (fo+k*3+0) (.int .i64 y.1) (ek.fld rfl rfl)<|G.eF y.1 C<|G.i k<|G.b (z (k+1) _ _ _ cV l6 ⟨oV,rfl⟩ oV)
  obtain rfl:k=i:=oV;exact G.lF k k<|G.eF' C lab ay<|G.i k<|G.b (hJ (k+1) _ _ _ cV (l4.trans l6) ⟨oV,rfl⟩ oV)
 obtain rfl:i=F.length:=oV;refine G.lF F.length F.length<|G.drop PH.mt kV (PH.mt_le _)<|G.lF lab (-1)<|G.hF lab T.length ?_;rcases A5q lab 0 with bl|be
 ·exact G.hF lab 0<|G.r (.int .i64 0) ⟨rfl,rfl⟩
 refine G.hT lab 0 ?_;obtain⟨l,rfl⟩:∃ l:Nat,lab=(l:Int):=⟨lab.toNat,oV⟩;obtain⟨n,hn⟩:=ok.l2 l rfl;obtain⟨bb,ob,rfl,eb⟩:=Ac.at' (hT.mono ac) (j:=l) (e:=D9 (n,2)) (by simp[hn]);exact G.a bb ob T.length O l 2 oV<|G.f 73 bb (ob+l*2) 1 1<|G.lU none bb (ob+l*2+1) (.int .i64 (2:Nat)) (L9 eb)<|G.nF (2:Nat) 2<|G.r (.int .i64 0) ⟨rfl,rfl⟩
end
def Aup {l:List Nat}{i:Nat}(h:i<l.length):l.drop i=l.getD i 0::l.drop (i+1):=by
 rw[A5z h];simp[A02,A01 h]
def Afi (l:List Nat):∀ k,val (l.drop k)<=val l:=by
 induction l with
 |nil=>intro k;simp
 |cons a l ih =>
  intro k;cases k with
  |zero=>simp
  |succ k =>
   have:=ih k;simp only[List.drop_succ_cons,val];omega
def Axb (z:Int):Ae (z:Rat)=Lib.itoa z:=by
 unfold Ae;simp
section
variable {s:List UInt8}
def NoR (s:List UInt8):Prop:=∀ q:Rat,Tx q->s≠Ae q
def Bkx (s:List UInt8):(∀ b∈s,b≠47)\/∃ A B,s=A++47::B/\∀ b∈A,b≠47:=by
 induction s with
 |nil=>exact .inl mV
 |cons b l ih =>
  by_cases e:b=47
  ·exact .inr ⟨[],l,by rw[e];rfl,mV⟩
  rcases ih with h|⟨A,B,rfl,h⟩
  ·exact .inl fun x d=>by
    rcases A1g.1 d with rfl|d
    ·exact e
    exact h x d
  exact .inr ⟨b::A,B,rfl,fun x d=>by
   rcases A1g.1 d with rfl|d
   ·exact e
   exact h x d⟩
def NoR.int (h:NoR s):vI s=false:=by
 cases e:vI s with
 |false=>rfl
 |true =>
  obtain⟨z,d,rfl⟩:=Bhh e;exact absurd (Axb z).symm (h (z:Rat) ⟨by simpa using d,by rw[Rat.den_intCast,Lib.nDigits_small fV];omega⟩)
def NoR.gcd {y z:Int}(h:NoR (Lib.itoa y++47::Lib.itoa z))(g:Lib.nDigits y.natAbs<=400)(j:Lib.nDigits z.natAbs<=400)(m:2<=z):Nat.gcd y.natAbs z.natAbs≠1:=by
 intro e;have d:z.natAbs≠0:=oV
 refine h ⟨y,z.natAbs,d,e⟩ ⟨g,j⟩ ?_;unfold Ae;rw[if_neg (by show z.natAbs≠1;omega)];show _=Lib.itoa y++47::Lib.itoa ((z.natAbs:Nat):Int);rw[Int.natAbs_of_nonneg oV]
def Bku {u:PH}(h:NoR s)(e:s.length<=9223372036854775807):Fn0 prog 75 [.string (mkS s)] u fun v _=>v=.bool false:=by
 refine Fn0.o func75 ?_;rcases Bkx s with d|⟨A,B,rfl,d⟩
 ·have hi:=h.int;refine G.c call133 (Azn d) ?_;rintro V T L rfl;refine G.c call134 (Bhe s e) ?_;rintro W U l2 rfl;rw[hi];refine G.c call134 (Bhe s e) ?_;rintro X J N rfl;rw[hi];exact G.r (.bool false) ⟨rfl,rfl⟩
 have C:A.length+1+B.length<=9223372036854775807:=by simp at e;omega
 refine G.c call133 (A0l d e) ?_;rintro V T L rfl;refine G.c call134 (Bhe A oV) ?_;rintro W U l2 rfl;cases eA:vI A with
 |false=>exact G.r (.bool false) ⟨rfl,rfl⟩
 |true =>
  obtain⟨y,n,rfl⟩:=Bhh eA;by_cases K:Lib.itoa y = [48]
  ·exact G.q (Lib.itoa y) [48] K<|G.r (.bool false) ⟨rfl,rfl⟩
  refine G.w (Lib.itoa y) [48] K<|G.c call134 (Bhe B oV) ?_;rintro X J N rfl;cases eB:vI B with
  |false=>exact G.r (.bool false) ⟨rfl,rfl⟩
  |true =>
   obtain⟨z,j,rfl⟩:=Bhh eB;have t:=Aet (u:=J) (y:=z) (z:=1) j (by rw[Lib.nDigits_small fV];omega);rw[Hf]at t;refine G.c call135 t ?_;rintro v4 u4 l4 rfl;by_cases Y:2<=z
   rotate_left
   ·refine G.kT' (sgn (z-1)) 0 (by unfold sgn;split<;>(try split)<;>omega) ?_
    exact G.r (.bool false) ⟨rfl,rfl⟩
   refine G.kF' (sgn (z-1)) 0 (by rw[C5 oV];omega) ?_;have hg:=h.gcd n j Y;refine G.c call136 (Jz n) ?_;intro v5 u5 l5 E;obtain⟨b5,Z,n5,c5,rfl⟩:=E.opn;refine G.c call136 (Jz j) ?_;intro v6 u6 O F;obtain⟨b6,a6,n6,c6,rfl⟩:=F.opn;have Q:=Bd n;have R:=Bd j;refine G.c call137 (Ac4 (E.mono O) F (A04 Q oV) (A04 R oV)) ?_;intro v7 u7 l7 H;have m:Nat.gcd y.natAbs z.natAbs<=z.natAbs:=Bbd _ oV;have ng:=C4 m;generalize Nat.gcd y.natAbs z.natAbs=g at *
   obtain⟨b7,a7,n7,c7,rfl⟩:=H.opn;refine G.c call139 (Kf (z:=1) oV oV) ?_;intro v8 u8 P I;obtain⟨b8,a8,n8,c8,rfl⟩:=I.opn;refine G.c call138 (Kx (H.mono P) I (by simp only[A1s];omega) (A04 Tm oV)) ?_;rintro v9 u9 l9 rfl;refine G.eF' (sgn (((g:Nat):Int)-1)) 0 (by unfold sgn;split<;>(try split)<;>omega) ?_
   exact G.r (.bool false) ⟨rfl,rfl⟩
end
section
variable {s:List UInt8}{u:PH}
def Th:Value:=.tuple #[.string (mkS []),.string (mkS []),.bool false]
def Bk0 (h:NoR s)(j:s.length<=9223372036854775807):Fn0 prog 118 [.string (mkS s)] u fun v _=>v=Th:=by
 refine Fn0.o func118 ?_;by_cases h8:s.length<=802
 rotate_left
 ·exact G.gT s.length 802<|G.r Th ⟨rfl,rfl⟩
 refine G.gF s.length 802 ?_;rcases Bkx s with d|⟨A,B,rfl,d⟩
 ·have hi:=h.int;refine G.c call171 (Amg d j) ?_;rintro Y W R rfl;refine G.c call172 (Bi4 s j) ?_;rintro Z X l2 rfl;rw[hi];exact G.r Th ⟨rfl,rfl⟩
 have I:A.length+1+B.length<=9223372036854775807:=by simp at j;omega
 refine G.c call171 (Amq d j) ?_;rintro Y W R rfl;refine G.c call172 (Bi4 A oV) ?_;rintro Z X l2 rfl;cases eA:vI A with
 |false=>exact G.r Th ⟨rfl,rfl⟩
 |true =>
  refine G.c call172 (Bi4 B oV) ?_;rintro v3 u3 l3 rfl;cases eB:vI B with
  |false=>exact G.r Th ⟨rfl,rfl⟩
  |true =>
   obtain⟨y,t,rfl⟩:=Bhh eA;obtain⟨z,C,rfl⟩:=Bhh eB;by_cases J:Lib.itoa y = [48]
   ·exact G.q (Lib.itoa y) [48] J<|G.r Th ⟨rfl,rfl⟩
   refine G.w (Lib.itoa y) [48] J ?_;by_cases F:Lib.itoa z = [49]
   ·exact G.q (Lib.itoa z) [49] F<|G.r Th ⟨rfl,rfl⟩
   refine G.w (Lib.itoa z) [49] F ?_;by_cases E:Lib.itoa z = [48]
   ·exact G.q (Lib.itoa z) [48] E<|G.r Th ⟨rfl,rfl⟩
   refine G.w (Lib.itoa z) [48] E ?_;have a1:z≠1:=fun e=>F (by rw[e];exact Hf);have a0:z≠0:=fun e=>E (by rw[e];exact E5);by_cases zn:z<0
   ·exact G.idxS (Lib.itoa z) 0 45 kV (by rw[D5,decide_eq_true zn];rfl)<|G.cmpG .eql .u8 45 45 true kV rfl rfl<|G.r Th ⟨rfl,rfl⟩
   obtain⟨H,m,K,L⟩:=Qv (z:=z) oV oV;refine G.idxS (Lib.itoa z) 0 H kV m<|G.cmpG .eql .u8 (H.toNat:Int) 45 false kV rfl (by simp only[Db,decide_eq_false_iff_not];omega) ?_;have N:=h.gcd t C oV;refine G.c call173 (Oh t) ?_;intro v4 u4 l4 O;refine G.c call173 (Oh C) ?_;intro v5 u5 T P;have U:=Bd t;have V:=Bd C;refine G.c call127 (Abo (O.mono T) P (A04 U oV) (A04 V oV)) ?_;intro v6 u6 l6 Q;have n:Nat.gcd y.natAbs z.natAbs<=z.natAbs:=Bbd _ oV;have ng:=C4 n;generalize Nat.gcd y.natAbs z.natAbs=g at *
   refine G.c call174 (Ago Q (by simp only[A1s];omega)) ?_;rintro v7 u7 l7 rfl;exact G.x (Lib.itoa ((g:Nat):Int)) [49] (fun e=>N (by have:=Im (e.trans Hf.symm);omega))<|G.r Th ⟨rfl,rfl⟩
def Bn5 (h:NoR s)(d:s.length<=9223372036854775807):Fn0 prog 92 [.string (mkS s)] u fun v _=>v=.bool false:=by
 refine Fn0.o func92<|G.c call118 (Bk0 h d) ?_;rintro j g e rfl;exact G.r (.bool false) ⟨rfl,rfl⟩
def Brq (h:NoR s)(d:s.length<=9223372036854775807):Fn0 prog 115 [.string (mkS s)] u fun v _=>v=Th:=by
 refine Fn0.o func115<|G.c call75 (Bku h d) ?_;rintro j g e rfl;exact G.r Th ⟨rfl,rfl⟩
def smI (z:Int):Value:=if z.natAbs<=4611686018427387904 then .tuple #[.int .i64 z,.bool true] else .tuple #[.int .i64 0,.bool false]
def Boa (h:vI s=false)(d:s.length<=9223372036854775807):Fn0 prog 116 [.string (mkS s)] u fun v _=>v=.tuple #[.int .i64 0,.bool false]:=by
 refine Fn0.o func116<|G.c call134 (Bhe s d) ?_;rintro j g e rfl;rw[h];exact G.r (.tuple #[.int .i64 0,.bool false]) ⟨rfl,rfl⟩
end
section
variable {s:List UInt8}{u:PH}
def wch (i n:Nat):Prop:=(97<=n/\n<=122)\/(i≠0/\(n=45\/(48<=n/\n<=57)))
def Bl2 (d:1<=s.length)(e:s.length<=12)(h:∀ i c,s[i]?=some c->wch i c.toNat):Hn s=true:=by
 cases s with
 |nil=>simp at d
 |cons c l =>
  unfold Hn;simp only[A1m,decide_eq_true_eq,A1o,Aym,A4b];refine⟨⟨?_,fun x g=>?_⟩,e⟩
  ·rcases h 0 c rfl with h|h
   ·exact h
   exact absurd rfl h.1
  obtain⟨i,hi,rfl⟩:=A2y g;rcases h (i+1) _ (by rw[A7r,A01 hi]) with h|h
  ·exact .inl h
  exact .inr h.2
def Bjr {i:Nat}{c:UInt8}(hi:s[i]?=some c)(h:¬ wch i c.toNat):Hn s=false:=by
 cases e:Hn s with
 |false=>rfl
 |true=>exact absurd (Y3 e hi) h
def Bh6 (h:¬ (1<=s.length/\s.length<=12)):Hn s=false:=by
 cases e:Hn s with
 |false=>rfl
 |true=>exact absurd (Aa2 e) h
def Bpe (s:List UInt8)(P:s.length<=9223372036854775807):Fn0 prog 117 [.string (mkS s)] u fun v _=>v=.bool (Hn s):=by
 refine Fn0.o func117<|G.convSB (some .string) 5 s kV kV kV ?_;intro W U Q C;obtain⟨a,c,rfl⟩:=Ac.opn C;rw[Au]at C⊢;refine G.l (ι:=Nat) (fun i=>[(0,tV s),(7,sV a s.length c),(8,iV s.length),(9,iV i)]) (fun _=>[])
  (fun i T O=>i<=s.length/\(∀ j c,j<i->s[j]?=some c->wch j c.toNat)/\O=PH.mt) (fun i=>s.length-i) 0 ⟨oV,fun j c t=>oV,rfl⟩ ?_
 rintro J i z V R l2 ⟨hi,F,rfl⟩;by_cases m:i<s.length
 ·refine G.lT i s.length ?_;have h:s[i]?=some s[i]:=A01 m;obtain⟨b,off,rfl,e⟩:=Ac.at' (C.mono l2) (j:=i) (e:=.int .u8 (s[i].toNat:Int)) (by simp[Fn,h]);have g:¬ wch i s[i].toNat->Hn s=false:=Bjr h;have d:wch i s[i].toNat->∀ j c,j<i+1->s[j]?=some c->wch j c.toNat:=fun g j c t E=>by
   by_cases e:j=i
   ·subst e;rw[h]at E;obtain rfl:=A28 E;exact g
   exact F j c oV E
  generalize s[i].toNat=n at e g d;refine G.a b off s.length c i 1 m<|G.lU none b (off+i*1) (.int .u8 (n:Int)) e ?_;by_cases N:97<=n/\n<=122
  ·exact G.cmpG .geq .u8 (n:Int) 97 true kV rfl (by simp[Db];omega)<|G.cmpG .leq .u8 (n:Int) 122 true kV rfl (by simp[Db];omega)<|G.i i<|G.b (z (i+1) _ _ _ cV l2 ⟨oV,d (by unfold wch;omega),rfl⟩ oV)
  by_cases L:97<=n
  ·refine G.cmpG .geq .u8 (n:Int) 97 true kV rfl (by simp[Db];omega)<|G.cmpG .leq .u8 (n:Int) 122 false kV rfl (by simp[Db];omega) ?_;by_cases h0:i=0
   ·exact G.eT i 0<|G.r (.bool false) ⟨rfl,by rw[g (by unfold wch;omega)]⟩
   exact G.eF i 0<|G.cmpG .neq .u8 (n:Int) 45 true kV rfl (by simp[Db];omega)<|G.cmpG .lss .u8 (n:Int) 48 false kV rfl (by simp[Db];omega)<|G.cmpG .gtr .u8 (n:Int) 57 true kV rfl (by simp[Db];omega)<|G.r (.bool false) ⟨rfl,by rw[g (by unfold wch;omega)]⟩
  refine G.cmpG .geq .u8 (n:Int) 97 false kV rfl (by simp[Db];omega) ?_;by_cases h0:i=0
  ·exact G.eT i 0<|G.r (.bool false) ⟨rfl,by rw[g (by unfold wch;omega)]⟩
  refine G.eF i 0 ?_;by_cases H:n=45
  ·exact G.cmpG .neq .u8 (n:Int) 45 false kV rfl (by simp[Db];omega)<|G.i i<|G.b (z (i+1) _ _ _ cV l2 ⟨oV,d (by unfold wch;omega),rfl⟩ oV)
  refine G.cmpG .neq .u8 (n:Int) 45 true kV rfl (by simp[Db];omega) ?_;by_cases I:n<48
  ·exact G.cmpG .lss .u8 (n:Int) 48 true kV rfl (by simp[Db];omega)<|G.r (.bool false) ⟨rfl,by rw[g (by unfold wch;omega)]⟩
  refine G.cmpG .lss .u8 (n:Int) 48 false kV rfl (by simp[Db];omega) ?_;by_cases K:n>57
  ·exact G.cmpG .gtr .u8 (n:Int) 57 true kV rfl (by simp[Db];omega)<|G.r (.bool false) ⟨rfl,by rw[g (by unfold wch;omega)]⟩
  exact G.cmpG .gtr .u8 (n:Int) 57 false kV rfl (by simp[Db];omega)<|G.i i<|G.b (z (i+1) _ _ _ cV l2 ⟨oV,d (by unfold wch;omega),rfl⟩ oV)
 obtain rfl:i=s.length:=oV;refine G.lF s.length s.length ?_;by_cases g1:1<=s.length
 ·refine G.hT s.length 1 ?_;by_cases g2:s.length<=12
  ·exact G.kT s.length 12<|G.r (.bool true) ⟨rfl,by rw[Bl2 g1 g2 fun j c t=>F j c (A05.1 t).1 t]⟩
  exact G.kF s.length 12<|G.r (.bool false) ⟨rfl,by rw[Bh6 oV]⟩
 exact G.hF s.length 1<|G.r (.bool false) ⟨rfl,by rw[Bh6 oV]⟩
def Biw (s:List UInt8)(T:s.length<=9223372036854775807):Fn0 prog 91 [.string (mkS s)] u fun v _=>v=.bool (Hn s):=by
 refine Fn0.o func91 ?_;by_cases R:s.length=0
 ·exact G.eT s.length 0<|G.r (.bool false) ⟨rfl,by rw[Bh6 oV]⟩
 refine G.eF s.length 0 ?_;by_cases g1:s.length<=12
 rotate_left
 ·exact G.gT s.length 12<|G.r (.bool false) ⟨rfl,by rw[Bh6 oV]⟩
 refine G.gF s.length 12 ?_;obtain⟨c0,h⟩:∃ c,s[0]?=some c:=⟨_,A01 oV⟩;have n:¬ wch 0 c0.toNat->Hn s=false:=Bjr h;refine G.idxS s 0 c0 kV h ?_;by_cases P:c0.toNat<97
 ·exact G.cmpG .lss .u8 (c0.toNat:Int) 97 true kV rfl (by simp[Db];omega)<|G.r (.bool false) ⟨rfl,by rw[n (by unfold wch;omega)]⟩
 refine G.cmpG .lss .u8 (c0.toNat:Int) 97 false kV rfl (by simp[Db];omega)<|G.idxS s 0 c0 kV h ?_;by_cases Q:c0.toNat>122
 ·exact G.cmpG .gtr .u8 (c0.toNat:Int) 122 true kV rfl (by simp[Db];omega)<|G.r (.bool false) ⟨rfl,by rw[n (by unfold wch;omega)]⟩
 refine G.cmpG .gtr .u8 (c0.toNat:Int) 122 false kV rfl (by simp[Db];omega)<|G.l (ι:=Nat) (fun i=>[(0,tV s),(3,iV i)]) (fun _=>[])
  (fun i W O=>i<=s.length/\(∀ j c,j<i->s[j]?=some c->wch j c.toNat)/\O=PH.mt) (fun i=>s.length-i) 0 ⟨oV,fun j c t=>oV,rfl⟩ ?_
 rintro J i z X V l2 ⟨hi,H,rfl⟩;by_cases E:i<s.length
 ·refine G.lT i s.length ?_;obtain⟨b,d⟩:∃ b,s[i]?=some b:=⟨_,A01 E⟩;have m:¬ wch i b.toNat->Hn s=false:=Bjr d;have g:wch i b.toNat->∀ j c,j<i+1->s[j]?=some c->wch j c.toNat:=fun m j c t C=>by
   by_cases e:j=i
   ·subst e;rw[d]at C;obtain rfl:=A28 C;exact m
   exact H j c oV C
  have U:i=0->97<=b.toNat/\b.toNat<=122:=fun e=>by
   subst e;rw[h]at d;obtain rfl:=A28 d;omega
  refine G.idxS s i b kV d ?_;by_cases N:97<=b.toNat
  ·refine G.cmpG .geq .u8 (b.toNat:Int) 97 true kV rfl (by simp[Db];omega)<|G.idxS s i b kV d ?_;by_cases F:b.toNat<=122
   ·exact G.cmpG .leq .u8 (b.toNat:Int) 122 true kV rfl (by simp[Db];omega)<|G.i i<|G.b (z (i+1) _ _ _ cV l2 ⟨oV,g (by unfold wch;omega),rfl⟩ oV)
   exact G.cmpG .leq .u8 (b.toNat:Int) 122 false kV rfl (by simp[Db];omega)<|G.idxS s i b kV d<|G.cmpG .geq .u8 (b.toNat:Int) 48 true kV rfl (by simp[Db];omega)<|G.idxS s i b kV d<|G.cmpG .leq .u8 (b.toNat:Int) 57 false kV rfl (by simp[Db];omega)<|G.idxS s i b kV d<|G.cmpG .eql .u8 (b.toNat:Int) 45 false kV rfl (by simp[Db];omega)<|G.r (.bool false) ⟨rfl,by rw[m (by unfold wch;omega)]⟩
  refine G.cmpG .geq .u8 (b.toNat:Int) 97 false kV rfl (by simp[Db];omega)<|G.idxS s i b kV d ?_;by_cases K:48<=b.toNat
  ·refine G.cmpG .geq .u8 (b.toNat:Int) 48 true kV rfl (by simp[Db];omega)<|G.idxS s i b kV d ?_;by_cases L:b.toNat<=57
   ·exact G.cmpG .leq .u8 (b.toNat:Int) 57 true kV rfl (by simp[Db];omega)<|G.i i<|G.b (z (i+1) _ _ _ cV l2 ⟨oV,g (by unfold wch;omega),rfl⟩ oV)
   exact G.cmpG .leq .u8 (b.toNat:Int) 57 false kV rfl (by simp[Db];omega)<|G.idxS s i b kV d<|G.cmpG .eql .u8 (b.toNat:Int) 45 false kV rfl (by simp[Db];omega)<|G.r (.bool false) ⟨rfl,by rw[m (by unfold wch;omega)]⟩
  refine G.cmpG .geq .u8 (b.toNat:Int) 48 false kV rfl (by simp[Db];omega)<|G.idxS s i b kV d ?_;by_cases I:b.toNat=45
  ·exact G.cmpG .eql .u8 (b.toNat:Int) 45 true kV rfl (by simp[Db];omega)<|G.i i<|G.b (z (i+1) _ _ _ cV l2 ⟨oV,g (by unfold wch;omega),rfl⟩ oV)
  exact G.cmpG .eql .u8 (b.toNat:Int) 45 false kV rfl (by simp[Db];omega)<|G.r (.bool false) ⟨rfl,by rw[m (by unfold wch;omega)]⟩
 obtain rfl:i=s.length:=oV;exact G.lF s.length s.length<|G.r (.bool true) ⟨rfl,by rw[Bl2 oV g1 fun j c t=>H j c (A05.1 t).1 t]⟩
end
section
variable {n:Nat}{u:PH}{v:Value}{z:Int}
def Bkm (E:Lib.nDigits z.natAbs<=400):Fn0 prog 119 [.string (mkS (Lib.itoa z))] u fun v _=>v=smI z:=by
 refine Fn0.o func119<|G.c call172 (Tl E) ?_;rintro v1 u1 l1 rfl;refine G.c call173 (Oh E) ?_;intro v2 u2 l2 k2;obtain⟨b,a,n,c,rfl,N,hi⟩:=k2.opn;obtain⟨rfl,hc⟩:=hi.len;refine G.c call71 (Ac6 (n:=4611686018427387904) oV oV) ?_;intro v3 u3 T k3;obtain⟨b',a',n',c',rfl,X,t⟩:=k3.opn;obtain⟨rfl,Y⟩:=t.len;have F:nl z.natAbs<=400:=Bd E;have Q:nl (4611686018427387904:Int).natAbs<=400:=Bd jV;refine G.c call175 (Lx (hi.mono T) t oV oV) ?_;rintro v4 u4 l4 rfl;unfold smI;by_cases R:z.natAbs<=4611686018427387904
 rotate_left
 ·refine G.gtrT (sgn (((z.natAbs:Nat):Int)-(((4611686018427387904:Int).natAbs:Nat):Int))) 0 kV (by
   have:((4611686018427387904:Int).natAbs:Int)=4611686018427387904:=fV;rw[C5 oV];omega) ?_
  exact G.r (.tuple #[.int .i64 0,.bool false]) ⟨rfl,by rw[if_neg R]⟩
 rw[if_pos R];have hs:sgn (((z.natAbs:Nat):Int)-(((4611686018427387904:Int).natAbs:Nat):Int))<=0:=by
  unfold sgn;have:((4611686018427387904:Int).natAbs:Int)=4611686018427387904:=fV;split
  ·omega
  split<;>omega
 refine G.gF (sgn (((z.natAbs:Nat):Int)-(((4611686018427387904:Int).natAbs:Nat):Int))) 0 ?_;have P:(Aa z.natAbs).length<=400:=F;refine G.s ((Aa z.natAbs).length:Int) 1 ((Aa z.natAbs).length-1:Int)<|G.l (ι:=Int×Nat) (fun i=>[(4,.p 3002 0),(6,iV i.2),(7,iV i.1)]) (fun _=>[(3002,⟨88,[bV b,sV a (Aa z.natAbs).length c]⟩)])
  (fun i u' m'=>-1<=i.1/\i.1<(Aa z.natAbs).length/\i.2=val ((Aa z.natAbs).drop (i.1+1).toNat)/\m'=PH.mt) (fun i=>(i.1+1).toNat) (((Aa z.natAbs).length-1:Int),0) ⟨dV,dV,by
   dsimp only;rw[show (((Aa z.natAbs).length:Int)-1+1).toNat=(Aa z.natAbs).length by omega,List.drop_length];rfl,rfl⟩ ?_
 rintro J ⟨i,s⟩ L u5 m5 U ⟨V,W,g,rfl⟩;simp only at V W g L;have C:=Am z.natAbs;by_cases Z:0<=i
 ·obtain⟨k,rfl⟩:∃ k:Nat,i=(k:Int):=⟨i.toNat,oV⟩;have m:k<(Aa z.natAbs).length:=oV;rw[show ((k:Int)+1).toNat=k+1 by omega]at g;have j:=Aup m;have h:=Afi (Aa z.natAbs) k;rw[C,j]at h;simp only[val]at h;rw[<-g]at h;refine G.hT k 0<|G.mul (s:Int) 1000000000 ((s*1000000000:Nat):Int) kV oV oV oV ?_;obtain⟨K,off,rfl,e⟩:=(hi.mono ((T.trans l4).trans U)).at m;refine G.a K off (Aa z.natAbs).length c k 1 m<|G.lU none K (off+k*1) (.int .i64 ((Aa z.natAbs).getD k 0:Nat)) e ?_;generalize hg:(Aa z.natAbs).getD k 0=d at j h;refine G.p (s*1000000000:Nat) d (s*1000000000+d:Nat)<|G.s k 1 ((k:Int)-1) ?_;exact G.b (L ((k:Int)-1,s*1000000000+d) _ _ _ cV U ⟨dV,dV,by
   dsimp only;rw[show ((k:Int)-1+1).toNat=k by omega,j];simp only[val];rw[<-g];omega,rfl⟩ dV)
 obtain rfl:i = -1:=oV;refine G.hF (-1) 0 ?_;have H:s=z.natAbs:=by rw[g,show ((-1:Int)+1).toNat=0 by decide,A5a,C]
 subst H;cases b with
 |true =>
  have O:z<0:=by simpa using N.symm
  exact G.neg ((z.natAbs:Nat):Int) z kV oV oV oV<|G.r (.tuple #[.int .i64 z,.bool true]) ⟨rfl,rfl⟩
 |false =>
  have a0:¬ z<0:=by simpa using N.symm
  have I:((z.natAbs:Nat):Int)=z:=oV;refine G.r (.tuple #[.int .i64 (z.natAbs:Nat),.bool true]) ⟨rfl,by rw[I]⟩
def Bk6 (h:Dk u v n)(g:nl n<=1000000000000)(i:Nat):Fn0 prog 209 [v,.int .i64 i] u fun r _=>r=.int .u64 (((Aa n).getD i 0:Nat):Int):=by
 have g:(Aa n).length<=1000000000000:=g;obtain⟨a,c,rfl,_⟩:=id h;refine Fn0.o func209 ?_;by_cases d:i<(Aa n).length
 ·refine G.lT i ((Aa n).length:Int) ?_;obtain⟨b,off,rfl,e⟩:=h.at d;exact G.a b off (Aa n).length c i 1 d<|G.lU none b (off+i*1) _ e<|G.r _ ⟨rfl,rfl⟩
 refine G.lF i ((Aa n).length:Int) ?_;rw[Fs d];exact G.r (.int .u64 0) ⟨rfl,rfl⟩
def Bon (h:Dk u v n)(d:nl n<=1000000000000):Fn0 prog 210 [v] u fun r _=>r=.int .u64 ((n%1000000000000000000:Nat):Int):=by
 obtain⟨a,c,rfl,_⟩:=id h;refine Fn0.o func210<|G.c call209 (Bk6 h d 1) ?_;rintro m g e rfl;rw[A0k];refine G.mul64 ((n/1000000000%1000000000:Nat):Int) 1000000000 _ kV rfl oV oV<|G.c call209 (Bk6 (h.mono e) d 0) ?_;rintro t j l2 rfl;rw[Azo];exact G.add64 (((n/1000000000%1000000000:Nat):Int)*1000000000) ((n%1000000000:Nat):Int) ((n%1000000000000000000:Nat):Int) kV oV oV oV<|G.r _ ⟨rfl,rfl⟩
def Bo3 (h:Bi u v z)(E:nl z.natAbs<=1000000):Fn0 prog 170 [v] u fun r _=>r=smI z:=by
 obtain⟨a,N,c,rfl,j⟩:=h;obtain⟨a,c,e,_⟩:=id j;cases e;have t:(Aa z.natAbs).length<=1000000:=E;have m:(Aa z.natAbs).length=nl z.natAbs:=rfl;unfold smI;generalize K:z.natAbs=n at j E t m⊢;refine Fn0.o func170 ?_;by_cases I:(Aa n).length<=3
 rotate_left
 ·refine G.gT ((Aa n).length:Int) 3 ?_;have:¬ n<1000000000^3:=fun h=>I (A4 h);exact G.r (.tuple #[.int .i64 0,.bool false]) ⟨rfl,by rw[if_neg oV]⟩
 refine G.gF ((Aa n).length:Int) 3 ?_;have F:n<1000000000^3:=A2s (Dd n) (A10 oV oV);have C:(Aa n).getD 2 0=n/1000000000000000000:=by
  rw[Qw];rw[A5i oV]
 refine G.c call209 (Bk6 j oV 2) ?_;rintro R O H rfl;rw[C];by_cases J:n/1000000000000000000>4
 ·exact G.cmpG .gtr .u64 ((n/1000000000000000000:Nat):Int) 4 true kV rfl (by simp only[Db,decide_eq_true_eq];omega)<|G.r (.tuple #[.int .i64 0,.bool false]) ⟨rfl,by rw[if_neg oV]⟩
 refine G.cmpG .gtr .u64 ((n/1000000000000000000:Nat):Int) 4 false kV rfl (by simp only[Db,decide_eq_false_iff_not];omega)<|G.c call209 (Bk6 (j.mono H) oV 2) ?_;rintro T P l2 rfl;rw[C];refine G.mul64 ((n/1000000000000000000:Nat):Int) 1000000000 _ kV rfl oV oV<|G.mul64 (((n/1000000000000000000:Nat):Int)*1000000000) 1000000000 _ kV rfl oV oV<|G.c call210 (Bon (j.mono (H.trans l2)) oV) ?_;rintro U Q L rfl;refine G.add64 (((n/1000000000000000000:Nat):Int)*1000000000*1000000000) ((n%1000000000000000000:Nat):Int) (n:Int) kV oV oV oV ?_;by_cases g:n<=4611686018427387904
 rotate_left
 ·exact G.cmpG .gtr .u64 (n:Int) 4611686018427387904 true kV rfl (by simp only[Db,decide_eq_true_eq];omega)<|G.r (.tuple #[.int .i64 0,.bool false]) ⟨rfl,by rw[if_neg g]⟩
 refine G.cmpG .gtr .u64 (n:Int) 4611686018427387904 false kV rfl (by simp only[Db,decide_eq_false_iff_not];omega) ?_;rw[if_pos g];by_cases d:z<0
 ·rw[decide_eq_true d];refine G.convI .u64 .i64 .u64 (n:Int) (n:Int) kV ?_ ?_
  ·simp only[IntKind.wrap,IntKind.signed,IntKind.bits];simp;omega
  exact G.neg (n:Int) z kV oV oV oV<|G.r (.tuple #[.int .i64 z,.bool true]) ⟨rfl,rfl⟩
 rw[decide_eq_false d];refine G.convI .u64 .i64 .u64 (n:Int) (n:Int) kV ?_ ?_
 ·simp only[IntKind.wrap,IntKind.signed,IntKind.bits];simp;omega
 obtain rfl:z=(n:Int):=oV;exact G.r (.tuple #[.int .i64 n,.bool true]) ⟨rfl,rfl⟩
def Bkl (h:Lib.nDigits z.natAbs<=400):Fn0 prog 116 [.string (mkS (Lib.itoa z))] u fun v _=>v=smI z:=by
 refine Fn0.o func116<|G.c call134 (Jn h) ?_;rintro I E m rfl;refine G.c call169 (Zc h) ?_;intro J F l2 d;obtain⟨g,e,C,j,rfl⟩:=d.opn;refine G.c call170 (Bo3 d (A04 (Bd h) oV)) ?_;rintro K H t rfl;unfold smI;split
 ·exact G.r (.tuple #[.int .i64 z,.bool true]) ⟨rfl,rfl⟩
 exact G.r (.tuple #[.int .i64 0,.bool false]) ⟨rfl,rfl⟩
def Bhu (s:List UInt8):Bool:=vI s&&decide ((rdZ s).natAbs<=1000000000)
def Bhs (h:Lib.nDigits z.natAbs<=400):Bhu (Lib.itoa z)=decide (z.natAbs<=1000000000):=by
 unfold Bhu;rw[Bri h,Adu,Bool.true_and]
def Blq (s:List UInt8)(g:s.length<=9223372036854775807):Fn0 prog 114 [.string (mkS s)] u fun v _=>v=.bool (Bhu s):=by
 refine Fn0.o func114 ?_;cases e:vI s with
 |false =>
  refine G.c call116 (Boa e g) ?_;rintro m j h rfl;exact G.r (.bool false) ⟨rfl,by unfold Bhu;rw[e];rfl⟩
 |true =>
  obtain⟨z,d,rfl⟩:=Bhh e;rw[Bhs d];refine G.c call116 (Bkl d) ?_;rintro m j h rfl;unfold smI;split
  ·by_cases t:-1000000000<=z
   ·refine G.hT z (-1000000000) ?_;by_cases C:z<=1000000000
    ·exact G.kT z 1000000000<|G.r (.bool true) ⟨rfl,by rw[decide_eq_true oV]⟩
    exact G.kF z 1000000000<|G.r (.bool false) ⟨rfl,by rw[decide_eq_false oV]⟩
   exact G.hF z (-1000000000)<|G.r (.bool false) ⟨rfl,by rw[decide_eq_false oV]⟩
  exact G.r (.bool false) ⟨rfl,by rw[decide_eq_false oV]⟩
end
def Bqx (l:List UInt8):Nat:=l.foldl (fun a b=>a*10+(b.toNat-48)) 0
def Bip (u:Nat):Bqx (Lib.decDigits u)=u:=by
 induction u using Nat.strongRecOn with
 |_ u ih =>
  unfold Lib.decDigits;split
  ·rename_i h;show 0*10+((UInt8.ofNat (48+u)).toNat-48)=u;rw[UInt8.toNat_ofNat'];omega
  rename_i h;have d:=ih (u/10) oV;unfold Bqx at d⊢;rw[A5w,d];show u/10*10+((UInt8.ofNat (48+u%10)).toNat-48)=u;rw[UInt8.toNat_ofNat'];omega
def Bi1 {z w:Int}(h:Lib.itoa z=Lib.itoa w):z=w:=by
 have key:∀ a b:Int,a<0->0<=b->Lib.itoa a=Lib.itoa b->False:=fun a b m n e=>by
  unfold Lib.itoa at e;rw[if_pos m,if_neg oV]at e;have d:=O8 b.toNat 45 (by rw[<-e];simp);simp at d
 by_cases j:z<0
 ·by_cases g:w<0
  ·unfold Lib.itoa at h;rw[if_pos j,if_pos g]at h;have d:=congrArg Bqx (List.cons.inj h).2;rw[Bip,Bip]at d;omega
  exact (key z w j oV h).elim
 by_cases g:w<0
 ·exact (key w z g oV h.symm).elim
 unfold Lib.itoa at h;rw[if_neg j,if_neg g]at h;have d:=congrArg Bqx h;rw[Bip,Bip]at d;omega
def Bnl {a b:List UInt8}(d:∀ x∈a,x≠47):(a++47::b).takeWhile (fun x=>decide (x≠47))=a/\(a++47::b).dropWhile (fun x=>decide (x≠47))=47::b:=by
 induction a with
 |nil=>simp
 |cons x a ih =>
  obtain⟨g,h⟩:=ih fun y j=>d y (by simp[j]);have e:x≠47:=d x mV;refine⟨?_,?_⟩
  ·rw[A4x,List.takeWhile_cons,if_pos (by simpa using e),g]
  rw[A4x,List.dropWhile_cons,if_pos (by simpa using e),h]
def Bjz {q r:Rat}(h:Ae q=Ae r):q=r:=by
 have no:∀ a b c:Rat,a.den=1->¬ b.den=1->Ae a=Ae b->False:=fun a b c u v e=>by
  unfold Ae at e;rw[if_pos u,if_neg v]at e;exact O0 a.num 47 (by rw[e];simp) rfl
 by_cases g:q.den=1
 ·by_cases d:r.den=1
  ·unfold Ae at h;rw[if_pos g,if_pos d]at h;exact Rat.ext (Bi1 h) (by rw[g,d])
  exact (no q r 0 g d h).elim
 by_cases d:r.den=1
 ·exact (no r q 0 d g h.symm).elim
 unfold Ae at h;rw[if_neg g,if_neg d]at h;obtain⟨j,m⟩:=Bnl (b:=Lib.itoa (q.den:Int)) (O0 q.num);obtain⟨n,t⟩:=Bnl (b:=Lib.itoa (r.den:Int)) (O0 r.num);rw[h]at j m;refine Rat.ext (Bi1 (j.symm.trans n)) ?_;have:=Bi1 (List.cons.inj (m.symm.trans t)).2;omega
section
variable {k:Int}{t:List UInt8}
def Br1 (s:List UInt8)(k:Int):Value:=.agg #[.string (mkS s),.int .i64 k]
def Bla (k:Int)(t:List UInt8):Prop :=
 (1<=k/\k<=3)/\(t = []\/k=3/\Hn t=true\/k=1/\(∃ z:Int,z.natAbs<=1000000000/\t=Lib.itoa z)\/k=2/\∃ q:Rat,Dat q/\t=Ae q)
open Classical in
noncomputable def Bhq (k:Int)(t:List UInt8):Bool:=decide (Bla k t)
open Classical in
def Bhd (h:Bla k t):Bhq k t=true:=by unfold Bhq;exact decide_eq_true h
open Classical in
def Bg1 (h:¬ Bla k t):Bhq k t=false:=by unfold Bhq;exact decide_eq_false h
def Bkj (t:List UInt8):(∃ q,Tx q/\t=Ae q)\/NoR t:=by
 by_cases h:∃ q,Tx q/\t=Ae q
 ·exact .inl h
 exact .inr fun q d e=>h ⟨q,d,e⟩
def Bqh (g:t≠[]):Bhq 1 t=Bhu t:=by
 cases e:Bhu t with
 |true =>
  unfold Bhu at e;rw[A1m,decide_eq_true_eq]at e;obtain⟨z,d,rfl⟩:=Bhh e.1;rw[Adu]at e;exact Bhd ⟨oV,.inr (.inr (.inl ⟨rfl,z,e.2,rfl⟩))⟩
 |false =>
  refine Bg1 fun⟨_,h⟩=>?_;rcases h with h|⟨h,_⟩|⟨_,z,d,rfl⟩|⟨h,_⟩
  ·exact g h
  ·omega
  ·rw[Bhs (Jk oV),decide_eq_true d]at e;cases e
  omega
def Brp {u:PH}(s t:List UInt8)(k:Int)(C:t.length<=9223372036854775807):Fn0 prog 59 [Br1 s k,.string (mkS t)] u fun v _=>v=.bool (Bhq k t):=by
 refine Fn0.o func59 ?_;by_cases L:k=1
 ·subst L;refine G.eT' 1 1 rfl ?_;by_cases j:t = []
  ·exact G.q t [] j<|G.r (.bool true) ⟨rfl,by rw[Bhd ⟨oV,.inl j⟩]⟩
  refine G.w t [] j<|G.c call114 (Blq t C) ?_;rintro I H F rfl;exact G.r (.bool (Bhu t)) ⟨rfl,by rw[Bqh j]⟩
 refine G.eF' k 1 L ?_;by_cases N:k=2
 ·subst N;refine G.eT' 2 2 rfl ?_;rcases Bkj t with ⟨q,n,rfl⟩|K
  ·have hp:=q.den_pos;refine G.c call115 (Ayv n) ?_;rintro I H F rfl;have R:Bhq 2 (Ae q)=decide (q.num.natAbs<=1000000000/\q.den<=12):=by
    by_cases m:q.num.natAbs<=1000000000/\q.den<=12
    ·rw[decide_eq_true m,Bhd ⟨oV,.inr (.inr (.inr ⟨rfl,q,⟨m.1,m.2⟩,rfl⟩))⟩]
    rw[decide_eq_false m];refine Bg1 fun⟨_,h⟩=>?_;rcases h with h|⟨h,_⟩|⟨h,_⟩|⟨_,r,z,e⟩
    ·exact Ase h
    ·omega
    ·omega
    rw[Bjz e]at m;exact m ⟨z.num,z.den⟩
   rw[R];have E:∃ d ok,smI (q.den:Int)=.tuple #[.int .i64 d,.bool ok]/\(d=(q.den:Int)\/d=0/\12<q.den):=by
    unfold smI;split
    ·exact⟨_,_,rfl,.inl rfl⟩
    exact⟨_,_,rfl,.inr ⟨rfl,oV⟩⟩
   obtain⟨d,ok,es,m⟩:=E;refine G.c call116 (Bkl n.den) ?_;rintro T P l2 rfl;rw[es];refine G.w (Ae q) [] Ase ?_;have J:=Blq (u:=P) (Lib.itoa q.num) (A04 (Hh n.1) oV);rw[Bhs n.1]at J;refine G.c call114 J ?_;rintro X W V rfl;by_cases g:q.num.natAbs<=1000000000
   rotate_left
   ·rw[decide_eq_false g];exact G.r (.bool false) ⟨rfl,by rw[decide_eq_false fun h=>g h.1]⟩
   rw[decide_eq_true g];by_cases U:1<=d
   ·refine G.hT d 1 ?_;by_cases Q:d<=12
    ·exact G.kT d 12<|G.r (.bool true) ⟨rfl,by rw[decide_eq_true ⟨g,oV⟩]⟩
    exact G.kF d 12<|G.r (.bool false) ⟨rfl,by rw[decide_eq_false fun h=>oV]⟩
   exact G.hF d 1<|G.r (.bool false) ⟨rfl,by rw[decide_eq_false fun h=>oV]⟩
  refine G.c call115 (Brq K C) ?_;rintro I H F rfl;unfold Th;refine G.c call116 Ahf ?_;rintro T P l2 rfl;by_cases j:t = []
  ·exact G.q t [] j<|G.r (.bool true) ⟨rfl,by rw[Bhd ⟨oV,.inl j⟩]⟩
  refine G.w t [] j ?_;exact G.r (.bool false) ⟨rfl,by
   rw[Bg1];rintro⟨_,h⟩;rcases h with h|⟨h,_⟩|⟨h,_⟩|⟨_,r,z,e⟩
   ·exact j h
   ·omega
   ·omega
   exact K r z.tx e⟩
 refine G.eF' k 2 N ?_;by_cases O:k=3
 ·subst O;refine G.eT' 3 3 rfl ?_;by_cases j:t = []
  ·exact G.q t [] j<|G.r (.bool true) ⟨rfl,by rw[Bhd ⟨oV,.inl j⟩]⟩
  refine G.w t [] j<|G.c call117 (Bpe t C) ?_;rintro I H F rfl;refine G.r (.bool (Hn t)) ⟨rfl,?_⟩;cases e:Hn t with
  |true=>rw[Bhd ⟨oV,.inr (.inl ⟨rfl,e⟩)⟩]
  |false =>
   rw[Bg1];rintro⟨_,h⟩;rcases h with h|⟨_,h⟩|⟨h,_⟩|⟨h,_⟩
   ·exact j h
   ·rw[e]at h;cases h
   ·omega
   omega
 exact G.eF' k 3 O<|G.r (.bool false) ⟨rfl,by rw[Bg1 fun h=>by have:=h.1;omega]⟩
end
section
variable {q:Rat}
def Bkt (z:Int):∃ x ok,smI z=.tuple #[.int .i64 x,.bool ok]/\(ok=true/\x=z\/ok=false/\4611686018427387904<z.natAbs):=by
 unfold smI;split
 ·exact⟨_,_,rfl,.inl ⟨rfl,rfl⟩⟩
 exact⟨_,_,rfl,.inr ⟨rfl,oV⟩⟩
def Bnq :Bhq 1 (Ae q)=decide (q.den=1/\q.num.natAbs<=1000000000):=by
 by_cases h:q.den=1/\q.num.natAbs<=1000000000
 ·rw[decide_eq_true h];exact Bhd ⟨oV,.inr (.inr (.inl ⟨rfl,q.num,h.2,by unfold Ae;rw[if_pos h.1]⟩))⟩
 rw[decide_eq_false h];refine Bg1 fun⟨_,d⟩=>?_;rcases d with e|⟨e,_⟩|⟨_,z,g,e⟩|⟨e,_⟩
 ·exact Ase e
 ·omega
 ·rw[<-Axb]at e;have:=Bjz e;subst this;exact h ⟨Rat.den_intCast z,by simpa using g⟩
 omega
def Bra :Bhq 2 (Ae q)=decide (q.num.natAbs<=1000000000/\q.den<=12):=by
 by_cases d:q.num.natAbs<=1000000000/\q.den<=12
 ·rw[decide_eq_true d,Bhd ⟨oV,.inr (.inr (.inr ⟨rfl,q,⟨d.1,d.2⟩,rfl⟩))⟩]
 rw[decide_eq_false d];refine Bg1 fun⟨_,h⟩=>?_;rcases h with h|⟨h,_⟩|⟨h,_⟩|⟨_,r,g,e⟩
 ·exact Ase h
 ·omega
 ·omega
 rw[Bjz e]at d;exact d ⟨g.num,g.den⟩
def Bq2 {k:Int}{t:List UInt8}(m:k=1\/k=2)(j:t≠[])(d:NoR t):Bhq k t=false:=by
 refine Bg1 fun⟨_,h⟩=>?_;rcases h with h|⟨h,_⟩|⟨_,z,n,e⟩|⟨_,r,g,e⟩
 ·exact j h
 ·omega
 ·exact d (z:Rat) ⟨Jk (by simpa using (by omega:z.natAbs<1000000000000000000)),by rw[Rat.den_intCast,Lib.nDigits_small fV];omega⟩ (e.trans (Axb z).symm)
 exact d r g.tx e
def Boc {u:PH}(s t:List UInt8)(k:Int)(H:t.length<=9223372036854775807):Fn0 prog 60 [Br1 s k,.string (mkS t)] u fun v _=>v=.bool (Bhq k t):=by
 refine Fn0.o func60 ?_;by_cases L:k<1
 ·exact G.lT' k 1 L<|G.r (.bool false) ⟨rfl,by rw[Bg1 fun h=>by have:=h.1;omega]⟩
 refine G.lF' k 1 L ?_;by_cases N:k>3
 ·exact G.gT' k 3 N<|G.r (.bool false) ⟨rfl,by rw[Bg1 fun h=>by have:=h.1;omega]⟩
 refine G.gF' k 3 N ?_;by_cases n:t = []
 ·exact G.q t [] n<|G.r (.bool true) ⟨rfl,by rw[Bhd ⟨oV,.inl n⟩]⟩
 refine G.w t [] n ?_;by_cases E:k=3
 ·subst E;refine G.eT' 3 3 rfl<|G.c call91 (Biw t H) ?_;rintro Q P O rfl;refine G.r (.bool (Hn t)) ⟨rfl,?_⟩;cases e:Hn t with
  |true=>rw[Bhd ⟨oV,.inr (.inl ⟨rfl,e⟩)⟩]
  |false =>
   rw[Bg1];rintro⟨_,h⟩;rcases h with h|⟨_,h⟩|⟨h,_⟩|⟨h,_⟩
   ·exact n h
   ·rw[e]at h;cases h
   ·omega
   omega
 refine G.eF' k 3 E ?_;rcases Bkj t with ⟨q,z,rfl⟩|F
 rotate_left
 ·refine G.c call118 (Bk0 F H) ?_;rintro Q P O rfl;unfold Th;exact G.r (.bool false) ⟨rfl,by rw[Bq2 oV n F]⟩
 have hp:=q.den_pos;refine G.c call118 (Ua z) ?_;rintro Q P O rfl;have m:k=1->q.den≠1->Bhq k (Ae q)=false:=fun e j=>by rw[e,Bnq,decide_eq_false fun h=>j h.1]
 have d:(k=1->q.den=1)->Bhq k (Ae q)=decide (q.num.natAbs<=1000000000/\q.den<=12):=fun h=>by
  rcases (by omega:k=1\/k=2) with rfl|rfl
  ·rw[Bnq];have:=h rfl;exact decide_eq_decide.2 ⟨fun h=>⟨h.2,oV⟩,fun h=>⟨this,h.1⟩⟩
  exact Bra
 obtain⟨x,X,R,J⟩:=Bkt q.num;obtain⟨y,Y,T,K⟩:=Bkt (q.den:Int);refine dite (k=1) (fun g=>?A) (fun g=>?B)
 case' A =>
  refine G.eT' k 1 g ?_;by_cases j:q.den=1
  rotate_left
  ·exact G.x (Lib.itoa (q.den:Int)) [49] (fun e=>by have:=Im (e.trans Hf.symm);omega)<|G.r (.bool false) ⟨rfl,by rw[m g j]⟩
  refine G.y (Lib.itoa (q.den:Int)) [49] (by rw[j];exact Hf) ?_;have I:=d fun _=>j
 case' B =>
  refine G.eF' k 1 g ?_;have I:=d fun h=>absurd h g
 all_goals
  refine G.c call119 (Bkm z.1) ?_;rintro v2 Z l2 rfl;rw[R];refine G.c call119 (Bkm z.den) ?_;rintro v3 u3 W rfl;rw[T,I];rcases J with ⟨rfl,rfl⟩|⟨rfl,J⟩
  rotate_left
  ·exact G.r (.bool false) ⟨rfl,by rw[decide_eq_false fun h=>oV]⟩
  rcases K with ⟨rfl,rfl⟩|⟨rfl,K⟩
  rotate_left
  ·exact G.r (.bool false) ⟨rfl,by rw[decide_eq_false fun h=>oV]⟩
  by_cases U:-1000000000<=q.num
  rotate_left
  ·exact G.hF q.num (-1000000000)<|G.r (.bool false) ⟨rfl,by rw[decide_eq_false fun h=>oV]⟩
  refine G.hT q.num (-1000000000) ?_;by_cases V:q.num<=1000000000
  rotate_left
  ·exact G.kF q.num 1000000000<|G.r (.bool false) ⟨rfl,by rw[decide_eq_false fun h=>oV]⟩
  refine G.kT q.num 1000000000 ?_;by_cases C:q.den<=12
  rotate_left
  ·exact G.kF q.den 12<|G.r (.bool false) ⟨rfl,by rw[decide_eq_false fun h=>C h.2]⟩
  exact G.kT q.den 12<|G.r (.bool true) ⟨rfl,by rw[decide_eq_true ⟨oV,C⟩]⟩
end
section
variable {b c i n:Nat}{f:Nat->Int}{m u:PH}{x:List UInt8}
def F4 (f:Nat->Int):Nat->Int
 |0=>0
 |n+1=>if F4 f n≠0 then F4 f n else f n
def Q4 (h:F4 f i=0)(d:f i=0):F4 f (i+1)=0:=by
 unfold F4;rw[if_neg (fun e=>e h),d]
def Bkf (h:F4 f i=0):F4 f (i+1)=f i:=by
 rw[F4,if_neg (fun e=>e h)]
def Bjc (h:F4 f i≠0):∀ {n:Nat},i<=n->F4 f n=F4 f i:=by
 intro n d;induction n with
 |zero =>
  obtain rfl:i=0:=oV;rfl
 |succ n ih =>
  by_cases e:i=n+1
  ·rw[e]
  rw[F4,ih oV,if_pos h]
def H4 (h:F4 f i=0)(hi:i<n)(d:f i≠0):F4 f n=f i:=by
 rw[Bjc (i:=i+1) (by rw[Bkf h];exact d) oV,Bkf h]
def Bhm (h:F4 f n=0):∀ j,j<n->f j=0:=by
 intro j g;have d:F4 f j=0:=by
  by_cases e:F4 f j=0
  ·exact e
  rw[<-Bjc e (A8i g)];exact h
 by_cases e:f j=0
 ·exact e
 exact absurd (H4 d g e▸h) e
def L4 (L:List (List UInt8))(k:Nat)(x:List UInt8):Int:=if Hn x=false then 14 else if x∈L.take k then 9 else 0
def Bqp (L:List (List UInt8))(O:n<=L.length)(N:n<=1000000)(E:∀ j s,L[j]?=some s->ElP m b (0+j*1) (.string (mkS s))) :
 FnK prog 212 [.slice (some ⟨b,0,none⟩) n c,.string (mkS x)] u m fun v _=>∃ z:Int,v=.int .i64 z/\(0<=z↔x∈L.take n):=by
 refine FnK.of func212 kV kV<|G.l (ι:=Nat) (fun i=>[(0,sV (some ⟨b,0,none⟩) n c),(1,tV x),(7,iV n),(8,iV i)]) (fun _=>[])
  (fun i Q K=>i<=n/\x∉L.take i/\K=m) (fun i=>n-i) 0 ⟨oV,mV,rfl⟩ ?_
 rintro J i F R P I ⟨hi,C,rfl⟩;by_cases t:i<n
 ·refine G.lT i n ?_;have d:L[i]?=some L[i]:=A01 oV;have g:L.take (i+1)=L.take i++[L[i]]:=by rw[A1n,d];rfl
  refine G.a b 0 n c i 1 t<|G.lM none b (0+i*1) (.string (mkS L[i])) (E i _ d) ?_;by_cases e:x=L[i]
  ·refine G.q x L[i] e<|G.r (.int .i64 i) ⟨rfl,_,rfl,?_⟩;have H:x∈L.take n:=(List.take_subset_take_left L (by omega:i+1<=n)) (by rw[g];exact A1h.2 (.inr (A12.2 e)));exact⟨fun _=>H,fun _=>oV⟩
  refine G.w x L[i] e<|G.i i ?_;exact G.b (F (i+1) _ _ _ cV I ⟨oV,fun h=>by
   rw[g]at h;rcases A1h.1 h with h|h
   ·exact C h
   exact e (A12.1 h),rfl⟩ oV)
 obtain rfl:i=n:=oV;exact G.lF i i<|G.r (.int .i64 (-1)) ⟨rfl,_,rfl,fun h=>oV,fun h=>absurd h C⟩
def Bmz (L:List (List UInt8))(t:n<=L.length)(g:n<=1000000)(e:∀ j s,L[j]?=some s->ElP m b (0+j*1) (.string (mkS s))) :
 FnK prog 182 [.slice (some ⟨b,0,none⟩) n c,.string (mkS x)] u m fun v _=>v=.bool (decide (x∈L.take n)):=by
 refine FnK.of func182 kV kV<|G.callK _ _ kV call212 (Bqp (c:=c) (x:=x) L t g e) ?_;rintro F E C ⟨z,rfl,d⟩;by_cases h0:0<=z
 ·exact G.hT' z 0 h0<|G.r (.bool true) ⟨rfl,by rw[decide_eq_true (d.1 h0)]⟩
 exact G.hF' z 0 h0<|G.r (.bool false) ⟨rfl,by rw[decide_eq_false fun h=>h0 (d.2 h)]⟩
def Bps {b k c:Nat}{L:List (List UInt8)}(E:L.length<=1000)(z:x.length<=9223372036854775807)(C:L.length<=c)(h:L[k]?=some x)(g:∀ j s,L[j]?=some s->ElP m b (0+j*1) (.string (mkS s))) :
 FnK prog 130 [.slice (some ⟨b,0,none⟩) L.length c,.int .i64 k] u m fun v _=>v=.int .i64 (L4 L k x):=by
 obtain⟨d,t⟩:=A05.1 h;refine FnK.of func130 kV kV<|G.a b 0 L.length c k 1 d<|G.lM none b (0+k*1) (.string (mkS x)) (g k x h)<|G.c call117 (Bpe x z) ?_;rintro J H F rfl;unfold L4;cases ew:Hn x with
 |false=>exact G.r (.int .i64 14) ⟨rfl,rfl⟩
 |true =>
  refine G.sliceTo 1 (some ⟨b,0,none⟩) L.length c k kV oV<|G.a b 0 L.length c k 1 d<|G.lM none b (0+k*1) (.string (mkS x)) (g k x h)<|G.callK _ _ kV call182 (Bmz (n:=k) (c:=c) (x:=x) L oV oV g) ?_;rintro K I l2 rfl;rw[if_neg mV];by_cases e:x∈L.take k
  ·rw[decide_eq_true e,if_pos e];exact G.r (.int .i64 9) ⟨rfl,rfl⟩
  rw[decide_eq_false e,if_neg e];exact G.r (.int .i64 0) ⟨rfl,rfl⟩
abbrev Hv:=List UInt8×Int
def Bgy (a:Hv):Value:=Br1 a.1 a.2
def Bhy (A:List Hv)(i:Nat):Int:=match A[i]? with
 |some a=>if L4 (A.map (·.1)) i a.1≠0 then L4 (A.map (·.1)) i a.1 else if 1<=a.2/\a.2<=3 then 0 else 7
 |none=>0
def Bha (A:List Hv):Int:=F4 (Bhy A) A.length
def Bjy (L:List (List UInt8))(k j:Nat)(x:List UInt8)(h:k<=j):L4 (L.take j) k x=L4 L k x:=by
 unfold L4;rw[List.take_take,A4a h]
def Blu {v w x y:Value}{T:List Hv}(h:Ac u v 2 (T.map Bgy))(hS:∀ a∈T,a.1.length<=9223372036854775807)(hl:T.length<=100)(hw:∃ a n c,w=.slice a n c)(hx:∃ a n c,x=.slice a n c)(hy:∃ z:Int,y=.int .i64 z) :
 Fn0 prog 72 [.agg #[v,w,x,y]] u fun r _=>r=.int .i64 (Bha T):=by
 obtain⟨a,c,rfl⟩:=h.opn;obtain⟨wa,wn,wc,rfl⟩:=hw;obtain⟨xa,xn,xc,rfl⟩:=hx;obtain⟨z,rfl⟩:=hy;rw[A03]at h⊢;refine Fn0.o func72<|G.l (ι:=Nat×(Option Addr×Nat×Nat)) (fun i=>[(3,sV i.2.1 i.2.2.1 i.2.2.2),(8,sV a T.length c),(9,iV T.length),(10,iV i.1)]) (fun _=>[])
  (fun i u' m'=>i.1<=T.length/\F4 (Bhy T) i.1=0/\Af PH.mt m' (.slice i.2.1 i.2.2.1 i.2.2.2) 9 1 (((T.map (·.1)).take i.1).map nmV)) (fun i=>T.length-i.1) (0,(none,0,0)) ⟨mV,rfl,Af.nil _ _ _⟩ ?_
 rintro J ⟨i,na,nn,nc⟩ W u1 m1 Z ⟨hi,t,P⟩;simp only at hi P W t;by_cases C:i<T.length
 ·refine G.lT i T.length ?_;have K:T[i]?=some T[i]:=A01 C;have N:=hS T[i] (A09 C);have d:Bhy T i=if L4 (T.map (·.1)) i T[i].1≠0 then L4 (T.map (·.1)) i T[i].1 else if 1<=T[i].2/\T[i].2<=3 then 0 else 7:=by
   unfold Bhy;rw[K]
  have F:((T.map (·.1)).take (i+1))=(T.map (·.1)).take i++[T[i].1]:=by
   rw[A1n,A1a,K];rfl
  have E:=Bjy (T.map (·.1)) i (i+1) T[i].1 oV;rw[F]at E;rw[<-E]at d;have I:((T.map (·.1)).take i).length=i:=gV;generalize hL:(T.map (·.1)).take i=L at P F I d E;obtain⟨R,oa,rfl,V⟩:=Ac.at' (h.mono Z) (j:=i) (e:=Bgy T[i]) (by simp[K]);generalize T[i]=q at V F d N E;refine G.a R oa T.length c i 2 C<|G.lU (some 2) R (oa+i*2) (.agg #[.string (mkS q.1),.int .i64 q.2]) V<|G.B 9 1 16 (.string (mkS [])) [.string (mkS q.1)] (G6 [q.1]) ?_;intro g2 u2 l2 e2;refine G.k 9 1 16 (.string (mkS [])) PH.mt (L.map nmV) [.string (mkS q.1)] (.slice na nn nc) g2 0 1 1 P e2 (G6 [q.1]) ?_;intro v3 m3 g;rw[show L.map nmV++[.string (mkS q.1)]=(L++[q.1]).map nmV by rw[A1i];rfl]at g;obtain⟨Q,U,rfl⟩:=g.ptr mV;have H:=g.cap;rw[A03]at g H⊢;refine G.callK _ _ kV call130 (Bps (b:=Q) (k:=i) (c:=U) (x:=q.1) (L:=L++[q.1]) gV N H (by rw[<-I];exact getElem?_snoc_last L q.1) fun j s hs=>g.el (by rw[A1a,hs];rfl)) ?_;rintro v4 u4 l4 rfl;generalize L4 (L++[q.1]) i q.1=e at d E;by_cases O:e=0
  rotate_left
  ·refine G.nT' e 0 O<|G.drop PH.mt kV (PH.mt_le _) ?_;rw[if_pos O]at d;exact G.r (.int .i64 e) ⟨rfl,by unfold Bha;rw[H4 t C (by rw[d];exact O),d]⟩
  refine G.nF e 0 ?_;rw[if_neg (fun h=>h O)]at d;by_cases X:q.2<1
  ·refine G.lT' q.2 1 X<|G.drop PH.mt kV (PH.mt_le _) ?_;rw[if_neg oV]at d;exact G.r (.int .i64 7) ⟨rfl,by unfold Bha;rw[H4 t C (by rw[d];decide),d]⟩
  refine G.lF' q.2 1 X ?_;by_cases Y:q.2>3
  ·refine G.gT' q.2 3 Y<|G.drop PH.mt kV (PH.mt_le _) ?_;rw[if_neg oV]at d;exact G.r (.int .i64 7) ⟨rfl,by unfold Bha;rw[H4 t C (by rw[d];decide),d]⟩
  refine G.gF' q.2 3 Y ?_;rw[if_pos oV]at d;exact G.i i<|G.b (W (i+1,(some ⟨Q,0,none⟩,(L++[q.1]).length,U)) _ _ _ cV ((Z.trans l2).trans l4) ⟨dV,Q4 t d,by dsimp only;rw[F];exact g⟩ dV)
 obtain rfl:i=T.length:=oV;exact G.lF T.length T.length<|G.pastI<|G.drop PH.mt kV (PH.mt_le _)<|G.r (.int .i64 0) ⟨rfl,by unfold Bha;rw[t]⟩
end
section
variable {L:List Bool}{m u:PH}
abbrev H2:=List UInt8×List Int×(Option Addr×Nat)
def Bif (r:H2):Value:=.agg #[.string (mkS r.1),.slice r.2.2.1 r.2.1.length r.2.2.2]
def Bgt (l:List Int):List Value:=l.map fun z=>.int .i64 z
def Bpd (l:List Int):Prop:=∀ (k:Nat) x y,l[k]?=some x->l[k+1]?=some y->x<y
open Classical in
noncomputable def Bib (n:Nat)(e:Int)(l:List Int):Int:=if e≠0 then e else if l = [] then 7 else if ∃ a∈l,¬ (0<=a/\a<n) then 2 else if Bpd l then 0 else 10
noncomputable def Bgx (n:Nat)(R:List H2)(i:Nat):Int:=match R[i]? with
 |some r=>Bib n (L4 (R.map (·.1)) i r.1) r.2.1
 |none=>0
open Classical in
noncomputable def Bg8 (n:Nat)(R:List H2):Int:=if F4 (Bgx n R) R.length≠0 then F4 (Bgx n R) R.length else if ∀ a:Nat,a<n->∃ r∈R,(a:Int)∈r.2.1 then 0 else 7
section
variable {n:Nat} {e:Int} {l:List Int}
def Bi8 (h:e≠0):Bib n e l=e:=by unfold Bib;rw[if_pos h]
def Blw (h:l = []):Bib n 0 l=7:=by unfold Bib;rw[if_neg mV,if_pos h]
def Bhj (h:l≠[]){a:Int}(d:a∈l)(g:¬ (0<=a/\a<n)):Bib n 0 l=2:=by unfold Bib;rw[if_neg mV,if_neg h,if_pos ⟨a,d,g⟩]
def Bjm (h:l≠[])(C:∀ a∈l,0<=a/\a<n){k:Nat}{x y:Int}(g:l[k]?=some x)(j:l[k+1]?=some y)(d:¬ x<y):Bib n 0 l=10:=by
 unfold Bib;rw[if_neg mV,if_neg h,if_neg (fun⟨a,t,z⟩=>z (C a t)),if_neg (fun v=>d (v k x y g j))]
def Bnh (h:l≠[])(j:∀ a∈l,0<=a/\a<n)(d:Bpd l):Bib n 0 l=0:=by
 unfold Bib;rw[if_neg mV,if_neg h,if_neg (fun⟨a,d,g⟩=>g (j a d)),if_pos d]
def Bg6 {R:List H2}{i:Nat}(h:F4 (Bgx n R) i=0)(hi:i<R.length)(d:Bgx n R i≠0):Bg8 n R=Bgx n R i:=by
 unfold Bg8;rw[H4 h hi d,if_pos d]
open Classical in
def Bhx {R:List H2}(h:F4 (Bgx n R) R.length=0):Bg8 n R=if ∀ a:Nat,a<n->∃ r∈R,(a:Int)∈r.2.1 then 0 else 7:=by
 unfold Bg8;rw[if_neg (fun e=>e h)]
end
def Bq1 {b n c:Nat}(K:n=L.length)(P:n<=1000000)(H:∀ (j:Nat) s,L[j]?=some s->ElP m b (0+j*1) (.bool s)) :
 FnK prog 183 [.slice (some ⟨b,0,none⟩) n c,.bool false] u m fun v _=>∃ z:Int,v=.int .i64 z/\(0<=z↔false∈L):=by
 refine FnK.of func183 kV kV<|G.l (ι:=Nat) (fun i=>[(0,sV (some ⟨b,0,none⟩) n c),(1,bV false),(7,iV n),(8,iV i)]) (fun _=>[])
  (fun i R O=>i<=n/\false∉L.take i/\O=m) (fun i=>n-i) 0 ⟨oV,mV,rfl⟩ ?_
 rintro J i I T Q N ⟨hi,E,rfl⟩;by_cases C:i<n
 ·refine G.lT i n ?_;have g:L[i]?=some L[i]:=A01 oV;have t:L.take (i+1)=L.take i++[L[i]]:=by rw[A1n,g];rfl
  have F:L[i]∈L:=A09 _;have d:=H i _ g;refine G.a b 0 n c i 1 C ?_;generalize L[i]=s at t F d;refine G.lM none b (0+i*1) (.bool s) d ?_;cases s with
  |false =>
   exact G.eqB false false kV<|G.r (.int .i64 i) ⟨rfl,_,rfl,fun _=>F,fun _=>oV⟩
  |true =>
   refine G.eqB false true kV<|G.i i ?_;exact G.b (I (i+1) _ _ _ cV N ⟨oV,fun h=>by
    rw[t]at h;rcases A1h.1 h with h|h
    ·exact E h
    exact absurd (A12.1 h) mV,rfl⟩ oV)
 obtain rfl:i=n:=oV;exact G.lF i i<|G.r (.int .i64 (-1)) ⟨rfl,_,rfl,fun h=>oV,fun h=>absurd h (by rw[K,A15]at E;exact E)⟩
def Bl6 {b n c:Nat}(C:n=L.length)(t:n<=1000000)(g:∀ (j:Nat) s,L[j]?=some s->ElP m b (0+j*1) (.bool s)) :
 FnK prog 131 [.slice (some ⟨b,0,none⟩) n c,.bool false] u m fun v _=>v=.bool (decide (false∈L)):=by
 refine FnK.of func131 kV kV<|G.callK _ _ kV call183 (Bq1 (c:=c) (L:=L) C t g) ?_;rintro H F E ⟨z,rfl,d⟩;by_cases h0:0<=z
 ·exact G.hT' z 0 h0<|G.r (.bool true) ⟨rfl,by rw[decide_eq_true (d.1 h0)]⟩
 exact G.hF' z 0 h0<|G.r (.bool false) ⟨rfl,by rw[decide_eq_false fun h=>h0 (d.2 h)]⟩
def Bm0 {w x y:Value}{a0:Option Addr}{n c0:Nat}{R:List H2}(hR:Ac u w 2 (R.map Bif))(hS:∀ r∈R,r.1.length<=9223372036854775807/\r.2.1.length<=1000/\Ac u (.slice r.2.2.1 r.2.1.length r.2.2.2) 1 (Bgt r.2.1))(hn:n<=1000)(b0:0<n)(hl:R.length<=100)(hx:∃ a n c,x=.slice a n c)(hy:∃ z:Int,y=.int .i64 z) :
 Fn0 prog 73 [.agg #[.slice a0 n c0,w,x,y]] u fun r _=>r=.int .i64 (Bg8 n R):=by
 obtain⟨a,c,rfl⟩:=hR.opn;obtain⟨xa,xn,xc,rfl⟩:=hx;obtain⟨z,rfl⟩:=hy;rw[A03]at hR⊢;refine Fn0.o func73<|G.make 4 1 1 (.bool false) n kV rfl rfl oV oV oV ?_;rintro v1 m1 am ⟨ad,rfl⟩;obtain⟨g,rfl,_⟩:=am.some';refine G.l (ι:=Nat×List Bool×List (List UInt8)×(Option Addr×Nat)) (fun i=>[(3,sV i.2.2.2.1 i.2.2.1.length i.2.2.2.2),(4,sV (some ⟨g,0,none⟩) n n),(16,sV a R.length c),(17,iV R.length),(18,iV i.1)]) (fun _=>[])
  (fun i u' m'=>i.1<=R.length/\i.2.1.length=n/\i.2.2.1=(R.map (·.1)).take i.1/\F4 (Bgx n R) i.1=0/\(∀ q:Nat,q<n->(i.2.1[q]?=some true↔∃ r∈R.take i.1,(q:Int)∈r.2.1))/\Bag m' [Aqk g n i.2.1,Ajq i.2.2.2.1 i.2.2.2.2 i.2.2.1]) (fun i=>R.length-i.1) (0,List.replicate n false,[],(none,0))
  ⟨mV,mV,mV,rfl,fun q U=>by simp[U],⟨PH.mt,by rw[Ak5,A8z];exact am,PH.mt,Af.nil _ _ _,trivial⟩⟩ ?_
 rintro J ⟨i,L,N,⟨na,nc⟩⟩ hJ u2 m2 l2 ⟨hi,hL,hN,v,E,Q⟩;simp only at hi hL hN v E Q hJ;by_cases F:i<R.length
 ·refine G.lT i R.length ?_;have a4:R[i]?=some R[i]:=A01 F;have ab:R[i]∈R:=A09 F;have a2:(R.map (·.1)).take (i+1)=N++[R[i].1]:=by
   rw[A1n,A1a,a4,hN];rfl
  have ae:R.take (i+1)=R.take i++[R[i]]:=by
   rw[A1n,a4];rfl
  have t:Bgx n R i=Bib n (L4 (R.map (·.1)) i R[i].1) R[i].2.1:=by unfold Bgx;rw[a4]
  have T:=Bjy (R.map (·.1)) i (i+1) R[i].1 oV;rw[a2]at T;rw[<-T]at t;obtain⟨ai,au,av⟩:=hS _ ab;have ap:N.length=i:=by rw[hN];simp;omega
  obtain⟨ba,oa,rfl,ea⟩:=Ac.at' (hR.mono l2) (j:=i) (e:=Bif R[i]) (by simp[a4]);generalize R[i]=q at ea ab a2 ae t T ai au av;obtain⟨H,d,qa,qc⟩:=q;have b2:d.length<=1000:=au;have aq:Ac u2 (.slice qa d.length qc) 1 (Bgt d):=av.mono l2;simp only at a2 t T ai;refine G.a ba oa R.length c i 2 F<|G.lU (some 2) ba (oa+i*2) (.agg #[.string (mkS H),.slice qa d.length qc]) ea<|G.B 9 1 16 (.string (mkS [])) [.string (mkS H)] (G6 [H]) ?_;intro g3 u3 l3 e3;obtain⟨mm,aj,ac⟩:=Q.focus 1 rfl;rw[Ak3]at aj;refine G.k 9 1 16 (.string (mkS [])) mm (N.map nmV) [.string (mkS H)] (.slice na N.length nc) g3 0 1 1 aj e3 (G6 [H]) ?_;intro v4 m4 I;rw[show N.map nmV++[.string (mkS H)]=(N++[H]).map nmV by rw[A1i];rfl]at I;obtain⟨b4,c4,rfl⟩:=I.ptr mV;have W:=I.cap;rw[A03]at I W⊢;have K:=ac (Ajq (some ⟨b4,0,none⟩) c4 (N++[H])) m4 I;simp only[A2j,A2p]at K;refine G.callK _ _ kV call130 (Bps (b:=b4) (k:=i) (c:=c4) (x:=H) (L:=N++[H]) gV ai W (by rw[<-ap];exact getElem?_snoc_last N H) fun j s hs=>I.el (by rw[A1a,hs];rfl)) ?_;rintro v5 u5 l5 rfl;generalize L4 (N++[H]) i H=e at t T;by_cases he:e=0
  rotate_left
  ·refine G.nT' e 0 he<|G.drop PH.mt kV (PH.mt_le _) ?_;rw[Bi8 he]at t;exact G.r (.int .i64 e) ⟨rfl,by rw[Bg6 v F (by rw[t];exact he),t]⟩
  refine G.nF e 0 ?_;subst he;by_cases P:d = []
  ·refine G.eT' d.length 0 (by rw[P];rfl)<|G.drop PH.mt kV (PH.mt_le _) ?_;rw[Blw P]at t;exact G.r (.int .i64 7) ⟨rfl,by rw[Bg6 v F (by rw[t];decide),t]⟩
  have b1:0<d.length:=A4f.2 P;refine G.eF d.length 0 ?_;generalize N++[H]=N' at K a2;clear I ac aj Q W T;refine G.l (ι:=Nat×List Bool) (fun j=>[(3,sV (some ⟨b4,0,none⟩) N'.length c4),(4,sV (some ⟨g,0,none⟩) n n),(6,.p 5003 0),(16,sV (some ⟨ba,oa,none⟩) R.length c),(17,iV R.length),(18,iV i),(39,sV qa d.length qc),(40,iV d.length),(41,iV j.1)])
   (fun _=>[(5003,⟨70,[tV H,sV qa d.length qc]⟩)])
   (fun j u' m'=>j.1<=d.length/\j.2.length=n/\(∀ q∈d.take j.1,0<=q/\q<n)/\(∀ q:Nat,q<n->(j.2[q]?=some true↔(∃ r∈R.take i,(q:Int)∈r.2.1)\/(q:Int)∈d.take j.1))/\Bag m' [Aqk g n j.2,Ajq (some ⟨b4,0,none⟩) c4 N']) (fun j=>d.length-j.1) (0,L)
   ⟨mV,hL,mV,fun q U=>by rw[E q U];simp,K⟩ ?_
  rintro J2 ⟨j,L2⟩ ao u6 m6 l6 ⟨hj,af,a1,C,O⟩;simp only at hj af a1 C O ao;have Y:=aq.mono ((l3.trans l5).trans l6);by_cases X:j<d.length
  ·refine G.lT j d.length ?_;have ar:d[j]?=some d[j]:=A01 X;have ag:d[j]∈d:=A09 X;have a3:d.take (j+1)=d.take j++[d[j]]:=by rw[A1n,ar];rfl
   obtain⟨bq,oq,rfl,eq⟩:=Ac.at' Y (j:=j) (e:=.int .i64 d[j]) (by simp[Bgt,ar]);generalize d[j]=p at eq ag a3;refine G.a bq oq d.length qc j 1 X<|G.lU none bq (oq+j*1) (.int .i64 p) eq ?_;by_cases p0:p<0
   ·refine G.lT' p 0 p0<|G.drop PH.mt kV (PH.mt_le _) ?_;rw[Bhj P ag oV]at t;exact G.r (.int .i64 2) ⟨rfl,by rw[Bg6 v F (by rw[t];decide),t]⟩
   refine G.lF' p 0 p0 ?_;by_cases pn:p≥n
   ·refine G.hT' p n pn<|G.drop PH.mt kV (PH.mt_le _) ?_;rw[Bhj P ag oV]at t;exact G.r (.int .i64 2) ⟨rfl,by rw[Bg6 v F (by rw[t];decide),t]⟩
   refine G.hF' p n pn ?_;obtain⟨p,rfl⟩:∃ k:Nat,p=(k:Int):=⟨p.toNat,oV⟩;have ay:p<n:=oV;refine G.a g 0 n n p 1 ay ?_;obtain⟨az,aw,ah⟩:=O.focus 0 rfl;rw[Ak5]at aw;refine G.storeA 1 az (L2.map Value.bool) g n n p (.bool true) kV aw (by rw[A03];omega) rfl rfl ?_;intro m7 an;rw[Sd]at an;have V:=ah (Aqk g n (L2.set p true)) m7 an;simp only[A2p]at V;refine G.i j ?_;exact G.b (ao (j+1,L2.set p true) _ _ _ cV l6 ⟨dV,by simp[af],by
    intro q U;dsimp only at U;rw[a3,A1h,A12]at U;rcases U with U|rfl
    ·exact a1 q U
    ·omega,by
    intro q U;dsimp only;rw[a3,A1h,A12,A1z];by_cases e:p=q
    ·subst e;rw[if_pos rfl,if_pos oV];exact⟨fun _=>.inr (.inr rfl),fun _=>rfl⟩
    rw[if_neg e,C q U];constructor
    ·rintro (h|h)
     ·exact .inl h
     exact .inr (.inl h)
    rintro (h|h|h)
    ·exact .inl h
    ·exact .inr h
    omega,V⟩ dV)
  obtain rfl:j=d.length:=oV;refine G.lF d.length d.length ?_;rw[A15]at a1 C;refine G.l (ι:=Nat) (fun k=>[(3,sV (some ⟨b4,0,none⟩) N'.length c4),(4,sV (some ⟨g,0,none⟩) n n),(6,.p 5003 0),(10,iV (k+1:Nat)),(16,sV (some ⟨ba,oa,none⟩) R.length c),(17,iV R.length),(18,iV i)])
   (fun _=>[(5003,⟨70,[tV H,sV qa d.length qc]⟩)])
   (fun k u' m'=>k+1<=d.length/\(∀ j x y,j<k->d[j]?=some x->d[j+1]?=some y->x<y)/\m'=m6) (fun k=>d.length-k) 0
   ⟨oV,fun j x y hj=>oV,rfl⟩ ?_
  rintro J3 k ax u8 m8 l8 ⟨hk,a7,rfl⟩;have Z:=Y.mono l8;by_cases aa:k+1<d.length
  ·refine G.lT (k+1:Nat) d.length ?_;have a5:d[k]?=some d[k]:=A01 oV;have a6:d[k+1]?=some d[k+1]:=A01 aa;obtain⟨bq,oq,rfl,al⟩:=Ac.at' Z (j:=k+1) (e:=.int .i64 d[k+1]) (by simp[Bgt,a6]);obtain⟨_,_,e',ak⟩:=Ac.at' Z (j:=k) (e:=.int .i64 d[k]) (by simp[Bgt,a5]);cases e';generalize d[k]=p1 at ak a5;generalize d[k+1]=p2 at al a6;refine G.a bq oq d.length qc (k+1) 1 aa<|G.lU none bq (oq+(k+1)*1) (.int .i64 p2) al<|G.s (k+1:Nat) 1 k<|G.a bq oq d.length qc k 1 oV<|G.lU none bq (oq+k*1) (.int .i64 p1) ak ?_;by_cases a9:p1<p2
   rotate_left
   ·refine G.kT p2 p1<|G.drop PH.mt kV (PH.mt_le _) ?_;rw[Bjm P a1 a5 a6 a9]at t;exact G.r (.int .i64 10) ⟨rfl,by rw[Bg6 v F (by rw[t];decide),t]⟩
   refine G.kF p2 p1<|G.p (k+1:Nat) 1 (k+1+1:Nat) ?_;exact G.b (ax (k+1) _ _ _ cV l8 ⟨oV,fun j x y hj h1 h2=>by
    by_cases e:j=k
    ·subst e;rw[a5]at h1;rw[a6]at h2;cases h1;cases h2;exact a9
    exact a7 j x y oV h1 h2,rfl⟩ oV)
  refine G.lF (k+1:Nat) d.length<|G.i i ?_;exact G.b (hJ (i+1,L2,N',(some ⟨b4,0,none⟩,c4)) _ _ _ cV ((((l2.trans l3).trans l5).trans l6).trans l8) ⟨dV,af,a2.symm,Q4 v (by
   rw[t];exact Bnh P a1 fun j x y h1 h2=>a7 j x y (by have:=(A05.1 h2).1;omega) h1 h2),by
   intro q U;dsimp only;rw[C q U,ae];constructor
   ·rintro (⟨r,hr,h⟩|h)
    ·exact⟨r,A24 _ hr,h⟩
    exact⟨_,A6v _ (A12.2 rfl),h⟩
   rintro⟨r,hr,h⟩;rcases A1h.1 hr with hr|hr
   ·exact .inl ⟨r,hr,h⟩
   rw[A12.1 hr]at h;exact .inr h,O⟩ dV)
 obtain rfl:i=R.length:=oV;refine G.lF R.length R.length ?_;rw[A15]at E;refine G.callK _ _ kV call131 (Bl6 (b:=g) (c:=n) (L:=L) hL.symm oV (fun j s hs=>Q.el 0 rfl (x:=Aqk g n L) rfl (by show (L.map Value.bool)[j]?=_;rw[A1a,hs];rfl))) ?_;rintro v3 u3 l3 rfl;have a8:(false∈L)↔¬ ∀ a:Nat,a<n->∃ r∈R,(a:Int)∈r.2.1:=by
  constructor
  ·intro h hh;obtain⟨j,hj,e⟩:=A2y h;have:=(E j oV).2 (hh j oV);rw[A01 hj,e]at this;cases this
  intro h;by_cases e:false∈L
  ·exact e
  refine absurd (fun a ha=>(E a ha).1 ?_) h;rw[A01 oV];have hm:L[a]'oV∈L:=A09 _;cases e2:L[a]'oV with
  |true=>rfl
  |false=>rw[e2]at hm;exact absurd hm e
 by_cases hf:false∈L
 ·rw[decide_eq_true hf];exact G.drop PH.mt kV (PH.mt_le _)<|G.r (.int .i64 7) ⟨rfl,by rw[Bhx v,if_neg (a8.1 hf)]⟩
 rw[decide_eq_false hf];exact G.drop PH.mt kV (PH.mt_le _)<|G.r (.int .i64 0) ⟨rfl,by rw[Bhx v,if_pos (A3m fun h=>hf (a8.2 h))]⟩
end
section
variable {b:Nat}{m u:PH}
abbrev C9:=Int×Int×Int
def Sq (f:C9):Value:=.agg #[.int .i64 f.1,.int .i64 f.2.1,.int .i64 f.2.2]
def Bit (f:C9)(k:Int):Prop:=f.2.1=1/\k=2/\(f.2.2=0\/f.2.2=1)
def Bis (f:C9)(k:Int):Prop:=f.2.1=2/\k=3/\f.2.2=0
open Classical in
noncomputable def Bar (A:List Hv)(lab:Int)(l:List C9)(f:C9):Int :=
 if ¬ (0<=f.1/\f.1<A.length) then 2 else if ¬ (Bit f (A.getD f.1.toNat ([],0)).2\/Bis f (A.getD f.1.toNat ([],0)).2) then 7 else if f.1=lab\/∃ g∈l,g.1=f.1 then 9 else 0
noncomputable def Bhv (A:List Hv)(lab:Int)(F:List C9)(i:Nat):Int:=match F[i]? with
 |some f=>Bar A lab (F.take i) f
 |none=>0
noncomputable def P1 (A:List Hv)(lab:Int)(F:List C9):Int:=F4 (Bhv A lab F) F.length
def Brc {u m:PH}{v cap:Value}{T:List C9}{fid:Nat}(p:C9->Bool)(h:Ac u v 3 (T.map Sq))(Q:T.length<=1000000)
 (d:∀ args w,(callFunc fid args).run prog w=.ok (.enter fid args) w) (C:∀ f∈T,∀ F,PH.le u F->FnK prog fid [Sq f,cap] F m fun v _=>v=.bool (p f)) :
 FnK prog 103 [v,.func (.func fid) #[] #[cap]] u m fun P _=>∃ z:Int,P=.int .i64 z/\(0<=z↔∃ f∈T,p f=true):=by
 obtain⟨a,c,rfl⟩:=h.opn;rw[A03]at h⊢;refine FnK.of func103 kV kV<|G.l (ι:=Nat) (fun i=>[(0,sV a T.length c),(1,.v (.func (.func fid) #[] #[cap])),(7,iV T.length),(8,iV i)]) (fun _=>[])
  (fun i F N=>i<=T.length/\(∀ j (g:j<T.length),j<i->p (T[j]'g)=false)/\N=m) (fun i=>T.length-i) 0 ⟨oV,fun j g h=>oV,rfl⟩ ?_
 rintro J i L O R E ⟨hi,h0,rfl⟩;by_cases n:i<T.length
 ·refine G.lT i T.length ?_;have t:T[i]?=some T[i]:=A01 n;obtain⟨H,I,rfl,K⟩:=Ac.at' (h.mono E) (j:=i) (e:=Sq T[i]) (by simp[t]);refine G.a H I T.length c i 3 oV<|G.lU (some 3) H (I+i*3) (Sq T[i]) K<|G.callK fid [Sq T[i],cap] kV d (C T[i] (A09 n) O E) ?_;rintro V U l2 rfl;cases hp:p T[i] with
  |true=>exact G.r (.int .i64 i) ⟨rfl,_,rfl,fun _=>⟨_,A09 n,hp⟩,fun _=>oV⟩
  |false =>
   refine G.i i ?_;exact G.b (L (i+1) _ _ _ cV (E.trans l2) ⟨oV,fun j g h=>by
    rcases (by omega:j<i\/j=i) with e|rfl
    ·exact h0 j g e
    exact hp,rfl⟩ oV)
 obtain rfl:i=T.length:=oV;refine G.lF T.length T.length ?_;exact G.r (.int .i64 (-1)) ⟨rfl,_,rfl,fun h=>oV,fun⟨f,C,hp⟩=>by
  obtain⟨j,g,rfl⟩:=A2y C;rw[h0 j g g]at hp;cases hp⟩
def Bmc {u m:PH}{v cap:Value}{T:List C9}{fid:Nat}(p:C9->Bool)(h:Ac u v 3 (T.map Sq))(t:T.length<=1000000)
 (d:∀ args w,(callFunc fid args).run prog w=.ok (.enter fid args) w) (n:∀ f∈T,∀ j,PH.le u j->FnK prog fid [Sq f,cap] j m fun v _=>v=.bool (p f)) :
 FnK prog 61 [v,.func (.func fid) #[] #[cap]] u m fun C _=>C=.bool (T.any p):=by
 obtain⟨a,c,rfl⟩:=h.opn;refine FnK.of func61 kV kV<|G.callK _ _ kV call103 (Brc (cap:=cap) p h t d n) ?_;rintro H F E ⟨z,rfl,g⟩;by_cases h0:0<=z
 ·exact G.hT' z 0 h0<|G.r (.bool true) ⟨rfl,by rw[A5h.2 (g.1 h0)]⟩
 refine G.hF' z 0 h0<|G.r (.bool false) ⟨rfl,?_⟩;cases e:T.any p with
 |false=>rfl
 |true=>exact absurd (g.2 (A5h.1 e)) h0
def Bp4 {f g:C9}(h:ElP m b 0 (Sq g)):FnK prog 132 [Sq f,.pointer (some ⟨b,0,none⟩)] u m fun v _=>v=.bool (decide (f.1=g.1)):=by
 refine FnK.of func132 kV kV<|G.f 75 b 0 0 0<|G.lM none b (0+0) (.int .i64 g.1) (fun i x d=>?_) ?_
 ·have:i=0/\x=.int .i64 g.1:=by
   match i,d with
   |0,d=>exact⟨rfl,by simpa[Value.cells] using d.symm⟩
   |i+1,d=>simp[Value.cells]at d
  obtain⟨rfl,rfl⟩:=this;exact h 0 _ rfl
 by_cases e:f.1=g.1
 ·exact G.eT' f.1 g.1 e<|G.r (.bool true) ⟨rfl,by rw[decide_eq_true e]⟩
 exact G.eF' f.1 g.1 e<|G.r (.bool false) ⟨rfl,by rw[decide_eq_false e]⟩
def Bin {b off:Nat}{q:Hv}(h:ElP u b off (Bgy q)):ElP u b (off+1) (.int .i64 q.2):=fun i x d=>by
 match i,d with
 |0,d =>
  have:x=.int .i64 q.2:=by simpa[Value.cells] using d.symm
  subst this;exact h 1 _ rfl
 |i+1,d=>simp[Value.cells]at d
def Brz {g:C9}(e:ElP m b 0 (Sq g)):ElP m b (0+0) (.int .i64 g.1):=fun i x d=>by
 match i,d with
 |0,d =>
  have:x=.int .i64 g.1:=by simpa[Value.cells] using d.symm
  subst this;exact e 0 _ rfl
 |i+1,d=>simp[Value.cells]at d
def Blp {l:List C9}{g:C9}:l.any (fun f=>decide (f.1=g.1))=true↔∃ f∈l,f.1=g.1:=mV
def Bok {v w x:Value}{T:List Hv}{F:List C9}{lab:Int}(h:Ac u v 2 (T.map Bgy))(hF:Ac u x 3 (F.map Sq))(hl:T.length<=1000)(a7:F.length<=1000)(hw:∃ a n c,w=.slice a n c) :
 Fn0 prog 74 [.agg #[v,w,x,.int .i64 lab]] u fun r _=>r=.int .i64 (P1 T lab F):=by
 obtain⟨a,c,rfl⟩:=h.opn;obtain⟨a',U,rfl⟩:=hF.opn;obtain⟨wa,wn,wc,rfl⟩:=hw;have Q:=hF.cap;rw[A03]at h hF Q⊢;rw[A03];refine Fn0.o func74<|G.l (ι:=Nat) (fun i=>[(1,.p 0 0),(9,sV a' F.length U),(10,iV F.length),(11,iV i)]) (fun _=>[(0,⟨27,[sV a T.length c,sV wa wn wc,sV a' F.length U,iV lab]⟩)])
  (fun i u' m'=>i<=F.length/\F4 (Bhv T lab F) i=0/\m'=PH.mt) (fun i=>F.length-i) 0 ⟨oV,rfl,rfl⟩ ?_
 rintro J i hJ u1 m1 V ⟨hi,L,rfl⟩;by_cases N:i<F.length
 rotate_left
 ·obtain rfl:i=F.length:=oV
  exact G.lF F.length F.length<|G.r (.int .i64 0) ⟨rfl,by unfold P1;rw[L]⟩
 refine G.lT i F.length ?_;have O:F[i]?=some F[i]:=A01 N;have K:Bhv T lab F i=Bar T lab (F.take i) F[i]:=by unfold Bhv;rw[O]
 obtain⟨W,oa,rfl,ea⟩:=Ac.at' (hF.mono V) (j:=i) (e:=Sq F[i]) (by simp[O]);have P:=(hF.mono V).take' i (by rw[A03];omega);rw[<-A5g]at P;have a9:(F.take i).length=i:=by rw[A1e];omega
 generalize F[i]=f at ea K;have z:Bar T lab (F.take i) f≠0->P1 T lab F=Bar T lab (F.take i) f:=fun Z=>by
  unfold P1;rw[H4 L N (by rw[K];exact Z),K]
 refine G.a W oa F.length U i 3 N<|G.lU (some 3) W (oa+i*3) (.agg #[.int .i64 f.1,.int .i64 f.2.1,.int .i64 f.2.2]) ea ?_;by_cases p0:f.1<0
 ·refine G.lT' f.1 0 p0 ?_;have e:Bar T lab (F.take i) f=2:=by unfold Bar;rw[if_pos oV]
  exact G.r (.int .i64 2) ⟨rfl,by rw[z (by rw[e];decide),e]⟩
 refine G.lF' f.1 0 p0 ?_;by_cases pn:f.1≥T.length
 ·refine G.hT' f.1 T.length pn ?_;have e:Bar T lab (F.take i) f=2:=by unfold Bar;rw[if_pos oV]
  exact G.r (.int .i64 2) ⟨rfl,by rw[z (by rw[e];decide),e]⟩
 refine G.hF' f.1 T.length pn ?_;obtain⟨p,hp⟩:∃ p:Nat,f.1=(p:Int):=⟨f.1.toNat,oV⟩;have R:p<T.length:=oV
 have hk:T[p]?=some T[p]:=A01 R;have Y:T.getD f.1.toNat ([],0)=T[p]:=by rw[hp,A23,A02,hk];rfl
 have d:Bar T lab (F.take i) f=(open Classical in if ¬ (Bit f T[p].2\/Bis f T[p].2) then 7 else if f.1=lab\/∃ g∈F.take i,g.1=f.1 then 9 else 0):=by
  unfold Bar;rw[if_neg oV,Y]
 obtain⟨X,ob,rfl,eb⟩:=Ac.at' (h.mono V) (j:=p) (e:=Bgy T[p]) (by simp[hk]);generalize a6:Bar T lab (F.take i) f=fe at *
 generalize T[p]=q at eb d;rw[hp];refine G.a X ob T.length c p 2 R ?_;rw[<-hp];refine G.f 73 X (ob+p*2) 1 1<|G.lU none X (ob+p*2+1) (.int .i64 q.2) (Bin eb) ?_;by_cases I:Bit f q.2\/Bis f q.2
 rotate_left
 ·have t:P1 T lab F=7:=by
   rw[if_pos I]at d;rw[z (by rw[d];decide),d]
  have a4:¬ Bit f q.2:=fun h=>I (.inl h);have a0:¬ Bis f q.2:=fun h=>I (.inr h);unfold Bit at a4;unfold Bis at a0;by_cases f1:f.2.1=1
  ·refine G.eT' f.2.1 1 f1 ?_;by_cases k2:q.2=2
   ·exact G.eT' q.2 2 k2<|G.eF f.2.2 0<|G.eF f.2.2 1<|G.eF f.2.1 2<|G.r (.int .i64 7) ⟨rfl,by rw[t]⟩
   exact G.eF' q.2 2 k2<|G.eF f.2.1 2<|G.r (.int .i64 7) ⟨rfl,by rw[t]⟩
  refine G.eF' f.2.1 1 f1 ?_;by_cases f2:f.2.1=2
  ·refine G.eT' f.2.1 2 f2 ?_;by_cases k3:q.2=3
   ·exact G.eT' q.2 3 k3<|G.eF f.2.2 0<|G.r (.int .i64 7) ⟨rfl,by rw[t]⟩
   exact G.eF' q.2 3 k3<|G.r (.int .i64 7) ⟨rfl,by rw[t]⟩
  exact G.eF' f.2.1 2 f2<|G.r (.int .i64 7) ⟨rfl,by rw[t]⟩
 rw[if_neg (fun h=>h I)]at d;have E:(f.2.1=1/\q.2=2/\f.2.2=0)\/(f.2.1=1/\q.2=2/\f.2.2=1)\/(f.2.1=2/\q.2=3/\f.2.2=0):=by
  rcases I with ⟨a1,a2,a3⟩|⟨a1,a2,a3⟩<;>omega
 refine E.elim (fun E=>?A) (fun E=>E.elim (fun E=>?B) (fun E=>?C))
 case' A =>
  refine G.eT' f.2.1 1 E.1<|G.eT' q.2 2 E.2.1<|G.eT' f.2.2 0 E.2.2<|G.eF f.2.1 2 ?_
 case' B =>
  refine G.eT' f.2.1 1 E.1<|G.eT' q.2 2 E.2.1<|G.eF f.2.2 0<|G.eT' f.2.2 1 E.2.2<|G.eF f.2.1 2 ?_
 case' C =>
  refine G.eF f.2.1 1<|G.eT' f.2.1 2 E.1<|G.eT' q.2 3 E.2.1<|G.eT' f.2.2 0 E.2.2 ?_
 all_goals
  refine G.pastI<|G.pub 3003 75 [.int .i64 f.1,.int .i64 f.2.1,.int .i64 f.2.2] kV kV ?_;intro e2 aa a8;refine G.f 75 e2 0 0 0<|G.lM none e2 (0+0) (.int .i64 f.1) (Brz (g:=f) (Ph rfl)) ?_;by_cases H:f.1=lab
  ·refine G.eT' f.1 lab H<|G.drop PH.mt kV (PH.mt_le _) ?_;rw[if_pos (.inl H)]at d;exact G.r (.int .i64 9) ⟨rfl,by rw[z (by rw[d];decide),d]⟩
  refine G.eF' f.1 lab H<|G.sliceTo 3 (some ⟨W,oa,none⟩) F.length U i kV oV<|G.callK _ _ kV call61 (Bmc (fun g=>decide (g.1=f.1)) P (by rw[A1e];omega) call132 fun f' a5 u' _=>Bp4 (g:=f) (Ph rfl)) ?_;rintro v2 u2 l2 rfl;cases hany:(F.take i).any fun g=>decide (g.1=f.1) with
  |true =>
   refine G.drop PH.mt kV (PH.mt_le _) ?_;rw[if_pos (.inr (Blp.1 hany))]at d;exact G.r (.int .i64 9) ⟨rfl,by rw[z (by rw[d];decide),d]⟩
  |false =>
   refine G.drop PH.mt kV (PH.mt_le _) ?_;rw[if_neg (fun h=>h.elim H fun h=>by rw[Blp.2 h]at hany;cases hany)]at d;exact G.i i<|G.b (hJ (i+1) _ _ _ cV (V.trans l2) ⟨oV,Q4 L (by rw[K,d]),rfl⟩ oV)
end
section
def R0 (u:PH)(v:Value)(A:List Hv)(R:List H2)(F:List C9)(lab:Int):Prop :=
 ∃ a c b d e f,v=.agg #[.slice a A.length c,.slice b R.length d,.slice e F.length f,.int .i64 lab]/\Ac u (.slice a A.length c) 2 (A.map Bgy)/\Ac u (.slice b R.length d) 2 (R.map Bif)/\Ac u (.slice e F.length f) 3 (F.map Sq)
def R0.mono {u j:PH}{v:Value}{A:List Hv}{R:List H2}{F:List C9}{lab:Int}(h:R0 u v A R F lab)(g:PH.le u j):R0 j v A R F lab:=by
 obtain⟨a,c,b,d,e,f,z,m,n,t⟩:=h;exact⟨a,c,b,d,e,f,z,m.mono g,n.mono g,t.mono g⟩
structure Tq (u:PH)(A:List Hv)(R:List H2):Prop where
 att:∀ a∈A,a.1.length<=9223372036854775807
 rel:∀ r∈R,r.1.length<=9223372036854775807/\r.2.1.length<=1000/\Ac u (.slice r.2.2.1 r.2.1.length r.2.2.2) 1 (Bgt r.2.1)
def Tq.mono {u e:PH}{A:List Hv}{R:List H2}(h:Tq u A R)(g:PH.le u e):Tq e A R:=⟨h.att,fun r d=>⟨(h.rel r d).1,(h.rel r d).2.1,(h.rel r d).2.2.mono g⟩⟩
def Bkd (A:List Hv)(R:List H2)(F:List C9):Prop:=A.length≠0/\A.length<=12/\R.length≠0/\R.length<=6/\F.length<=8
def Bil (A:List Hv)(lab:Int):Int:=if lab < -1\/lab≥A.length then 2 else if 0<=lab/\(A.getD lab.toNat ([],0)).2≠2 then 7 else 0
open Classical in
noncomputable def P2 (A:List Hv)(R:List H2)(F:List C9)(lab:Int):Int :=
 if ¬ Bkd A R F then 3 else if Bha A≠0 then Bha A else if Bg8 A.length R≠0 then Bg8 A.length R else if P1 A lab F≠0 then P1 A lab F else Bil A lab
section
variable {A:List Hv} {R:List H2} {F:List C9} {lab:Int}
def Bgp (h:¬ Bkd A R F):P2 A R F lab=3:=by unfold P2;rw[if_pos h]
def Blt (h:Bkd A R F)(d:Bha A≠0):P2 A R F lab=Bha A:=by unfold P2;rw[if_neg (fun e=>e h),if_pos d]
def Bjl (h:Bkd A R F)(d:Bha A=0)(g:Bg8 A.length R≠0):P2 A R F lab=Bg8 A.length R:=by unfold P2;rw[if_neg (fun e=>e h),if_neg (fun e=>e d),if_pos g]
def Bkz (h:Bkd A R F)(d:Bha A=0)(g:Bg8 A.length R=0)(j:P1 A lab F≠0):P2 A R F lab=P1 A lab F:=by
 unfold P2;rw[if_neg (fun e=>e h),if_neg (fun e=>e d),if_neg (fun e=>e g),if_pos j]
def Bli (h:Bkd A R F)(d:Bha A=0)(g:Bg8 A.length R=0)(j:P1 A lab F=0):P2 A R F lab=Bil A lab:=by
 unfold P2;rw[if_neg (fun e=>e h),if_neg (fun e=>e d),if_neg (fun e=>e g),if_neg (fun e=>e j)]
end
def Bm7 {u:PH}{v:Value}{T:List Hv}{R:List H2}{F:List C9}{lab:Int}(h:R0 u v T R F lab)(ok:Tq u T R) :
 Fn0 prog 39 [v] u fun r _=>r=.int .i64 (P2 T R F lab):=by
 obtain⟨a,c,b,d,e,f,rfl,hT,hR,hF⟩:=h;refine Fn0.o func39 ?_;by_cases t1:T.length=0
 ·exact G.eT T.length 0<|G.r (.int .i64 3) ⟨rfl,by rw[Bgp fun h=>h.1 t1]⟩
 refine G.eF T.length 0 ?_;by_cases t2:T.length<=12
 rotate_left
 ·exact G.gT T.length 12<|G.r (.int .i64 3) ⟨rfl,by rw[Bgp fun h=>t2 h.2.1]⟩
 refine G.gF T.length 12 ?_;by_cases Y:R.length=0
 ·exact G.eT R.length 0<|G.r (.int .i64 3) ⟨rfl,by rw[Bgp fun h=>h.2.2.1 Y]⟩
 refine G.eF R.length 0 ?_;by_cases Z:R.length<=6
 rotate_left
 ·exact G.gT R.length 6<|G.r (.int .i64 3) ⟨rfl,by rw[Bgp fun h=>Z h.2.2.2.1]⟩
 refine G.gF R.length 6 ?_;by_cases V:F.length<=8
 rotate_left
 ·exact G.gT F.length 8<|G.r (.int .i64 3) ⟨rfl,by rw[Bgp fun h=>V h.2.2.2.2]⟩
 refine G.gF F.length 8 ?_;have m:Bkd T R F:=⟨t1,t2,Y,Z,V⟩;refine G.buildU 100 1 8 (.nilFunc) [.func (.func 72) #[] #[],.func (.func 73) #[] #[],.func (.func 74) #[] #[]] kV (fun x X=>by
  simp only[A1g,A11,or_false]at X;rcases X with rfl|rfl|rfl<;>exact⟨rfl,A1o.1 rfl⟩) rfl oV mV mV ?_
 intro g u1 l1 e1;refine G.l (ι:=Nat) (fun i=>[(1,.p 0 0),(34,sV (some ⟨g,0,none⟩) 3 3),(35,iV (3:Nat)),(36,iV i)])
  (fun _=>[(0,⟨27,[sV a T.length c,sV b R.length d,sV e F.length f,iV lab]⟩)])
  (fun i u' m'=>i<=3/\(0<i->Bha T=0)/\(1<i->Bg8 T.length R=0)/\(2<i->P1 T lab F=0)/\m'=PH.mt) (fun i=>3-i) 0 ⟨oV,oV,oV,oV,rfl⟩ ?_
 rintro J i L u2 m2 l2 ⟨a1,H,Q,q3,rfl⟩;have t:=l1.trans l2;have K:=e1.mono l2;by_cases O:i<3
 ·refine G.lT i (3:Nat)<|G.a g 0 3 3 i 1 O ?_;rcases (by omega:i=0\/i=1\/i=2) with rfl|rfl|rfl
  ·refine G.lU none g (0+0*1) (.func (.func 72) #[] #[]) (K 0 _ rfl)<|G.c call72 (Blu (w:=.slice b R.length d) (x:=.slice e F.length f) (y:=.int .i64 lab) (hT.mono t) ok.att oV ⟨_,_,_,rfl⟩ ⟨_,_,_,rfl⟩ ⟨_,rfl⟩) ?_;rintro v3 u3 E rfl;by_cases z:Bha T=0
   rotate_left
   ·exact G.nT' (Bha T) 0 z<|G.r (.int .i64 (Bha T)) ⟨rfl,by rw[Blt m z]⟩
   exact G.nF (Bha T) 0<|G.p (0:Nat) 1 (0+1:Nat)<|G.b (L (0+1) _ _ _ cV (l2.trans E) ⟨oV,fun _=>z,oV,oV,rfl⟩ oV)
  ·refine G.lU none g (0+1*1) (.func (.func 73) #[] #[]) (K 1 _ rfl)<|G.c call73 (Bm0 (a0:=a) (n:=T.length) (c0:=c) (x:=.slice e F.length f) (y:=.int .i64 lab) (hR.mono t) (ok.mono t).rel oV oV oV ⟨_,_,_,rfl⟩ ⟨_,rfl⟩) ?_;rintro v3 u3 E rfl;by_cases z:Bg8 T.length R=0
   rotate_left
   ·exact G.nT' (Bg8 T.length R) 0 z<|G.r (.int .i64 (Bg8 T.length R)) ⟨rfl,by rw[Bjl m (H oV) z]⟩
   exact G.nF (Bg8 T.length R) 0<|G.p (1:Nat) 1 (1+1:Nat)<|G.b (L (1+1) _ _ _ cV (l2.trans E) ⟨oV,fun _=>H oV,fun _=>z,oV,rfl⟩ oV)
  refine G.lU none g (0+2*1) (.func (.func 74) #[] #[]) (K 2 _ rfl)<|G.c call74 (Bok (w:=.slice b R.length d) (lab:=lab) (hT.mono t) (hF.mono t) oV oV ⟨_,_,_,rfl⟩) ?_;rintro v3 u3 E rfl;by_cases z:P1 T lab F=0
  rotate_left
  ·exact G.nT' (P1 T lab F) 0 z<|G.r (.int .i64 (P1 T lab F)) ⟨rfl,by rw[Bkz m (H oV) (Q oV) z]⟩
  exact G.nF (P1 T lab F) 0<|G.p (2:Nat) 1 (2+1:Nat)<|G.b (L (2+1) _ _ _ cV (l2.trans E) ⟨oV,fun _=>H oV,fun _=>Q oV,fun _=>z,rfl⟩ oV)
 obtain rfl:i=3:=oV;refine G.lF (3:Nat) (3:Nat) ?_;rw[Bli m (H oV) (Q oV) (q3 oV)];unfold Bil;by_cases lo:lab < -1
 ·exact G.lT' lab (-1) lo<|G.r (.int .i64 2) ⟨rfl,by rw[if_pos (.inl lo)]⟩
 refine G.lF' lab (-1) lo ?_;by_cases hi:lab≥T.length
 ·exact G.hT' lab T.length hi<|G.r (.int .i64 2) ⟨rfl,by rw[if_pos (.inr hi)]⟩
 refine G.hF' lab T.length hi ?_;rw[if_neg oV];by_cases h0:0<=lab
 rotate_left
 ·exact G.hF' lab 0 h0<|G.r (.int .i64 0) ⟨rfl,by rw[if_neg (fun h=>h0 h.1)]⟩
 refine G.hT' lab 0 h0 ?_;obtain⟨l,rfl⟩:∃ l:Nat,lab=(l:Int):=⟨lab.toNat,oV⟩;have W:T[l]?=some T[l]:=A01 oV;have N:T.getD ((l:Int)).toNat ([],0)=T[l]:=by rw[A23,A02,W];rfl
 rw[N];obtain⟨I,P,rfl,U⟩:=Ac.at' (hT.mono t) (j:=l) (e:=Bgy T[l]) (by simp[W]);generalize T[l]=q at U;refine G.a I P T.length c l 2 oV<|G.f 73 I (P+l*2) 1 1<|G.lU none I (P+l*2+1) (.int .i64 q.2) (Bin U) ?_;by_cases C:q.2=2
 ·exact G.nF' q.2 2 (fun h=>h C)<|G.r (.int .i64 0) ⟨rfl,by rw[if_neg (fun h=>h.2 C)]⟩
 exact G.nT' q.2 2 C<|G.r (.int .i64 7) ⟨rfl,by rw[if_pos ⟨h0,C⟩]⟩
end
end Go.Proofs.YtnjlhkppabfebaaGreatDoor
