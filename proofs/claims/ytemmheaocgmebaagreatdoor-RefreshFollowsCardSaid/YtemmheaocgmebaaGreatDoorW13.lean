/- Parts of one proof, joined by a program. -/
import Derived.Test.YtemmheaocgmebaaGreatDoorW12
set_option linter.defProp false
set_option linter.unusedVariables false
set_option linter.unusedSimpArgs false
set_option linter.unusedSectionVars false
set_option maxHeartbeats 16000000
namespace Go.Proofs.YtemmheaocgmebaaGreatDoor
open Go.Proofs.Tryz
open Go.RowKit Go.MapKept
def A7f:=@Rat.intCast_inj
section
variable {es:zV}{g i:Nat}{l:List Arr}{t:TypeId}
def Kq (g:Nat)(t:TypeId)(es:zV):Arr:=⟨.slice (zA g) es.length es.length,t,1,es⟩
def U6 (es:zV):Prop:=∀ x∈es,Ax x=true/\x.cells = #[x]
def R1 {m:PH}(j:m g=none)(e:U6 es):(Kq g t es).At m (m.upd g (.cells es.toArray t (0,0))):=by
 refine⟨Ap1 e,.inr ⟨g,es.length,[],j,?_,rfl,A08 _,?_,mV⟩⟩
 ·show _=m.upd g (.cells (A2 es++[]).toArray t (0,0));rw[Lz fun x h=>(e x h).2,A1x]
 show (A2 es++[]).length=es.length*1;rw[Lz fun x h=>(e x h).2,A1x,A50]
def Alg {m0 m:PH}(h:(Kq g t es).At m0 m)(H:U6 es)(Q:es≠[]):m0 g=none/\m=m0.upd g (.cells es.toArray t (0,0)):=by
 rcases h.2 with ⟨h,_,_⟩|⟨L,cap,rest,z,e,E,J,j,_⟩
 ·cases h
 obtain⟨⟨rfl,_,_⟩,_,rfl⟩:=E;simp only[Kq]at e j;rw[Lz fun x I=>(H x I).2]at e j;have:rest = []:=by simp_all
 subst this;rw[A1x]at e;exact⟨z,e⟩
def M6 {m:PH}(h:Bag m l)(hi:l[i]?=some (Kq g t es))(z:U6 es)(j:es≠[]):m g=some (.cells es.toArray t (0,0)):=by
 obtain⟨m0,e,_⟩:=h.focus i hi;rw[(Alg e z j).2,Ab]
def Cg {m:PH}{i g j:Nat}{x:Value}(h:Bag m l)(hi:l[i]?=some (Kq g t es))(e:es[j]?=some x):ElP m g (0+j*1) x:=h.el i hi rfl e
def Adr {m:PH}(h:Bag m l)(hi:l[i]?=some (Kq g t es))(E:U6 es)(z:es≠[]):ElP m g 0 (.agg es.toArray):=fun j x e=>by
 refine⟨_,_,_,M6 h hi E z,?_⟩;simpa[Value.cells] using e
section
variable [Cl] [Co] {P:Program} [A6 P] {fn:Func} {Post:Ce} {st:List KI×S} {u m:PH}
def G.storeOne {l:List Arr}(i g:Nat)(t:TypeId)(n:Nat)(es:zV)(e:Value)(h:Aj P (adv P st)=.store (some n) (.pointer (zA g)) e)(V:Bag m l)(hi:l[i]?=some (Kq g t es))(I:U6 es)(X:es≠[])(Y:es.length=n)(W:e.cells.size=n)(H:U6 e.cells.toList)
 (k:∀ J,Bag J (l.set i (Kq g t e.cells.toList))->G P fn Post (nx (adv P st) undef) u J):G P fn Post st u m:=by
 obtain⟨m0,U,j⟩:=V.focus i hi;obtain⟨L,E⟩:=Alg U I X;refine G.storeM n g 0 t es e h (by rw[E,Ab]) (fun x z=>(I x z).1) oV W (A1o.2 fun x z=>(H x z).1) ?_;have Q:m.upd g (.cells (es.take 0++e.cells.toList++es.drop (0+n)).toArray t (0,0))=m0.upd g (.cells e.cells.toList.toArray t (0,0)):=by
  rw[E,Dp,A2b oV];simp
 rw[Q];exact k _ (j _ _ (R1 L H))
end
def Ap5:Value:=.agg #[zN,zN,zN]
def Axe (F:List Al)(C:CF)(k:Nat)(q:Rat)(r:Value)(u m:PH):Prop :=
 (∃ e:Int,r=.tuple #[Ap5,zI e]/\(e=12/\k=0\/e=3/\k≠0/\∃ P,Nn F C P/\11<P.length)) \/
 (k≠0/\∃ (P:List Par) (pa:zP) (pc:Nat) (xa:zP) (xc:Nat) (ra:zP) (rc:Nat) (rows:List (Value×zV)),Nn F C P/\P.length<=11 /\
  r=.tuple #[.agg #[.slice pa P.length pc,.slice xa (P.length+1) xc,.slice ra (P.length+1) rc],zO]/\Ac u (.slice pa P.length pc) 2 (P.map Ap)/\rows.map (·.2)=(D0 q (Lh C P) (P.length+1)).map txV /\
  Bag m (Bu (.slice ra (P.length+1) rc,txV ((An P).map (Bh C)))::oT (.slice xa (P.length+1) xc) rows::rows.map Bu))
def Ia {a b c:zP}{n1 c1 n2 c2 n3 c3:Nat}:U6 [.slice a n1 c1,.slice b n2 c2,.slice c n3 c3]:=fun x e=>by
 simp only[A1g,A11,or_false]at e;rcases e with rfl|rfl|rfl<;>exact⟨rfl,rfl⟩
def Gf {z:Int}:U6 [zI z]:=fun x e=>by
 simp only[A1g,A11,or_false]at e;subst e;exact⟨rfl,rfl⟩
def Aj8 {m:PH}{h j:Nat}{e:Int}(z:j≠h)(E:e≠0)(H:m j=some (.cells #[zI e] 39 (0,0))):ElP (K9 m h e) h 0 Ap5/\ElP (K9 m h e) j 0 (zI e):=by
 unfold K9;rw[if_neg E];refine⟨fun i x hi=>⟨_,_,_,Ab _ _ _,by simpa[Ap5,Value.cells] using hi⟩,fun i x hi=>⟨#[zI e],_,_,by rw[Ad _ _ z,H],by simpa[Value.cells] using hi⟩⟩
section
variable {u:PH} {v cv:Value} {T:zC} {R:List Br} {F:List Al} {lab:Int} {C:CF} {K k:Nat} {q:Rat}
def Aam.cellDe (h:Aam u v cv T R F lab C K k)(e f:Option Par):De 75 18 (As C e f):=by
 cases e<;>cases f
 ·show De 75 18 C.c;rw[h.mom.c];exact (De.nat (a:=2) (by have:=h.mom.lt;omega)).mono oV oV
 ·exact h.mom.s _
 ·exact h.mom.s _
 exact h.mom.t _
theorem Ahm (ht:Hx u)(h:Aam u v cv T R F lab C K k)(hq:Ay8 q) :
 Ag prog 52 [v,cv,zS (Ae q)] u PH.mt fun r u' m'=>Axe F C k q r u' m':=by
 have ax:=An9 h hq;have ay:=h.cellDe;obtain⟨xa,xc,xb,xd,xe,xf,rfl,_⟩:=id h.sch;obtain⟨a1,n1,c1,a2,n2,c2,rfl⟩:=id h.cof.opn;have ap:=h.p24;refine Ag.o func52<|G.go 7<|G.pub 2 57 [zN,zN,zN] kV kV ?_;intro H b7 az;refine G.pub 3 39 [zO] kV kV ?_;intro Q b4 a3;have ag:Bag ((PH.mt.upd H (.cells #[zN,zN,zN] 57 (0,0))).upd Q (.cells #[zO] 39 (0,0))) [Kq Q 39 [zO],Kq H 57 [zN,zN,zN]] :=
  ⟨_,R1 a3 Gf,PH.mt,R1 az Ia,trivial⟩
 have ak:Q≠H:=fun e=>by rw[e,Ab]at a3;cases a3
 refine G.go 1<|G.off (d:=9) (fn:=.func 115) (vs:=[.pointer (zA Q),.pointer (zA H)]) kV kV kV ?_;obtain⟨B,hB⟩:∃ B:Co,B=⟨[Zs (.func 115) [.pointer (zA Q),.pointer (zA H)]]⟩:=⟨_,rfl⟩;rw[<-hB];have ab:B.dl = [Zs (.func 115) [.pointer (zA Q),.pointer (zA H)]]:=by subst hB;rfl
 clear hB;have a4:∀ w,(invoke (Zs (.func 115) [.pointer (zA Q),.pointer (zA H)]).target (Zs (.func 115) [.pointer (zA Q),.pointer (zA H)]).args).run prog w=.ok (.enter 115 [Value.pointer (zA Q),.pointer (zA H)].toArray) w:=fun w=>by
  simp[invoke,Zs]
 refine G.callO _ _ kV call116 ax ?_;rintro v1 u1 mc l1 ⟨P,pa,pc,Y,U,ra,rc,E,a7,rfl,hL,z,I⟩ a6;have b3:=ap P a7;have a9:=Bag.perm (A5r) (Bag.or ag I a6);rw[A4x,A4x,A3q]at a9;clear ag I a6;refine G.storeOne 1 H 57 3 [zN,zN,zN] (.agg #[.slice pa P.length pc,.slice Y (P.length+1) U,.slice ra (P.length+1) rc]) kV a9 rfl Ia mV rfl rfl Ia ?_;intro m3 ah;refine G.storeOne 0 Q 39 1 [zO] (zI (if k=0 then 12 else 0)) kV ah rfl Gf mV rfl rfl Gf ?_;intro m4 L;clear a9 ah;simp only[A2j,A2p,Value.cells]at L;refine G.loadM none Q 0 (zI (if k=0 then 12 else 0)) kV rfl (Cg (j:=0) L (i:=0) rfl rfl) ?_;by_cases h0:k=0
 ·rw[if_pos h0]at L⊢;refine G.nT 12 0 ?_;have Z:=M6 L (i:=1) rfl Ia mV;have W:=M6 L (i:=0) rfl Gf mV;refine G.back2 19 20 (some 3) none H Q 57 39 (.agg #[.slice pa P.length pc,.slice Y (P.length+1) U,.slice ra (P.length+1) rc]) (zI 12) 3 1 kV (fun _=>kV) (fun _=>kV) (fun _=>kV) kV rfl rfl Z W rfl rfl rfl rfl<|G.retD ab (K:=fun u' m'=>u'=u1/\m'=K9 m4 H 12) rfl a4 kV (Aja W Z rfl rfl rfl) ?_;rintro u' m' _ ⟨rfl,rfl⟩;obtain⟨q1,q2⟩:=Aj8 (e:=12) ak fV W;exact⟨[Ap5,zI 12],PH.mt,⟨.inr ⟨6,57,H,0,some 3,rfl,kV,kV,rfl,q1⟩,.inr ⟨7,39,Q,0,none,rfl,kV,kV,rfl,q2⟩,trivial⟩,PH.mt_le _,.inl ⟨12,rfl,.inl ⟨rfl,h0⟩⟩⟩
 rw[if_neg h0]at L⊢;refine G.nF 0 0<|G.f 57 H 0 1 1<|G.loadM none H (0+1) (.slice Y (P.length+1) U) kV rfl (Cg (j:=1) L (i:=1) rfl rfl) ?_;by_cases b5:P.length+1>12
 ·refine G.gT (P.length+1:Nat) 12<|G.loadM (some 3) H 0 (.agg #[.slice pa P.length pc,.slice Y (P.length+1) U,.slice ra (P.length+1) rc]) kV rfl (Adr L (i:=1) rfl Ia mV)<|G.storeOne 1 H 57 3 _ (.agg #[.slice pa P.length pc,.slice Y (P.length+1) U,.slice ra (P.length+1) rc]) kV L rfl Ia mV rfl rfl Ia ?_;intro m5 aw;refine G.storeOne 0 Q 39 1 [zO] (zI 3) kV aw rfl Gf mV rfl rfl Gf ?_;intro m6 a0;simp only[A2j,A2p,Value.cells]at a0;have Z:=M6 a0 (i:=1) rfl Ia mV;have W:=M6 a0 (i:=0) rfl Gf mV;refine G.retD ab (K:=fun u' m'=>u'=u1/\m'=K9 m6 H 3) rfl a4 kV (Aja W Z rfl rfl rfl) ?_;rintro u' m' _ ⟨rfl,rfl⟩;obtain⟨q1,q2⟩:=Aj8 (e:=3) ak fV W;exact⟨[Ap5,zI 3],PH.mt,⟨.inr ⟨6,57,H,0,some 3,rfl,kV,kV,rfl,q1⟩,.inr ⟨7,39,Q,0,none,rfl,kV,kV,rfl,q2⟩,trivial⟩,PH.mt_le _,.inl ⟨3,rfl,.inr ⟨rfl,h0,P,a7,oV⟩⟩⟩
 refine G.gF (P.length+1:Nat) 12<|G.f 57 H 0 0 0<|G.loadM none H (0+0) (.slice pa P.length pc) kV rfl (Cg (j:=0) L (i:=1) rfl rfl) ?_;have hX:=Sj C P;generalize af:Lh C P=X at z hX;have av:∀ i j,i<P.length+1->j<P.length+1->De 75 18 (en X i j):=fun i j hi hj=>by rw[<-af,Abs C P hi hj];exact ay _ _
 refine G.l (ι:=Nat×List (Value×zV)) (fun i=>[(2,tV (Ae q)),(6,.v (.pointer (zA H))),(7,.v (.pointer (zA Q))),(28,iV P.length),(29,iV i.1)]) (fun _=>[])
  (fun i u' m'=>i.1<=P.length/\i.2.map (·.2)=(D0 q X (i.1+1)).map txV/\Bag m' (Kq Q 39 [zO]::Kq H 57 [.slice pa P.length pc,.slice Y (P.length+1) U,.slice ra (P.length+1) rc]::Bu (.slice ra (P.length+1) rc,txV ((An P).map (Bh C)))::oT (.slice Y (P.length+1) U) i.2::i.2.map Bu)) (fun i=>P.length-i.1)
  (0,E) ⟨A1t _,z,L⟩ ?_
 clear L z;rintro J ⟨i,E⟩ hJ u5 m5 l5 ⟨hi,z,I⟩;simp only at hi z I hJ;obtain⟨mE,hE,mN,hN,hR⟩:=id I;have ac:PH.le mN m5:=(Ad3 hN).trans (Ad3 hE);have a8:=Nx (q:=q) hX (i+1) oV;by_cases b8:i<P.length
 ·refine G.lT i P.length ?_;have b1:E.length=P.length+1:=by have:=congrArg List.length z;rw[A03,A03,a8.1]at this;exact this
  obtain⟨go,co,eo⟩:=hR.ptr 1 rfl (fun e=>by
   have:(E.map (·.1)).length=0:=by rw[show E.map (·.1) = [] from e];rfl
   rw[A03]at this;omega)
  have ao:(Value.slice Y (P.length+1) U)=.slice (zA go) (P.length+1) co:=by
   have e1:(oT (.slice Y (P.length+1) U) E).v=Value.slice Y (P.length+1) U:=rfl;rw[e1]at eo;rw[eo];have:(oT (.slice Y (P.length+1) U) E).es.length=P.length+1:=by show (E.map (·.1)).length=_;rw[A03,b1]
   rw[this]
  cases ao;obtain⟨gi,ci,am,e1,e2⟩:=Ayw hR z a8 (show i+1<P.length+1 by omega);have aj:gR (gM (D0 q X (i+1)) (i+1)) (i+1)=en X (i+1) (i+1):=by
   have:=Vv (q:=q) hX (i+1) oV (i+1) (i+1) oV oV;rw[if_neg oV]at this;show en (D0 q X (i+1)) (i+1) (i+1)=_;rw[this];grind
  have hd:=av (i+1) (i+1) oV oV;have ad:=e2 (i+1) oV;rw[aj]at ad;have a5:ElP m5 H (0+1) (.slice (zA go) (P.length+1) U):=Cg (j:=1) I (i:=1) rfl rfl;refine G.f 57 H 0 1 1<|G.loadM none H (0+1) (.slice (zA go) (P.length+1) U) kV rfl a5<|G.i i<|G.a go 0 (P.length+1) U (i+1) 1 oV<|G.loadM none go (0+(i+1)*1) (.slice (zA gi) (P.length+1) ci) kV rfl (e1.mono ac)<|G.i i<|G.f 57 H 0 1 1<|G.loadM none H (0+1) (.slice (zA go) (P.length+1) U) kV rfl a5<|G.i i<|G.a go 0 (P.length+1) U (i+1) 1 oV<|G.loadM none go (0+(i+1)*1) (.slice (zA gi) (P.length+1) ci) kV rfl (e1.mono ac)<|G.i i<|G.a gi 0 (P.length+1) ci (i+1) 1 oV<|G.loadM none gi (0+(i+1)*1) (zS (Ae (en X (i+1) (i+1)))) kV rfl (ad.mono ac) ?_;have ha:=hd.add hq.de (f:=78) oV oV;refine G.c call117 (Atv ((ht.mono l1).mono l5) (hd.tx oV oV oV oV) hq.tx (ha.tx oV oV oV oV)) ?_;rintro v6 u6 l6 rfl;refine G.a gi 0 (P.length+1) ci (i+1) 1 oV ?_;obtain⟨m0,an,al⟩:=I.focus (i+5) (x:=Bu (.slice (zA gi) (P.length+1) ci,txV (gM (D0 q X (i+1)) (i+1)))) (by simp[am]);rw[D6]at an;have b6:(txV (gM (D0 q X (i+1)) (i+1))).length=P.length+1:=by rw[Bgm,a8.2 (i+1) oV]
  refine G.storeA 1 m0 (txV (gM (D0 q X (i+1)) (i+1))) gi (P.length+1) ci (i+1) (zS (Ae (en X (i+1) (i+1)+q))) kV an oV rfl rfl ?_;intro m7 ae;have es:(txV (gM (D0 q X (i+1)) (i+1))).set (i+1) (zS (Ae (en X (i+1) (i+1)+q)))=txV ((gM (D0 q X (i+1)) (i+1)).set (i+1) (gR (gM (D0 q X (i+1)) (i+1)) (i+1)+q)):=by
   rw[aj];unfold txV;rw[A2g]
  rw[es]at ae;have V:=al (Bu (.slice (zA gi) (P.length+1) ci,txV ((gM (D0 q X (i+1)) (i+1)).set (i+1) (gR (gM (D0 q X (i+1)) (i+1)) (i+1)+q)))) m7 ae;have ai:Bag m7 (Kq Q 39 [zO]::Kq H 57 [.slice pa P.length pc,.slice (zA go) (P.length+1) U,.slice ra (P.length+1) rc]::Bu (.slice ra (P.length+1) rc,txV ((An P).map (Bh C))) ::
   oT (.slice (zA go) (P.length+1) U) (E.set (i+1) (.slice (zA gi) (P.length+1) ci,txV ((gM (D0 q X (i+1)) (i+1)).set (i+1) (gR (gM (D0 q X (i+1)) (i+1)) (i+1)+q))))::(E.set (i+1) (.slice (zA gi) (P.length+1) ci,txV ((gM (D0 q X (i+1)) (i+1)).set (i+1) (gR (gM (D0 q X (i+1)) (i+1)) (i+1)+q)))).map Bu):=by
   rw[Aho am,A2g];simpa using V
  refine G.storeOne 0 Q 39 1 [zO] zO kV ai rfl Gf mV rfl rfl Gf ?_;intro m8 aa;simp only[A2p,Value.cells]at aa;refine G.loadM none Q 0 zO kV rfl (Cg (j:=0) aa (i:=0) rfl rfl)<|G.nF 0 0<|G.i i<|G.b (hJ (i+1,E.set (i+1) (.slice (zA gi) (P.length+1) ci,txV ((gM (D0 q X (i+1)) (i+1)).set (i+1) (gR (gM (D0 q X (i+1)) (i+1)) (i+1)+q)))) _ _ _ cV (l5.trans l6) ⟨dV,?_,aa⟩ dV);rw[A2g,z,<-A2g];rfl
 obtain rfl:i=P.length:=oV
 refine G.lF P.length P.length<|G.loadM (some 3) H 0 (.agg #[.slice pa P.length pc,.slice Y (P.length+1) U,.slice ra (P.length+1) rc]) kV rfl (Adr I (i:=1) rfl Ia mV)<|G.storeOne 1 H 57 3 _ (.agg #[.slice pa P.length pc,.slice Y (P.length+1) U,.slice ra (P.length+1) rc]) kV I rfl Ia mV rfl rfl Ia ?_;intro m6 a0;refine G.storeOne 0 Q 39 1 [zO] zO kV a0 rfl Gf mV rfl rfl Gf ?_;intro m7 V;simp only[Value.cells]at V;have Z:=M6 V (i:=1) rfl Ia mV;have W:=M6 V (i:=0) rfl Gf mV;refine G.retD ab (K:=fun u' m'=>u'=u5/\m'=K9 m7 H 0) rfl a4 kV (Aja W Z rfl rfl rfl) ?_;intro u' m' _ hK;have b0:m'=m7:=hK.2.trans (if_pos rfl);rw[hK.1,b0];obtain⟨b9,aq,b2,ar,au⟩:=id V;have q1:=Adr V (i:=1) rfl Ia mV;have q2:=Cg (j:=0) V (i:=0) rfl rfl;exact⟨[.agg #[.slice pa P.length pc,.slice Y (P.length+1) U,.slice ra (P.length+1) rc],zO],b2,⟨.inr ⟨6,57,H,0,some 3,rfl,kV,kV,rfl,q1⟩,.inr ⟨7,39,Q,0,none,rfl,kV,kV,rfl,q2⟩,trivial⟩,(Ad3 ar).trans (Ad3 aq),
  .inr ⟨h0,P,pa,pc,Y,U,ra,rc,E,a7,oV,rfl,hL.mono l5,by rw[af];exact z,au⟩⟩
end
end
section
section
variable {P:List Par} {C:CF} {q:Rat}
theorem Aum (I:P.Nodup)(K:0<C.c)(Q:0<q)(u:∀ z,0<=Dh z P C)(y:Nat->Rat)(h:∀ i,i<(Eh C P q).length->Bb (Eh C P q).length (fun j=>en (Eh C P q) i j*y j)=0):∀ j,j<(Eh C P q).length->y j=0:=by
 have F:=Rx (P:=P) (C:=C) (q:=q);have E:∀ j,j<P.length+1->cfE (y 0) (P.zip ((List.range P.length).map fun j=>y (j+1))) ((An P).getD j none)=y j:=fun j m=>by
  rw[Ar2 I mV j m];cases j with
  |zero=>rfl
  |succ j=>exact Aep (by rw[A7r,A1a,A31 oV];rfl)
 generalize cfE (y 0) (P.zip ((List.range P.length).map fun j=>y (j+1)))=bE at E;have R:∀ e∈An P,bE e=0:=Ast Q K u fun e L=>by
  obtain⟨i,hi,rfl⟩:=A3d.1 L;have H:(An P)[i]=(An P).getD i none:=by rw[A02,A01 hi];rfl
  rw[H];rw[Cp]at hi;have J:=h i (by rw[F.1];exact hi);rw[F.1,Ah (g:=fun j=>As C ((An P).getD i none) ((An P).getD j none)*bE ((An P).getD j none)+(if i=j/\0<i then q else 0)*y j) (fun j m=>by
   rw[N8 hi m,E j m];grind),F7,Agy]at J
  have t:P7 q bE ((An P).getD i none)=if i<P.length+1/\0<i then q*y i else 0:=by
   cases i with
   |zero=>rw[if_neg oV];rfl
   |succ j =>
    rw[if_pos ⟨hi,oV⟩,<-E _ hi];unfold An;rw[A6b,A02,A1a,A01 oV];rfl
  rw[Qa _ (An P) none,Cp,t];exact J
 intro j m;rw[F.1]at m;rw[<-E j m];exact R _ (Alq m)
def At1 (h:∀ r∈Eh C P q,∀ x∈r,Th x)(t:P.length<=11):Sq (Eh C P q):=by
 have e:=Rx (P:=P) (C:=C) (q:=q);refine⟨by rw[e.1];omega,fun r j=>?_,fun r j x m=>(h r j x m).tx⟩;obtain⟨i,hi,rfl⟩:=A3d.1 j;have:=e.2 i (by have:=e.1;omega);rw[Ch hi]at this;rw[this,e.1]
end
end
theorem Ad4 {α:Type}[DecidableEq α]{f:α->Rat}{x:α}:∀ {l:List α},l.Nodup->x∈l->B9 (fun y=>if y=x then f y else 0) l=f x
 |y::l,hn,hx=>by
  obtain⟨j,m⟩:=A4j.1 hn;show (if y=x then f y else 0)+B9 (fun y=>if y=x then f y else 0) l=f x;by_cases e:y=x
  ·subst e;rw[if_pos rfl,Fv fun z t=>if_neg fun (e:z=y)=>j (e▸t)];grind
  rw[if_neg e,Ad4 m ((A1g.1 hx).resolve_left fun h=>e h.symm)];grind
def Axa (n:Nat)(X:zM)(y:Nat->Rat):Prop:=∀ i,i<n->Bb n (fun j=>en X i j*y j)=0
theorem Aq3 {n w r c p:Nat}{X:zM}{y:Nat->Rat}(h:Rec n w X)(T:n<=w)(t:r<n)(hp:p<n)(R:c<n)(h0:en X p c≠0)(P:Axa n (J8 X r c p) y):Axa n X y:=by
 have F:Rec n w (if p=r then X else If X p r):=by
  split
  ·exact h
  exact Mk h hp t
 have m:∀ i j,en (if p=r then X else If X p r) i j=if i=r then en X p j else if i=p then en X r j else en X i j:=fun i j=>by
  split
  ·rename_i e;subst e;split
   ·rename_i e;rw[e]
   rfl
  rw[Si h hp t]
 have E:∀ k j,k<n->j<w->en (J8 X r c p) k j=if k=r then en X p j*(1/en X p c) else (if k=p then en X r j else en X k j)-(if k=p then en X r c else en X k c)*(en X p j*(1/en X p c)):=by
  intro k j K J;unfold J8;rw[h.1,Acm t oV n 0 _ oV (R8 F t) k j J,Jd F t k j,Jd F t k c,Jd F t r j,if_pos rfl,m k j,m k c,m r j,m r c,if_pos rfl,if_pos rfl];by_cases e:k=r
  ·rw[if_neg oV,if_pos e,if_pos e,if_pos e]
  rw[if_pos ⟨oV,oV,e⟩,if_neg e,if_neg e,if_neg e,if_neg e,if_neg e]
 have Q:en X p c*(1/en X p c)=1:=by grind
 generalize 1/en X p c=q at *
 have C:Bb n (fun j=>en X p j*y j)=0:=by
  have u:=P r t;rw[Ah (g:=fun j=>(en X p j*q)*y j) fun j J=>by rw[E r j t oV,if_pos rfl],Afg]at u;generalize Bb n (fun j=>en X p j*y j)=S at *
  have:en X p c*(q*S)=en X p c*0:=by rw[u]
  grind
 have z:∀ k,k<n->k≠r->Bb n (fun j=>(if k=p then en X r j else en X k j)*y j)=0:=by
  intro k K L;have u:=P k K;rw[Ah (g:=fun j=>((if k=p then en X r j else en X k j)-((if k=p then en X r c else en X k c)*q)*en X p j)*y j) fun j J=>by rw[E k j K oV,if_neg L];grind,Aes,C]at u;grind
 intro i hi;by_cases H:i=p
 ·rw[H];exact C
 by_cases I:i=r
 ·have u:=z p hp (fun e=>H (by rw[I,e]));rw[I];simpa using u
 have u:=z i hi I;simpa[H] using u
def Aak (n i:Nat)(f:Nat->Rat)(hi:i<n):Bb n (fun k=>if k=i then f k else 0)=f i:=by
 unfold Bb;exact Ad4 (f:=f) List.nodup_range (A6q.2 hi)
theorem Af4 {n w:Nat}(F:n<=w):∀ f c P X d,c+f=n->P.length=c->Rec n w X->(∀ i j,i<n->j<c->en X i j=if i=j then 1 else 0) ->
 (Bn f c P X d).1.length<n->∃ y,Axa n X y/\∃ j,j<n/\y j≠0
 |0,c,P,X,d,hc,hP,h,hu,t=>by
  have K:Bn 0 c P X d=(P,X,d):=rfl;rw[K]at t;simp only at t;omega
 |f+1,c,P,X,d,hc,hP,h,hu,t=>by
  revert t
  unfold Bn;rw[if_pos (show P.length<X.length by rw[h.1];omega)];obtain⟨V,W⟩:=Ss X c (X.length-P.length) P.length;have Q:=Yq X c (X.length-P.length) P.length;have R:=W7 X c (X.length-P.length) P.length;generalize El X c (X.length-P.length) P.length=p at *
  have U:=h.1;split
  ·rename_i hpx;intro _;have L:∀ i,c<=i->i<n->en X i c=0:=fun i H I=>Q i oV oV;obtain⟨y,J⟩:∃ y:Nat->Rat,y=fun j=>if j<c then -(en X j c) else if j=c then 1 else 0:=⟨_,rfl⟩
   refine⟨y,fun i hi=>?_,c,oV,?_⟩
   ·rw[Ah (g:=fun j=>(if j=c then en X i c else 0)+if j=i then (if i<c then -(en X i c) else 0) else 0) fun j T=>by
     rw[J];dsimp only;by_cases C:j<c
     ·rw[if_pos C,hu i j hi C,if_neg (show ¬ j=c by omega)];by_cases m:i=j
      ·rw[if_pos m,if_pos m.symm,if_pos oV,m];grind
      rw[if_neg m,if_neg (Ne.symm m)];grind
     rw[if_neg C];by_cases m:j=c
     ·rw[if_pos m,if_pos m,m];by_cases z:c=i
      ·rw[if_pos z,if_neg oV];grind
      rw[if_neg z];grind
     rw[if_neg m,if_neg m];by_cases z:j=i
     ·rw[if_pos z,if_neg oV];grind
     rw[if_neg z];grind,F7,Aak n c (fun _=>en X i c) oV,Aak n i (fun _=>if i<c then -(en X i c) else 0) hi]
    by_cases e:i<c
    ·rw[if_pos e];grind
    rw[if_neg e,L i oV hi];decide +kernel
   rw[J];dsimp only;rw[if_neg (Nat.lt_irrefl _),if_pos rfl];decide +kernel
  rename_i hpx;intro t;have u:p<n:=oV;have h0:=R oV;rw[hP]at t;have E:=Yt h F (show c<n by omega) u oV h0 hu;obtain⟨y,H,I⟩:=Af4 F f (c+1) (P++[c]) (J8 X c c p) _ oV (by simp[hP]) (Xw h oV u) E t;exact⟨y,Aq3 h F oV u oV h0 H,I⟩
section
variable {j:Nat}
def C6 (a:Nat->Nat->Rat):Nat->Nat->Nat->Rat
 |0,i,k=>a i k
 |j+1,i,k=>C6 a j i k-C6 a j i j/C6 a j j j*(C6 a j k j/C6 a j j j)*C6 a j j j
section
variable {n:Nat} {a:Nat->Nat->Rat}
theorem O9 (e:∀ i k,i<n->k<n->a i k=a k i):∀ j i k,i<n->k<n->C6 a j i k=C6 a j k i
 |0,i,k,hi,hk=>e i k hi hk
 |j+1,i,k,hi,hk=>by
  have:=O9 e j i k hi hk;unfold C6;rw[this];grind
def frm (n:Nat)(S:Nat->Nat->Rat)(x:Nat->Rat):Rat:=Bb n fun i=>x i*Bb n fun k=>S i k*x k
theorem Xh (e:j<n)(c:Rat)(g:Nat->Rat):Bb n (fun k=>(if k=j then c else 0)*g k)=c*g j:=by
 induction n with
 |zero=>omega
 |succ n ih =>
  rw[Ds];by_cases h:j<n
  ·rw[ih h,if_neg oV];grind
  obtain rfl:j=n:=oV;rw[if_pos rfl,Ah (g:=fun _=>(0:Rat)*0) fun k m=>by rw[if_neg oV];grind,B4];grind
theorem Ab2 {S:Nat->Nat->Rat}(e:j<n)(t:∀ i k,i<n->k<n->S i k=S k i)(x:Nat->Rat)(c:Rat) :
 frm n S (fun i=>x i+if i=j then c else 0)=frm n S x+2*c*Bb n (fun k=>S j k*x k)+c*c*S j j:=by
 have h:∀ i,i<n->Bb n (fun k=>S i k*(x k+if k=j then c else 0))=Bb n (fun k=>S i k*x k)+c*S i j:=fun i _=>by
  rw[Ah (g:=fun k=>S i k*x k+(if k=j then c else 0)*S i k) fun k _=>by grind,F7,Xh e]
 have m:Bb n (fun i=>x i*S i j)=Bb n fun k=>S j k*x k:=Ah fun i hi=>by rw[t i j hi e];grind
 unfold frm;rw[Ah (g:=fun i=>x i*Bb n (fun k=>S i k*x k)+(c*(x i*S i j)+(if i=j then c else 0)*(Bb n (fun k=>S i k*x k)+c*S i j))) fun i hi=>by rw[h i hi];grind,
  F7,F7,B4,Xh e,m]
 grind
theorem Ash (t:j<n)(E:∀ i k,i<n->k<n->a i k=a k i)(hp:C6 a j j j≠0)(x:Nat->Rat) :
 frm n (C6 a (j+1)) x=frm n (C6 a j) x-Bb n (fun k=>C6 a j j k*x k)*Bb n (fun k=>C6 a j j k*x k)/C6 a j j j:=by
 obtain⟨p,e⟩:∃ p,C6 a j j j=p:=⟨_,rfl⟩;obtain⟨R,m⟩:∃ R,Bb n (fun k=>C6 a j j k*x k)=R:=⟨_,rfl⟩;have h:=O9 E j;have u:∀ i,i<n->Bb n (fun k=>C6 a (j+1) i k*x k)=Bb n (fun k=>C6 a j i k*x k)-C6 a j i j/p*R:=fun i hi=>by
  rw[Ah (g:=fun k=>C6 a j i k*x k-C6 a j i j/p*(C6 a j j k*x k)) fun k C=>by
   show (C6 a j i k-C6 a j i j/C6 a j j j*(C6 a j k j/C6 a j j j)*C6 a j j j)*x k=_;rw[h k j C t,e]at *
   grind,Y8,B4,m]
 have z:Bb n (fun i=>x i*C6 a j i j)=R:=by rw[<-m];exact Ah fun i hi=>by rw[h i j hi t];grind
 rw[m,e];unfold frm;rw[Ah (g:=fun i=>x i*Bb n (fun k=>C6 a j i k*x k)-R/p*(x i*C6 a j i j)) fun i hi=>by rw[u i hi];grind,Y8,B4,z];grind
theorem Aru (u:∀ i k,i<n->k<n->a i k=a k i)(hp:∀ x,(∃ i,i<n/\x i≠0)->0<frm n a x):∀ j,j<=n->∀ x:Nat->Rat,(∀ i,i<j->x i=0)->(∃ i,i<n/\x i≠0)->0<frm n (C6 a j) x
 |0,_,x,_,hx=>hp x hx
 |j+1,hj,x,h0,⟨i,hi,hxi⟩=>by
  have m:j<n:=oV
  have C:=Aru u hp j oV;have h:0<C6 a j j j:=by
   have z:=C (fun i=>0+if i=j then 1 else 0) (fun i t=>by rw[if_neg oV];grind) ⟨j,m,by rw[if_pos rfl];decide +kernel⟩;rw[Ab2 m (O9 u j) (fun _=>0) 1]at z;have E:frm n (C6 a j) (fun _=>0)=0:=by
    unfold frm;rw[Ah (g:=fun _=>(0:Rat)*0) fun i _=>by grind,B4];grind
   have F:Bb n (fun k=>C6 a j j k*(0:Rat))=0:=by
    rw[Ah (g:=fun _=>(0:Rat)*0) fun i _=>by grind,B4];grind
   rw[E,F]at z;grind
  rw[Ash m u (fun e=>by rw[e]at h;exact absurd h jV) x];have t:i≠j:=fun e=>hxi (h0 i oV);have H:=C (fun i=>x i+if i=j then -(Bb n (fun k=>C6 a j j k*x k)/C6 a j j j) else 0) (fun i t=>by rw[if_neg oV,h0 i oV];grind) ⟨i,hi,by rw[if_neg t];grind⟩;rw[Ab2 m (O9 u j)]at H;generalize Bb n (fun k=>C6 a j j k*x k)=R at *
  generalize C6 a j j j=p at *
  have I:p≠0:=fun e=>by rw[e]at h;exact absurd h jV
  have e:2 * -(R/p)*R + -(R/p) * -(R/p)*p = -(R*R/p):=by grind
  grind
theorem Akt (m:∀ i k,i<n->k<n->a i k=a k i)(hp:∀ x,(∃ i,i<n/\x i≠0)->0<frm n a x)(h:j<n):0<C6 a j j j:=by
 have e:=Aru m hp j oV (fun i=>0+if i=j then 1 else 0) (fun i z=>by rw[if_neg oV];grind) ⟨j,h,by rw[if_pos rfl];decide +kernel⟩;rw[Ab2 h (O9 m j) (fun _=>0) 1]at e;have t:frm n (C6 a j) (fun _=>0)=0:=by
  unfold frm;rw[Ah (g:=fun _=>(0:Rat)*0) fun i _=>by grind,B4];grind
 have u:Bb n (fun k=>C6 a j j k*(0:Rat))=0:=by
  rw[Ah (g:=fun _=>(0:Rat)*0) fun i _=>by grind,B4];grind
 rw[t,u]at e;grind
end
end
section
variable {i:Nat}
def idN (i k:Nat):Rat:=if i=k then 1 else 0
def Uj (n:Nat)(X A:Nat->Nat->Rat)(i k:Nat):Rat:=Bb n fun j=>X i j*A j k
def Fy (n:Nat)(X:Nat->Nat->Rat)(x:Nat->Rat)(i:Nat):Rat:=Bb n fun j=>X i j*x j
def Vq (n:Nat)(x y:Nat->Rat):Rat:=Bb n fun j=>x j*y j
def Ac1 (n:Nat)(A:Nat->Nat->Rat):Prop:=∀ i k,i<n->k<n->A i k=A k i
def Fe (n:Nat)(X A:Nat->Nat->Rat):Prop:=∀ i k,i<n->k<n->Uj n X A i k=idN i k
def Xu (n:Nat)(A:Nat->Nat->Rat):Prop:=∀ y:Nat->Rat,(∀ i,i<n->Fy n A y i=0)->∀ i,i<n->y i=0
def Pe (n m:Nat)(f:Nat->Nat->Rat):Bb n (fun i=>Bb m fun j=>f i j)=Bb m fun j=>Bb n fun i=>f i j:=Z2 f _ _
def Jp (n:Nat)(f:Nat->Rat)(k:Rat):Bb n (fun i=>f i*k)=Bb n f*k:=Ls k _
section
variable {n:Nat} {X Y A B:Nat->Nat->Rat} {x y:Nat->Rat} {w:Rat}
def Ag9 (hi:i<n)(f:Nat->Rat):Bb n (fun j=>idN j i*f j)=f i:=by
 have:=Xh hi (1:Rat) f;rw[Rat.one_mul]at this;exact this
def Akw (hi:i<n)(f:Nat->Rat):Bb n (fun j=>f j*idN i j)=f i:=by
 rw[<-Ag9 hi f];exact Ah fun j _=>by
  unfold idN;by_cases e:i=j
  ·rw[if_pos e,if_pos e.symm];exact Rat.mul_comm ..
  rw[if_neg e,if_neg (Ne.symm e)];exact Rat.mul_comm ..
def O1 (i k:Nat):idN i k=idN k i:=by
 unfold idN;by_cases e:i=k
 ·rw[if_pos e,if_pos e.symm]
 rw[if_neg e,if_neg (Ne.symm e)]
theorem Aid (i k:Nat)(Z:Nat->Nat->Rat):Bb n (fun j=>X i j*Uj n A Z j k)=Bb n fun m=>Uj n X A i m*Z m k:=by
 have e:Bb n (fun j=>X i j*Uj n A Z j k)=Bb n fun j=>Bb n fun m=>X i j*(A j m*Z m k):=Ah fun j _=>by unfold Uj;rw[B4]
 rw[e,Pe];refine Ah fun m _=>?_;unfold Uj;rw[<-Jp];exact Ah fun j _=>by grind
def Adp (t:Fe n X A)(u:Fe n A Y):∀ i k,i<n->k<n->X i k=Y i k:=fun i k hi h=>by
 have e:=Aid (n:=n) (X:=X) (A:=A) i k Y;rw[Ah (g:=fun j=>X i j*idN k j) fun j z=>by rw[u j k z h,O1],Akw h,Ah (f:=fun m=>Uj n X A i m*Y m k) (g:=fun m=>idN m i*Y m k) fun m C=>by rw[t i m hi C,O1],Ag9 hi]at e;exact e
def Are (e:Ac1 n A)(h:Fe n X A):Fe n A (fun i k=>X k i):=fun i k hi t=>by
 rw[O1,<-h k i t hi];exact Ah fun j m=>by rw[e i j hi m];exact Rat.mul_comm ..
def Av2 (m:Ac1 n A)(h:Fe n A X):Fe n (fun i k=>X k i) A:=fun i k hi e=>by
 rw[O1,<-h k i e hi];exact Ah fun j t=>by rw[m k j e t];exact Rat.mul_comm ..
def Ak9 (e:Ac1 n A)(h:Fe n X A):Ac1 n X:=fun i k hi j=>Adp h (Are e h) i k hi j
def Tg (e:Ac1 n A)(h:Fe n X A):Fe n A X:=fun i k hi m=>by
 rw[<-Are e h i k hi m];exact Ah fun j t=>by rw[Ak9 e h j k t m]
def Apf (t:Ac1 n A)(h:Fe n A X):Fe n X A:=by
 have e:=Av2 t h;have m:=Adp e h;intro i k hi z;rw[<-e i k hi z];exact Ah fun j u=>by rw[<-m i j hi u]
def Aps (j:Ac1 n A)(h:Fe n X A)(e:Fe n Y A):∀ i k,i<n->k<n->X i k=Y i k:=Adp h (Tg j e)
def byN (n:Nat)(X:Nat->Nat->Rat)(x:Nat->Rat)(w:Rat):Rat:=1+w*Vq n x (Fy n X x)
def Vd (n:Nat)(X:Nat->Nat->Rat)(x:Nat->Rat)(w:Rat)(i k:Nat):Rat:=X i k + -(w/byN n X x w)*Fy n X x i*Fy n (fun i k=>X k i) x k
def Vc (A:Nat->Nat->Rat)(x:Nat->Rat)(w:Rat)(i k:Nat):Rat:=A i k+w*(x i*x k)
theorem Aqh (h:Fe n X A)(L:byN n X x w≠0):Fe n (Vd n X x w) (Vc A x w):=fun i k hi C=>by
 obtain⟨r,t⟩:∃ r,Fy n X x=r:=⟨_,rfl⟩;obtain⟨c,z⟩:∃ c,Fy n (fun i k=>X k i) x=c:=⟨_,rfl⟩;obtain⟨f,F⟩:∃ f,w/byN n X x w=f:=⟨_,rfl⟩;have H:Bb n (fun j=>c j*A j k)=x k:=by
  have u:Bb n (fun j=>c j*A j k)=Bb n fun j=>Bb n fun m=>X m j*x m*A j k:=Ah fun j _=>by rw[<-z];unfold Fy;rw[Jp]
  rw[u,Pe,Ah (g:=fun m=>x m*idN k m) fun m K=>by
   rw[Ah (g:=fun j=>x m*(X m j*A j k)) fun j _=>by grind,B4,show Bb n (fun j=>X m j*A j k)=idN m k from h m k K C,O1],Akw C]
 have I:Bb n (fun j=>c j*x j)=Vq n x r:=by
  have u:Bb n (fun j=>c j*x j)=Bb n fun j=>Bb n fun m=>X m j*x m*x j:=Ah fun j _=>by rw[<-z];unfold Fy;rw[Jp]
  rw[u,Pe];unfold Vq;refine Ah fun m _=>?_;rw[<-t];unfold Fy;rw[<-B4];exact Ah fun j _=>by grind
 have J:Bb n (fun j=>X i j*x j)=r i:=by rw[<-t];rfl
 have E:=h i k hi C;have e:f*byN n X x w=w:=by rw[<-F];grind
 unfold byN at e;rw[t]at e;unfold Uj at E⊢;rw[Ah (g:=fun j=>X i j*A j k+(w*x k)*(X i j*x j)+((-f*r i)*(c j*A j k)+(-f*r i*w*x k)*(c j*x j))) fun j _=>by
  unfold Vd Vc;rw[t,z,F];grind,F7,F7,F7,B4,B4,B4,H,I,J,E]
 grind
theorem Ab6 (h:Fe n A X)(hi:i<n):Fy n A (Fy n X x) i=x i:=by
 have e:Fy n A (Fy n X x) i=Bb n fun m=>Uj n A X i m*x m:=by
  unfold Fy;rw[Ah (g:=fun j=>Bb n fun m=>A i j*(X j m*x m)) fun j _=>by rw[B4],Pe];refine Ah fun m _=>?_;unfold Uj;rw[<-Jp];exact Ah fun j _=>by grind
 rw[e,Ah (g:=fun m=>idN m i*x m) fun m t=>by rw[h i m hi t,O1],Ag9 hi]
theorem Az9 (u:Fe n A X)(hi:Xu n (Vc A x w)):byN n X x w≠0:=fun h0=>by
 have m:∀ i,i<n->Fy n (Vc A x w) (Fy n X x) i=0:=fun i h=>by
  have e:Fy n (Vc A x w) (Fy n X x) i=Fy n A (Fy n X x) i+w*x i*Vq n x (Fy n X x):=by
   obtain⟨r,C⟩:∃ r,Fy n X x=r:=⟨_,rfl⟩;rw[C];unfold Fy Vq Vc;rw[Ah (g:=fun j=>A i j*r j+w*x i*(x j*r j)) fun j _=>by grind,F7,B4]
  rw[e,Ab6 u h];unfold byN at h0;grind
 have t:=hi _ m;unfold byN Vq at h0;rw[Ah (g:=fun _=>(0:Rat)*0) fun j z=>by rw[t j z];grind,B4]at h0;exact absurd h0 (by rw[Ban,Bau];decide +kernel)
def Aye (n:Nat)(X:Nat->Nat->Rat)(x:Nat->Rat):Rat:=Vq n x (Fy n X x)
def Avo (e:Fe n A X):Aye n X x=frm n A (Fy n X x):=by
 unfold Aye Vq frm;refine Ah fun i hi=>?_;have:=Ab6 (x:=x) e hi;unfold Fy at this⊢;rw[this];exact Rat.mul_comm ..
theorem Avk (m:Fe n A X)(hp:∀ x,(∃ i,i<n/\x i≠0)->0<frm n A x)(u:∃ i,i<n/\x i≠0):0<Aye n X x:=by
 rw[Avo m];refine hp _ (A3m fun t=>?_);obtain⟨i,hi,h0⟩:=u;refine h0 ?_;rw[<-Ab6 (x:=x) m hi];have z:∀ j,j<n->Fy n X x j=0:=fun j e=>A3m fun h=>t ⟨j,e,h⟩;rw[show Fy n A (Fy n X x) i=Bb n fun j=>A i j*Fy n X x j from rfl,Ah (g:=fun _=>(0:Rat)*0) fun j e=>by rw[z j e];grind,B4,Ban]
end
end
section
variable {M n:Nat}{P:Nat->Nat}{R S:Nat->Nat->Int}{v:Int}
def N5:Nat->Nat
 |0=>1
 |n+1=>(n+1)*N5 n
def Aev {f:Nat->Int}{M:Nat}:∀ {n:Nat},(∀ j,j<n->(f j).natAbs<=M)->(Ca n f).natAbs<=n*M
 |0,_=>by rw[Ca];omega
 |n+1,h=>by
  have e:=Aev fun j (t:j<n)=>h j oV;have m:=h n oV;rw[Ca,A16,A3i];have:=Int.natAbs_add_le (Ca n f) (f n);omega
def Aky:∀ n:Nat,(dsg n).natAbs=1
 |0=>rfl
 |n+1=>by rw[dsg,A3l,Aky n]
def Aj1 {M:Nat}:∀ {r:Nat} {C:Nat->Nat->Int},(∀ t,t<r->∀ i,i<r->(C t i).natAbs<=M)->(dt r C).natAbs<=N5 r*M^r
 |0,_,_=>by rw[dt,N5,A8j];decide
 |r+1,C,h=>by
  rw[dt];have e:(Ca (r+1) fun j=>dsg (r+j)*C j r*dt r (Eu j C)).natAbs<=(r+1)*(M*(N5 r*M^r)):=Aev fun j m=>by
   rw[A26,A26,Aky,A3i];refine A25 (h j m r oV) (Aj1 fun t u i hi=>?_);unfold Eu;split
   ·exact h t oV i oV
   exact h (t+1) oV i oV
  refine A04 e (Nat.le_of_eq ?_);rw[N5,A2d];simp only[A17,A19,Nat.mul_left_comm]
def Art (h:Bar n R P n v S){j:Nat}(m:j<n)(k:Nat):S j k=dt n (Dc (fun j i=>R i (P j)) j fun i=>R i k):=by
 have e:=Z3 (fun j i=>R i (P j)) m (fun j=>S j k);have u:dt n (Dc (fun j i=>R i (P j)) j fun i=>Ca n fun t=>S t k*R i (P t))=dt n (Dc (fun j i=>R i (P j)) j fun i=>v*R i k+0*R i k):=Ih fun t C i hi=>by
  unfold Dc;split
  ·show (Ca n fun t=>S t k*R i (P t))=v*R i k+0*R i k;rw[h.lo i hi k,Int.zero_mul,Int.add_zero]
  rfl
 have z:=Mt v 0 (fun i=>R i k) (fun i=>R i k) (fun j i=>R i (P j)) m;rw[u,z,Int.zero_mul,Int.add_zero,h.d,Int.mul_comm]at e;exact (Int.eq_of_mul_eq_mul_right h.v0 e).symm
def Aua (h:Bar n R P n v S)(e:∀ i,i<n->∀ k,(R i k).natAbs<=M):v.natAbs<=N5 n*M^n/\∀ j,j<n->∀ k,(S j k).natAbs<=N5 n*M^n:=by
 refine⟨by rw[<-h.d];exact Aj1 fun t _ i hi=>e i hi _,fun j m k=>?_⟩;rw[Art h m k];refine Aj1 fun t _ i hi=>?_;unfold Dc;split
 ·exact e i hi _
 exact e i hi _
def Auw {n w M:Nat}{X:List (List Int)}(h:E8 n w X)(u:∀ i,i<n->∀ k,(enZ X i k).natAbs<=M)(E:(Fm n n 0 ⟨X,[],1,false⟩).P.length=n) :
 (Fm n n 0 ⟨X,[],1,false⟩).v.natAbs<=N5 n*M^n/\∀ j,j<n->∀ k,(enZ (Fm n n 0 ⟨X,[],1,false⟩).X j k).natAbs<=N5 n*M^n:=by
 have h0:Ajv n w (enZ X) 0 ⟨X,[],1,false⟩:=⟨h,rfl,enZ X,fun i hi=>⟨i,hi,rfl⟩,fun i hi=>⟨i,hi,rfl⟩,Bar.init n _ _⟩;rcases Aci n 0 _ oV h0 with ⟨_,_,R,_,m,t⟩|⟨_,C⟩
 ·exact Aua t fun i hi k=>by
   obtain⟨j,z,e⟩:=m i hi;rw[e];exact u j z k
 omega
end
section
variable {i k:Nat}
def Iu (n:Nat)(Z:Nat->Nat->Int):List (List Int):=(List.range n).map fun i=>(List.range (n+n)).map fun k=>if k<n then Z i k else if i=k-n then 1 else 0
section
variable {n:Nat} {Z:Nat->Nat->Int} {A X:Nat->Nat->Rat} {D M:Nat}
def Sm (hi:i<n):gMZ (Iu n Z) i=(List.range (n+n)).map fun k=>if k<n then Z i k else if i=k-n then 1 else 0:=by
 unfold gMZ Iu;rw[A02,A1a,A31 hi];rfl
def Vu:E8 n (n+n) (Iu n Z):=⟨by unfold Iu;simp,fun i hi=>by rw[Sm hi];simp⟩
def Afx (hi:i<n)(e:k<n):enZ (Iu n Z) i k=Z i k:=by
 unfold enZ;rw[Sm hi,Abr _ oV,if_pos e]
def Ao5 (hi:i<n)(e:k<n):enZ (Iu n Z) i (n+k)=if i=k then 1 else 0:=by
 unfold enZ;rw[Sm hi,Abr _ oV,if_neg oV,show n+k-n=k by omega]
def Ald (h:∀ i k,i<n->k<n->(Z i k).natAbs<=M)(t:1<=M):∀ i,i<n->∀ k,(enZ (Iu n Z) i k).natAbs<=M:=fun i hi k=>by
 by_cases e:k<n
 ·rw[Afx hi e];exact h i k hi e
 by_cases j:k<n+n
 ·obtain⟨m,rfl⟩:∃ m,k=n+m:=⟨k-n,oV⟩;rw[Ao5 hi oV];split<;>simp<;>omega
 unfold enZ;rw[Sm hi,Ado gV];simp
theorem Aqr (hs:Ac1 n A)(Y:Fe n X A)(hi:Xu n A)(V:0<D)(J:∀ i k,i<n->k<n->A i k*(D:Rat)=Z i k)(W:∀ i k,i<n->k<n->(Z i k).natAbs<=M)(U:1<=M) :
 ∃ L:Nat,0<L/\L<=N5 n*M^n/\∀ j k,j<n->k<n->∃ z:Int,X j k*(L:Rat)=z/\z.natAbs<=D*(N5 n*M^n):=by
 have hd:=T4 V;rcases Za (Vu (n:=n) (Z:=Z)) with ⟨hl,_,Q,I⟩|⟨⟨y,⟨j0,E,H⟩,hy⟩,_⟩
 ·obtain⟨K,P⟩:=Auw (Vu (n:=n) (Z:=Z)) (Ald W U) hl;generalize Fm n n 0 ⟨Iu n Z,[],1,false⟩=s at Q I K P;have a0:(s.v:Rat)≠0:=fun e=>Q (A7f.1 (by rw[e];rfl));have hY:Fe n A (fun j k=>(enZ s.X j (n+k):Rat)*(D:Rat)/(s.v:Rat)):=fun i k hi F=>by
   have e:=congrArg (fun z:Int=>(z:Rat)) (I i hi (n+k));simp only[Oy,A3c]at e;rw[Ao5 hi F]at e;have T:(((if i=k then 1 else 0:Int)):Rat)=idN i k:=by unfold idN;split<;>rfl
   rw[T]at e;unfold Uj;rw[Ah (g:=fun j=>(1/(s.v:Rat))*((enZ s.X j (n+k):Rat)*(enZ (Iu n Z) i j:Rat))) fun j m=>by
    rw[Afx hi m,<-J i j hi m];grind,B4,e]
   grind
  have C:=Adp Y hY;refine⟨s.v.natAbs,oV,K,fun j k m F=>?_⟩;have R:=P j m (n+k);rw[C j k m F];rcases Int.natAbs_eq s.v with e|e
  ·refine⟨enZ s.X j (n+k)*(D:Int),?_,?_⟩
   ·have u:((s.v.natAbs:Nat):Rat)=(s.v:Rat):=by
     have:=congrArg (fun z:Int=>(z:Rat)) e;simp only[A2r]at this;exact this.symm
    rw[u,A3c,A2r];grind
   rw[A26,A1s,A19];exact A2h _ R
  refine⟨-(enZ s.X j (n+k)*(D:Int)),?_,?_⟩
  ·have u:((s.v.natAbs:Nat):Rat) = -(s.v:Rat):=by
    have:=congrArg (fun z:Int=>(z:Rat)) e;simp only[A8k,A2r]at this;rw[this];grind
   rw[u,A8k,A3c,A2r];grind
  rw[A3l,A26,A1s,A19];exact A2h _ R
 refine absurd (hi (fun j=>(y j:Rat)) (fun i t=>?_) j0 E) fun e=>H (A7f.1 (by rw[e];rfl));have e:=congrArg (fun z:Int=>(z:Rat)) (hy i t);simp only[Oy,A3c]at e;unfold Fy;have u:Bb n (fun j=>A i j*(y j:Rat))*(D:Rat)=0:=by
  rw[<-Jp,Ah (g:=fun j=>(y j:Rat)*(enZ (Iu n Z) i j:Rat)) fun j m=>by rw[Afx t m,<-J i j t m];grind,e];rfl
 rcases A40.1 u with h|h
 ·exact h
 exact absurd h hd
end
end
section
variable {A:zM}{i n:Nat}
def Lf (n:Nat)(A:zM):zM:=(List.range n).map fun i=>gM A i++(List.range n).map fun k=>idN i k
def Sp (hi:i<n):gM (Lf n A) i=gM A i++(List.range n).map fun k=>idN i k:=by
 unfold Lf gM;rw[A02,A1a,A31 hi];rfl
def Rd (e:Rec n n A):Rec n (n+n) (Lf n A) :=
 ⟨by simp[Lf],fun i hi=>by rw[Sp hi,A1d,e.2 i hi];simp⟩
def Ah9 (e:Rec n n A){i j:Nat}(hi:i<n)(h:j<n):en (Lf n A) i j=en A i j:=by
 unfold en;rw[Sp hi];unfold gR;rw[A02,A02,A1r (by rw[e.2 i hi];exact h)]
def Arm (e:Rec n n A){i k:Nat}(hi:i<n)(h:k<n):en (Lf n A) i (n+k)=idN i k:=by
 unfold en;rw[Sp hi];unfold gR;rw[A02,A18 (by rw[e.2 i hi];omega),e.2 i hi,Nat.add_sub_cancel_left,A1a,A31 h];rfl
def Ao3 (e:Rec n n A)(z:¬ (Bn n 0 [] (Lf n A) 1).1.length<n):Fe n (en A) (fun j k=>en (Bn n 0 [] (Lf n A) 1).2.1 j (n+k)):=fun i k hi u=>by
 have h:=Z5 (n:=n) (w:=n+n) (m:=n+k) oV oV n 0 [] (Lf n A) 1 oV rfl (Rd e) (fun i j _ t=>absurd t (Nat.not_lt_zero _)) z i hi;rw[Arm e hi u]at h;unfold Uj;rw[<-h];exact Ah fun j t=>by rw[Ah9 e hi t]
theorem Au4 {n D:Nat}{A:Nat->Nat->Rat}{Z:Nat->Nat->Int}(hi:Xu n A)(K:0<D)(H:∀ i k,i<n->k<n->A i k*(D:Rat)=Z i k) :
 (Fm n n 0 ⟨Iu n Z,[],1,false⟩).P.length=n/\E8 n (n+n) (Fm n n 0 ⟨Iu n Z,[],1,false⟩).X/\(Fm n n 0 ⟨Iu n Z,[],1,false⟩).v≠0 /\
  Fe n A (fun j k=>(enZ (Fm n n 0 ⟨Iu n Z,[],1,false⟩).X j (n+k):Rat)*(D:Rat)/((Fm n n 0 ⟨Iu n Z,[],1,false⟩).v:Rat)):=by
 have L:(D:Rat)≠0:=T4 K;rcases Za (Vu (n:=n) (Z:=Z)) with ⟨R,T,C,F⟩|⟨⟨y,⟨j0,u,E⟩,V⟩,_⟩
 ·refine⟨R,T,C,?_⟩;generalize Fm n n 0 ⟨Iu n Z,[],1,false⟩=s at C F;have U:(s.v:Rat)≠0:=fun e=>C (A7f.1 (by rw[e];rfl));intro i k hi Q;have e:=congrArg (fun z:Int=>(z:Rat)) (F i hi (n+k));simp only[Oy,A3c]at e;rw[Ao5 hi Q]at e;have J:(((if i=k then 1 else 0:Int)):Rat)=idN i k:=by unfold idN;split<;>rfl
  rw[J]at e;unfold Uj;rw[Ah (g:=fun j=>(1/(s.v:Rat))*((enZ s.X j (n+k):Rat)*(enZ (Iu n Z) i j:Rat))) fun j t=>by
   rw[Afx hi t,<-H i j hi t];grind,B4,e]
  grind
 refine absurd (hi (fun j=>(y j:Rat)) (fun i m=>?_) j0 u) fun e=>E (A7f.1 (by rw[e];rfl));have e:=congrArg (fun z:Int=>(z:Rat)) (V i m);simp only[Oy,A3c]at e;unfold Fy;have I:Bb n (fun j=>A i j*(y j:Rat))*(D:Rat)=0:=by
  rw[<-Jp,Ah (g:=fun j=>(y j:Rat)*(enZ (Iu n Z) i j:Rat)) fun j t=>by rw[Afx m t,<-H i j m t];grind,e];rfl
 rcases A40.1 I with h|h
 ·exact h
 exact absurd h L
end
section
variable {F:List Al}
def Beb {p:Al->Bool}{i:Nat}{f:Al}(h:F[i]?=some f):(F.take (i+1)).any p=((F.take i).any p||p f):=by
 rw[A1n,h,List.any_append];simp
def Bee {l:zB}(h:l≠[]):l.isEmpty=false:=by cases l with|nil=>exact absurd rfl h|cons _ _=>rfl
def Bdh {e x d b:Bool}(h:b=(e && !x)):(b && !d)=(e && !(x||d)):=by subst h;cases e<;>cases x<;>cases d<;>rfl
def Bdd {u:PH}{v tv:Value}{T:zC}{R:List Br}{lab:Int}{ss:zW}(h:Mv u v tv T R F lab ss) :
 Fn0 prog 29 [v,tv] u fun r _=>r=.bool (G4 F lab ss):=by
 have X:=Anz h;have a1:=h.lt;obtain⟨⟨xa,xc,xb,xd,xe,xf,rfl,a5,a4,a0⟩,ok,U,hT⟩:=h;obtain⟨ya,yc,rfl⟩:=U.opn;rw[A03]at U X⊢;have f2:=ok.f2;refine Fn0.o func29<|G.c call47 X ?_;rintro v1 u1 l1 rfl;refine G.nF 0 0 ?_;unfold G4;refine dite (lab<0) (fun H=>?A) (fun H=>?B)
 case' A =>
  refine G.lT' lab 0 H ?_;rw[decide_eq_false oV,Bool.false_and];obtain⟨t,m⟩:∃ t,true=t:=⟨_,rfl⟩;rw[show (!false)=t from m]
 case' B =>
  obtain⟨l,rfl⟩:∃ l:Nat,lab=(l:Int):=⟨lab.toNat,oV⟩;have W:=a1 l rfl;rw[decide_eq_true oV,A23,Bool.true_and];refine G.lF l 0 ?_;obtain⟨bb,off,a2,e⟩:=M5 (U.mono l1) W;subst a2;refine G.N ss.length yc W e ?_;refine dite (ss.getD l [] = []) (fun h0=>?C) (fun h0=>?D)
 case' C =>
  refine G.y (ss.getD l []) [] h0 ?_;rw[h0,show ([]:zB).isEmpty=true from rfl];obtain⟨t,m⟩:∃ t,false=t:=⟨_,rfl⟩;rw[show (!true)=t from m]
 case' D =>
  refine G.x (ss.getD l []) [] h0 ?_;rw[Bee h0];obtain⟨t,m⟩:∃ t,true=t:=⟨_,rfl⟩;rw[show (!false)=t from m]
 case' C|D=>generalize (some ⟨bb,off,none⟩:zP)=ya at U⊢
 case A|C|D =>
  refine G.loop (ι:=Nat×Bool) (fun i=>[(1,sV ya ss.length yc),(5,bV i.2),(24,sV xe F.length xf),(25,iV F.length),(26,iV i.1)]) (fun _=>[])
   (fun i u' m'=>i.1<=F.length/\i.2=(t && !(F.take i.1).any (Pp ss))/\m'=PH.mt) (fun i=>F.length-i.1) (0,t) kV (fun _=>kV) (by subst m;exact cV) ⟨oV,mV,rfl⟩ ?_
  clear m;rintro J ⟨i,b⟩ Q u2 m2 l2 ⟨hi,E,rfl⟩;simp only at hi E Q;by_cases V:i<F.length
  ·refine G.lT i F.length ?_;obtain⟨f,hf⟩:∃ f,F[i]?=some f:=⟨_,A01 V⟩;obtain⟨ba,oa,rfl,ea⟩:=Ac.at' (a0.mono (l1.trans l2)) (j:=i) (e:=Cm f) (by simp[hf]);refine G.a ba oa F.length xf i 3 V ?_;have K:=Vz ok.feat hT (A1k hf);have z:=Beb (p:=Pp ss) hf;obtain⟨f1,L,P⟩:=f;simp only at K;refine G.g (some 3) ea ?_;cases b with
   |false =>
    exact G.i i<|G.b (Q (i+1,false) _ _ _ cV l2 ⟨dV,by rw[z,<-Bdh E];rfl,rfl⟩ dV)
   |true =>
    by_cases Y:L=1
    ·refine G.nF L 1 ?_;by_cases Z:P=1
     ·refine G.nF P 1 ?_;obtain⟨bt,ot,a3,et⟩:=M5 (U.mono (l1.trans l2)) K;subst a3;refine G.N ss.length yc K et ?_;by_cases h0:ss.getD f1 [] = []
      ·refine G.y (ss.getD f1 []) [] h0 ?_;have I:Pp ss (f1,L,P)=true:=by unfold Pp;simp only;rw[Y,Z,h0];rfl
       exact G.i i<|G.b (Q (i+1,false) _ _ _ cV l2 ⟨dV,by rw[z,<-Bdh E,I];rfl,rfl⟩ dV)
      refine G.x (ss.getD f1 []) [] h0 ?_;have I:Pp ss (f1,L,P)=false:=by unfold Pp;simp only;rw[Y,Z,Bee h0];rfl
      exact G.i i<|G.b (Q (i+1,true) _ _ _ cV l2 ⟨dV,by rw[z,<-Bdh E,I];rfl,rfl⟩ dV)
     refine G.nT P 1 ?_;have I:Pp ss (f1,L,P)=false:=by simp[Pp,Z]
     exact G.i i<|G.b (Q (i+1,true) _ _ _ cV l2 ⟨dV,by rw[z,<-Bdh E,I];rfl,rfl⟩ dV)
    refine G.nT L 1 ?_;have I:Pp ss (f1,L,P)=false:=by simp[Pp,Y]
    exact G.i i<|G.b (Q (i+1,true) _ _ _ cV l2 ⟨dV,by rw[z,<-Bdh E,I];rfl,rfl⟩ dV)
  obtain rfl:i=F.length:=oV;refine G.lF F.length F.length ?_;rw[A15]at E;exact G.r (.bool b) ⟨rfl,by rw[E]⟩
end
def Att {T:zC}{F:List Al}{lab:Int}{ss:zW}(hF:Da T F lab)(t:Bw T ss):∀ x∈Dx F ss F.length,SmW x.2:=fun x u=>by
 obtain⟨j,f,z,m,h⟩:=F9.1 u;unfold Jf at h;split at h
 ·cases h;exact I7
 rename_i h2;split at h
 ·cases h
 rename_i h0;cases h;exact (S3 hF t (A1k m) h2 (fun e=>h0 (.inl e))).1
section
variable {x:Rat}
def Azu {q:Rat}{z:Int}(h:q*((4320:Nat):Rat)=(z:Rat))(m:z.natAbs<=1000000000000):Th q:=by
 obtain⟨e,j⟩:=Wy h oV;exact⟨De.tx (a:=13) (b:=4) ⟨z,4320,h,oV,oV,oV⟩ oV oV oV oV,A74 e fV,oV⟩
theorem Az2 {x t:Rat}{N:Nat}(h:Dn 2 N x)(K:N<=28873454400)(H:∃ p:Int,t*30=p/\p.natAbs<=180):Th (x+t):=by
 obtain⟨z,j,I⟩:=h;obtain⟨p,F,J⟩:=H;refine Azu (z:=z*30+p*144) ?_ oV;have e:((12^2:Nat):Rat)=144:=jV
 have m:((4320:Nat):Rat)=4320:=jV
 have u:((30:Int):Rat)=30:=jV
 have E:((144:Int):Rat)=144:=jV
 rw[e]at j;rw[A7d,A3c,A3c,<-j,<-F,m,u,E];grind
def Abz {N:Nat}(h:Dn 2 N x)(m:N<=28873454400):De 75 18 x:=by
 obtain⟨z,e,j⟩:=h;exact⟨z,144,by rw[<-e],oV,A22 j (A22 m jV),jV⟩
section
variable {P:List Par} {C:CF} {q:Rat} {N k:Nat}
def Azc (m:In N C)(z:N<=28873454400)(F:∃ p:Int,q*30=p/\p.natAbs<=180):∀ r∈Eh C P q,∀ x∈r,Th x:=by
 intro r H x I;have u:=Rx (P:=P) (C:=C) (q:=q);obtain⟨i,hi,rfl⟩:=A3d.1 H;obtain⟨j,E,rfl⟩:=A3d.1 I;have h:i<P.length+1:=by have:=u.1;omega
 have t:j<P.length+1:=by have:=u.2 i h;rw[Ch hi]at this;omega
 have e:=N8 (P:=P) (C:=C) (q:=q) h t;unfold en at e;rw[Ch hi,Cu E]at e;rw[e];refine Az2 (m.c _ _) z ?_;split
 ·exact F
 exact⟨0,jV,fV⟩
def Avn (j:In N C)(m:N<=28873454400)(F:CFV C)(z:C.c=(k:Rat))(E:k<100):Ai6 C k:=by
 refine⟨z,E,fun p=>Abz (j.c none (some p)) m,fun p=>?_⟩;by_cases h:C.t p=0
 ·rw[h];exact Abz (Dn.zero 2 0) oV
 have u:=(F.t p h).2.2;have e:Ay p.1 p.2=p:=by unfold Ay;rw[if_neg u]
 have:=Abz (j.c (some p.1) (some p.2)) m;rw[show As C (some p.1) (some p.2)=C.t (Ay p.1 p.2) from rfl,e]at this;exact this
def Fd.sixty (h:Fd q):∃ p:Int,q*30=p/\p.natAbs<=180:=by
 obtain⟨p,e,j⟩:=h.thirty;exact⟨p,e,oV⟩
def Api {F:List Al}{lab:Int}(L:List Dm):∀ {e:List Dm},Cf F lab (L++e)=(Cf F lab L).add (Cf F lab e):=by
 intro e;induction e using Ig with
 |h0 =>
  rw[A1x];show _=CF.mk ((Cf F lab L).c+0) (fun p=>(Cf F lab L).s p+0) (fun p=>(Cf F lab L).t p+0);simp only[Rat.add_zero]
 |h1 e y ih =>
  rw[<-A2k,Eb,Eb,ih];simp only[CF.add,Rat.add_assoc]
end
end
section
theorem Ax5 (x:Rat):0<=x*x:=by
 rcases A9g (a:=0) (b:=x) with h|h
 ·exact A4o h h
 have:=A4o (a:=-x) (b:=-x) (by grind) (by grind);grind
section
variable {P:List Par} {C:CF} {b d:Option Par->Rat} {q:Rat} {N D:Nat}
theorem Ats {z:Option Par->Rat}(u:0<q)(F:0<C.c)(hp:∀ z,0<=Dh z P C)(h:Dh z P C+q*Vn P z<=0):∀ e∈An P,z e=0:=by
 have K:=hp z;have H:=Arq P z;have L:=A4o (Bat u) H;have I:Vn P z=0:=by
  have:q*Vn P z=0:=by grind
  rcases A40.1 this with e|e
  ·rw[e]at u;exact absurd u jV
  exact e
 have m:∀ p∈P,z (some p)=0:=fun p hp=>by
  have:=Ww (fun q _=>Ax5 (z (some q))) I p hp;rcases A40.1 this with e|e<;>exact e
 have J:z none=0:=by
  have E:Dh z P C=0:=by grind
  have t:B9 (fun f=>z none*As C none f*z f) (An P)=z none*C.c*z none:=by
   rw[S6,Fv fun p hp=>by rw[m p hp,Bau]];show z none*C.c*z none+0=_;grind
  unfold Dh at E;rw[S6,t,Fv fun p hp=>by
   refine Fv fun f _=>?_;rw[m p hp];grind]at E
  have e:z none*C.c*z none=0:=by grind
  rcases A40.1 e with e|e
  ·rcases A40.1 e with e|e
   ·exact e
   rw[e]at F;exact absurd F jV
  exact e
 intro e j;unfold An at j;rcases A1g.1 j with rfl|j
 ·exact J
 obtain⟨p,hp,rfl⟩:=A1b.1 j;exact m p hp
end
end
section
section
variable {P:List Par} {C:CF} {q:Rat} {N:Nat}
def Auy:∀ i k,i<P.length+1->k<P.length+1->en (Eh C P q) i k=en (Eh C P q) k i:=fun i k hi j=>by
 rw[N8 hi j,N8 j hi,Ajc];by_cases e:i=k
 ·subst e;rfl
 rw[if_neg (fun h=>e h.1),if_neg (fun h=>e h.1.symm)]
theorem Axs (Q:0<q)(K:0<C.c)(hp:∀ z,0<=Dh z P C)(F:P.Nodup)(x:Nat->Rat)(R:∃ i,i<P.length+1/\x i≠0):0<frm (P.length+1) (en (Eh C P q)) x:=by
 obtain⟨z,u⟩:∃ z:Option Par->Rat,∀ j,j<P.length+1->z ((An P).getD j none)=x j:=⟨cfE (x 0) (P.zip ((List.range P.length).map fun j=>x (j+1))),fun j t=>by
  rw[Ar2 F mV j t];cases j with
  |zero=>rfl
  |succ j=>exact Aep (by rw[A7r,A1a,A31 oV];rfl)⟩
 have m:∀ i,i<P.length+1->Bb (P.length+1) (fun k=>en (Eh C P q) i k*x k)=B9 (fun f=>As C ((An P).getD i none) f*z f) (An P)+P7 q z ((An P).getD i none):=fun i hi=>by
  rw[Ah (g:=fun j=>As C ((An P).getD i none) ((An P).getD j none)*z ((An P).getD j none)+(if i=j/\0<i then q else 0)*x j) (fun j t=>by rw[N8 hi t,u j t];grind),F7,Agy,Qa _ (An P) none,Cp];have h:P7 q z ((An P).getD i none)=if i<P.length+1/\0<i then q*x i else 0:=by
   cases i with
   |zero=>rw[if_neg oV];rfl
   |succ j =>
    rw[if_pos ⟨hi,oV⟩,<-u _ hi];unfold An;rw[A6b,A02,A1a,A01 oV];rfl
  rw[h]
 have L:frm (P.length+1) (en (Eh C P q)) x=Dh z P C+q*Vn P z:=by
  unfold frm;have J:Bb (P.length+1) (fun i=>x i*Bb (P.length+1) fun k=>en (Eh C P q) i k*x k)=B9 (fun e=>z e*B9 (fun f=>As C e f*z f) (An P)+z e*P7 q z e) (An P):=by
   rw[Qa (fun e=>z e*B9 (fun f=>As C e f*z f) (An P)+z e*P7 q z e) (An P) none,Cp];exact Ah fun i hi=>by rw[m i hi,u i hi];grind
  rw[J,L7,S6 (f:=fun e=>z e*P7 q z e),Zz];have I:B9 (fun p=>z (some p)*P7 q z (some p)) P=q*Vn P z:=by unfold Vn;rw[<-Ji];exact Dt fun p _=>by unfold P7;grind
  rw[I];unfold As4 P7;grind
 rw[L];refine Rat.not_le.1 fun E=>?_;have h0:=Ats Q K hp E;obtain⟨i,hi,H⟩:=R;exact H (by rw[<-u i hi];exact h0 _ (Alq hi))
end
end
section
variable {A B:Nat->Nat->Rat}{n:Nat}
section
variable {P:List Par} {C H:CF} {q w:Rat} {X:Nat->Nat->Rat}
def Fg (P:List Par)(s:Par->Rat)(i:Nat):Rat:=Zg s ((An P).getD i none)
theorem Agi (o:Qi H):∀ i k,i<P.length+1->k<P.length+1->en (Eh (C.add (H.scale w)) P q) i k=Vc (en (Eh C P q)) (Fg P H.s) w i k:=fun i k hi e=>by
 unfold Vc Fg;rw[N8 hi e,N8 hi e,T1,o.cell];grind
def Mn:Ac1 (P.length+1) (en (Eh C P q)):=Auy
def Xx (j:P.Nodup)(t:0<C.c)(u:0<q)(e:∀ z,0<=Dh z P C):Xu (P.length+1) (en (Eh C P q)):=fun y h=>by
 have m:=Rx (P:=P) (C:=C) (q:=q);have:=Aum j t u e y (by rw[m.1];exact h);rwa[m.1]at this
def Am3 (h:Fe n X A)(e:∀ i k,i<n->k<n->B i k=A i k):Fe n X B:=fun i k hi m=>by
 rw[<-h i k hi m];exact Ah fun j t=>by rw[e j k t m]
theorem Anu (h:Xu n A)(e:∀ i k,i<n->k<n->B i k=A i k):Xu n B:=fun y hy=>h y fun i hi=>by
 rw[<-hy i hi];exact Ah fun j hj=>by rw[e i j hi hj]
def Apz (o:Qi H)(j:P.Nodup)(t:0<(C.add (H.scale w)).c)(E:0<q)(e:∀ z,0<=Dh z P (C.add (H.scale w)))(h:Fe (P.length+1) X (en (Eh C P q))) :
 byN (P.length+1) X (Fg P H.s) w≠0/\Fe (P.length+1) (Vd (P.length+1) X (Fg P H.s) w) (en (Eh (C.add (H.scale w)) P q)):=by
 have m:byN (P.length+1) X (Fg P H.s) w≠0:=Az9 (Tg Mn h) (Anu (Xx j t E e) fun i k hi u=>(Agi o i k hi u).symm);exact⟨m,Am3 (Aqh h m) (Agi o)⟩
end
end
def Ap3 {A:zM}{L K:Nat}(h0:0<L)(F:0<K)(P:L<10^K)(Q:nl L<=1000000000)(h:∀ r∈A,∀ q∈r,∃ z:Int,q*(L:Rat)=z/\z.natAbs<10^K):Y5 A L K where
 den:=fun r u q t=>by
  obtain⟨z,j,_⟩:=h r u q t;exact (Wy j h0).1
 pos:=h0
 nl:=Q
 dig:=fun D I J=>by
  have e:D<=L:=A48 h0 I;refine⟨Cz F (A22 e P),fun r u q t R=>Cz F ?_⟩;obtain⟨z,j,C⟩:=h r u q t;have m:=(Wy j h0).1;have E:=Aem m;rw[j]at E;have H:q.num*((L/q.den:Nat):Int)=z:=A7f.1 E;refine A22 ?_ C;rw[<-H,A26,A26,A1s,A1s];exact A2h _ (Nat.div_le_div_right e)
section
variable {n:Nat}
def Aks {n w:Nat}{X Y:zM}(m:Rec n w X)(E:Rec n w Y)(h:∀ i k,i<n->k<w->en X i k=en Y i k):X=Y:=by
 refine A5l (by rw[m.1,E.1]) fun i j u=>?_;have hi:i<n:=by rw[<-m.1];exact j
 have e:=m.2 i hi;have t:=E.2 i hi;rw[Ch j]at e;rw[Ch u]at t;refine A5l (by rw[e,t]) fun k z F=>?_;have:=h i k hi (by rw[<-e];exact z);unfold en at this;rwa[Ch j,Ch u,Cu z,Cu F]at this
section
variable {P:List Par} {C:CF} {q:Rat} {N:Nat} {X Y:zM}
structure H6 (P:List Par)(C:CF)(q:Rat)(X:zM):Prop where
 rc:Rec (P.length+1) (P.length+1) X
 inv:Fe (P.length+1) (en X) (en (Eh C P q))
def H6.uniq (h:H6 P C q X)(e:H6 P C q Y):X=Y:=Aks h.rc e.rc (Aps Mn h.inv e.inv)
theorem Az3 (m:In N C)(L:Fd q):∃ Z:Nat->Nat->Int,∀ i k,i<P.length+1->k<P.length+1->en (Eh C P q) i k*((4320:Nat):Rat)=Z i k/\(Z i k).natAbs<=N*30+12960:=by
 obtain⟨p,hp,u⟩:=L.thirty;have e:((12^2:Nat):Rat)=144:=jV;have F:((4320:Nat):Rat)=4320:=jV;have H:((30:Int):Rat)=30:=jV;have I:((144:Int):Rat)=144:=jV;have E:∀ i k,∃ z:Int,As C ((An P).getD i none) ((An P).getD k none)*144=z/\z.natAbs<=N:=fun i k=>by
  obtain⟨z,h,t⟩:=m.c ((An P).getD i none) ((An P).getD k none);rw[e]at h;exact⟨z,h,t⟩
 obtain⟨Z,J⟩:∃ Z:Nat->Nat->Int,∀ i k,As C ((An P).getD i none) ((An P).getD k none)*144=Z i k/\(Z i k).natAbs<=N:=⟨fun i k=>(E i k).choose,fun i k=>(E i k).choose_spec⟩;refine⟨fun i k=>Z i k*30+(if i=k/\0<i then p*144 else 0),fun i k hi K=>?_⟩;obtain⟨h,t⟩:=J i k;constructor
 ·rw[N8 hi K,A7d,A3c,<-h,F,H];by_cases j:i=k/\0<i
  ·rw[if_pos j,if_pos j,A3c,<-hp,I];grind
  rw[if_neg j,if_neg j,show ((0:Int):Rat)=0 from rfl];grind
 show (Z i k*30+if i=k/\0<i then p*144 else 0).natAbs<=_;split<;>omega
def Ay9:∀ n:Nat,n<=12->N5 n<=10^9:=fV
def H6.dens (h:H6 P C q X)(m:In N C)(I:N<=33000000000)(F:Fd q)(u:P.Nodup)(H:0<C.c)(e:∀ z,0<=Dh z P C) :
 ∃ L:Nat,0<L/\L<=N5 (P.length+1)*(10^12)^(P.length+1)/\∀ j k,j<P.length+1->k<P.length+1->∃ z:Int,en X j k*(L:Rat)=z/\z.natAbs<=4320*(N5 (P.length+1)*(10^12)^(P.length+1)):=by
 obtain⟨Z,E⟩:=Az3 (P:=P) m F;exact Aqr Mn h.inv (Xx u H F.pos e) oV (fun i k hi t=>(E i k hi t).1) (fun i k hi t=>A04 (E i k hi t).2 oV) oV
def Al4 (e:n<=12):N5 n*(10^12)^n<10^(12*n+10):=by
 have h:=Ay9 n e;rw[<-Nat.pow_mul,show 12*n+10=12*n+1+9 by omega,A4k (m:=12*n+1) (n:=9),A2d,A19];have j:0<10^(12*n):=A66 oV;have t:=A2h (10^(12*n)) h;have u:10^(12*n)*10^9<10^(12*n)*10*10^9:=by
  refine A6w ?_ fV;omega
 omega
def H6.de (h:H6 P C q X)(t:In N C)(J:N<=33000000000)(V:Fd q)(u:P.Nodup)(K:0<C.c)(m:∀ z,0<=Dh z P C)(H:P.length<=11):∀ j k,j<P.length+1->k<P.length+1->De 158 154 (en X j k):=fun j k R U=>by
 obtain⟨L,h0,I,E⟩:=h.dens t J V u K m;have Q:=Al4 (n:=P.length+1) oV;have hp:(10:Nat)^(12*(P.length+1)+10)<=10^154:=A10 oV oV;generalize N5 (P.length+1)*(10^12)^(P.length+1)=B at I Q E;obtain⟨z,F,W⟩:=E j k R U;generalize hT:(10:Nat)^154=T at hp;refine⟨z,L,F,h0,?_,by rw[hT];omega⟩;have e:(10:Nat)^158=10000*T:=by rw[<-hT,show 158=4+154 by rfl,A4k]
 rw[e];omega
def H6.light (h:H6 P C q X)(E:In N C)(T:N<=33000000000)(W:Fd q)(H:P.Nodup)(U:0<C.c)(t:∀ z,0<=Dh z P C)(h5:P.length<=5):∃ L,Y5 X L 86:=by
 obtain⟨L,h0,R,K⟩:=h.dens E T W H U t;have V:=Al4 (n:=P.length+1) oV;have hp:(10:Nat)^(12*(P.length+1)+10)<=10^82:=A10 oV oV;generalize N5 (P.length+1)*(10^12)^(P.length+1)=B at R V K;have e:(10:Nat)^86=10000*10^82:=by rw[show 86=4+82 by rfl,A4k]
 have u:L<10^82:=oV
 refine⟨L,Ap3 h0 oV (by rw[e];omega) (A04 (Bd (A04 (Cz (k:=82) oV u) oV)) oV) fun r Z x hx=>?_⟩;obtain⟨j,F,rfl⟩:=A3d.1 Z;obtain⟨k,J,rfl⟩:=A3d.1 hx;have m:j<P.length+1:=by rw[<-h.rc.1];exact F
 have I:=h.rc.2 j m;rw[Ch F]at I;obtain⟨z,Q,h2⟩:=K j k m (by rw[<-I];exact J);refine⟨z,?_,by rw[e];omega⟩;rw[<-Q];unfold en;rw[Ch F,Cu J]
end
end
section
variable {f:Nat->Nat->Rat}{i n:Nat}
def sqL (n:Nat)(f:Nat->Nat->Rat):zM:=(List.range n).map fun i=>(List.range n).map fun k=>f i k
def Aj7 (hi:i<n):gM (sqL n f) i=(List.range n).map fun k=>f i k:=by
 unfold sqL gM;rw[A02,A1a,A31 hi];rfl
def Rh (n:Nat)(f:Nat->Nat->Rat):Rec n n (sqL n f):=⟨by simp[sqL],fun i hi=>by rw[Aj7 hi];simp⟩
def N6 {i k:Nat}(hi:i<n)(e:k<n):en (sqL n f) i k=f i k:=by
 unfold en gR;rw[Aj7 hi,A02,A1a,A31 e];rfl
def Aik {X Y A:Nat->Nat->Rat}(h:Fe n X A)(e:∀ i k,i<n->k<n->Y i k=X i k):Fe n Y A:=fun i k hi t=>by
 rw[<-h i k hi t];exact Ah fun j m=>by rw[e i j hi m]
def Nj (n:Nat)(X:zM)(x:Nat->Rat)(w:Rat):zM:=sqL n (Vd n (en X) x w)
section
variable {P:List Par} {C H:CF} {q w:Rat} {X:zM}
def H6.step (h:H6 P C q X)(o:Qi H)(j:P.Nodup)(u:0<(C.add (H.scale w)).c)(F:0<q)(e:∀ z,0<=Dh z P (C.add (H.scale w))) :
 byN (P.length+1) (en X) (Fg P H.s) w≠0/\H6 P (C.add (H.scale w)) q (Nj (P.length+1) X (Fg P H.s) w):=by
 obtain⟨m,t⟩:=Apz o j u F e h.inv;exact⟨m,Rh _ _,Aik t fun i k hi E=>N6 hi E⟩
def H6.of_right (e:Rec (P.length+1) (P.length+1) X)(h:Fe (P.length+1) (en (Eh C P q)) (en X)):H6 P C q X:=⟨e,Apf Mn h⟩
theorem Ah5 (o:Qi H):(An P).map (Bh (C.add (H.scale w)))=(An P).map fun e=>Bh C e+w*Zg H.s e*H.s B7 :=
 A41 fun e _=>by rw[Bde,o.right];grind
end
end
section
structure H9 (P:List Par)(C:CF)(q:Rat)(X:zM)(b:zR)(s c:Rat):Prop where
 inv:H6 P C q X
 rt:b=(An P).map (Bh C)
 sq:s=C.t (Ay B7 B7)
 ct:c=C.c
section
variable {P:List Par} {C H G:CF} {q w v s c s' c':Rat} {X X':zM} {b b':zR}
def H9.uniq (h:H9 P C q X b s c)(e:H9 P C q X' b' s' c'):X=X'/\b=b'/\s=s'/\c=c' :=
 ⟨h.inv.uniq e.inv,by rw[h.rt,e.rt],by rw[h.sq,e.sq],by rw[h.ct,e.ct]⟩
def Pq (P:List Par)(b:zR)(x:Par->Rat)(w y:Rat):zR:=(List.range (P.length+1)).map fun i=>gR b i+w*Fg P x i*y
def Aqv (o:Qi H):Pq P ((An P).map (Bh C)) H.s w (H.s B7)=(An P).map (Bh (C.add (H.scale w))):=by
 rw[Ah5 o];refine A4g fun i=>?_;unfold Pq;rw[A1a,A1a];by_cases hi:i<P.length+1
 ·have e:i<(An P).length:=by rw[Cp];exact hi
  rw[A31 hi,A01 e];unfold Fg;have h:(An P).getD i none=(An P)[i]:=by rw[A02,A01 e];rfl
  have j:gR ((An P).map (Bh C)) i=Bh C (An P)[i]:=by
   unfold gR;rw[A02,A1a,A01 e];rfl
  show some (gR ((An P).map (Bh C)) i+w*Zg H.s ((An P).getD i none)*H.s B7)=_;rw[h,j];rfl
 rw[A1v (by rw[List.length_range];omega),A1v (by rw[Cp];omega)];rfl
theorem H9.step (h:H9 P C q X b s c)(o:Qi H)(j:P.Nodup)(E:0<(C.add (H.scale w)).c)(F:0<q)(e:∀ z,0<=Dh z P (C.add (H.scale w))) :
 byN (P.length+1) (en X) (Fg P H.s) w≠0/\H9 P (C.add (H.scale w)) q (Nj (P.length+1) X (Fg P H.s) w) (Pq P b H.s w (H.s B7)) (s+w*H.s B7*H.s B7) (c+w):=by
 obtain⟨m,u⟩:=h.inv.step o j E F e;refine⟨m,u,by rw[h.rt,Aqv o],?_,?_⟩
 ·show s+w*H.s B7*H.s B7=C.t (Ay B7 B7)+H.t (Ay B7 B7)*w;rw[h.sq,o.t];grind
 show c+w=C.c+H.c*w;rw[h.ct,o.c];grind
end
end
section
variable {F:List Al}{T:zC}{lab:Int}{ss:zW}{x:Rat}
def Ko (P:List Par)(x:Par->Rat):zR:=(An P).map (Zg x)
def Ad6 (P:List Par)(x:Par->Rat):(Ko P x).length=P.length+1:=by unfold Ko;rw[A03,Cp]
def V1 {P:List Par}{x:Par->Rat}{i:Nat}(hi:i<P.length+1):gR (Ko P x) i=Fg P x i:=by
 have e:i<(An P).length:=by rw[Cp];exact hi
 unfold Ko Fg gR;rw[A02,A1a,A02,A01 e];rfl
def Avy {P:List Par}(hF:Da T F lab)(t:Bw T ss)(h:-1<=lab)(j:∀ l:Nat,lab=(l:Int)->l<ss.length)(m:G4 F lab ss=true)(hp:∀ p∈P,0<=p.1) :
 F5 P (Dx F ss F.length)=(Ko P (cfT F lab ss).s).map Ae:=by
 unfold F5 Ko An;rw[A2u,A2u,A9h,A9h]
 congr 1
 ·exact Sv.symm
 exact A41 fun p e=>by
  show Ae (Fo p _)=Ae ((cfT F lab ss).s p);rw[Acn hF t h j m (hp p e)]
def Abm {P:List Par}(hF:Da T F lab)(t:Bw T ss)(E:-1<=lab)(H:∀ l:Nat,lab=(l:Int)->l<ss.length)(I:G4 F lab ss=true)(hp:∀ p∈P,0<=p.1):∀ x∈Ko P (cfT F lab ss).s,SmW x:=fun x u=>by
 unfold Ko at u;obtain⟨e,h,rfl⟩:=A1b.1 u;unfold An at h;rcases A1g.1 h with rfl|h
 ·exact I7
 obtain⟨p,j,rfl⟩:=A1b.1 h;show SmW ((cfT F lab ss).s p);rw[Acn hF t E H I (hp p j)];by_cases m:p∈(Dx F ss F.length).map (·.1)
 ·obtain⟨y,z,rfl⟩:=A1b.1 m;rw[Kh (a:=y.1) (q:=y.2) (Nb F ss F.length (A08 _)) z];exact Att hF t y z
 rw[Na m];exact Afe
section
variable {P:List Par} {C:CF} {q:Rat} {N:Nat} {X:zM} {b:zR} {s c:Rat}
def H6.cell (h:H6 P C q X){r:zR}(z:r∈X)(E:x∈r):∃ j k,j<P.length+1/\k<P.length+1/\x=en X j k:=by
 obtain⟨j,m,rfl⟩:=A3d.1 z;obtain⟨k,u,rfl⟩:=A3d.1 E;have e:j<P.length+1:=by rw[<-h.rc.1];exact m
 have t:=h.rc.2 j e;rw[Ch m]at t;refine⟨j,k,e,by rw[<-t];exact u,?_⟩;unfold en;rw[Ch m,Cu u]
def H6.sqr (h:H6 P C q X)(e:P.length<=11)(hT:∀ r∈X,∀ x∈r,Tx x):Sq X:=by
 refine⟨by rw[h.rc.1];omega,fun r j=>?_,hT⟩;obtain⟨i,hi,rfl⟩:=A3d.1 j;have:=h.rc.2 i (by have:=h.rc.1;omega);rw[Ch hi]at this;rw[this,h.rc.1]
def H6.txs (h:H6 P C q X)(t:In N C)(E:N<=33000000000)(K:Fd q)(u:P.Nodup)(H:0<C.c)(e:∀ z,0<=Dh z P C)(m:P.length<=11):∀ r∈X,∀ x∈r,Tx x:=fun r L x Q=>by
 obtain⟨j,k,I,J,rfl⟩:=h.cell L Q;exact (h.de t E K u H e m j k I J).tx oV oV oV oV
def Air {N:Nat}(h:Dn 2 N x)(e:N<=33000000000):De 11 3 x:=h.de oV fV
def Av6 (h:In N C)(j:N<=33000000000):∀ x∈Yz C P,De 11 3 x:=fun x m=>by
 obtain⟨e,_,rfl⟩:=A1b.1 m;exact Air (h.r e) j
structure Ah3 (P:List Par)(X:zM)(b:zR)(s c:Rat):Prop where
 n:X.length=P.length+1
 bn:b.length=P.length+1
 sq:Sq X
 bt:∀ x∈b,Tx x
 st:Tx s
 ct:Tx c
def H9.ok (h:H9 P C q X b s c)(e:In N C)(t:N<=33000000000)(I:Fd q)(u:P.Nodup)(H:0<C.c)(m:∀ z,0<=Dh z P C)(j:P.length<=11):Ah3 P X b s c where
 n:=h.inv.rc.1
 bn:=by rw[h.rt,A03,Cp]
 sq:=h.inv.sqr j (h.inv.txs e t I u H m j)
 bt:=fun x E=>by
  rw[h.rt]at E;exact (Av6 (P:=P) e t x E).tx oV oV oV oV
 st:=by rw[h.sq];exact (Air e.l t).tx oV oV oV oV
 ct:=by rw[h.ct];exact (Air (e.c none none) t).tx oV oV oV oV
end
end
section
variable {A:zM}{n:Nat}
def Y1 (m:Rec n n A)(u:Xu n (en A)):¬ (Bn n 0 [] (Lf n A) 1).1.length<n:=fun h=>by
 obtain⟨y,t,j,e,z⟩:=Af4 (w:=n+n) oV n 0 [] (Lf n A) 1 oV rfl (Rd m) (fun i j _ e=>absurd e (Nat.not_lt_zero _)) h;exact z (u y (fun i hi=>(Ah fun j e=>by rw[Ah9 m hi e]).trans (t i hi)) j e)
def Xs (e:Sq A):Rec A.length A.length A:=⟨rfl,fun i hi=>by rw[Ch hi];exact e.len hi⟩
def Pv (n:Nat)(X:zM):zM:=sqL n fun j k=>en X j (n+k)
def Lu (n:Nat)(X:zM):Rec n n (Pv n X):=Rh _ _
def Am6 (h:Rec n n A)(t:Xu n (en A)):Fe n (en A) (en (Pv n (Bn n 0 [] (Lf n A) 1).2.1)):=fun i k hi e=>by
 rw[<-Ao3 h (Y1 h t) i k hi e];exact Ah fun j m=>by rw[show en (Pv n (Bn n 0 [] (Lf n A) 1).2.1) j k=en (Bn n 0 [] (Lf n A) 1).2.1 j (n+k) from N6 m e]
def Th.tq {q:Rat}(h:Th q):Tq q:=⟨h.tx,h.den,h.num⟩
def Au7 (t:Sq A)(hT:∀ r∈A,∀ q∈r,Tq q):SzM (Lf A.length A) 2:=Aco (Rd (Xs t)) (fun i j hi C=>by
 have u:=Xs t;by_cases m:j<A.length
 ·have h:j<A[i].length:=by rw[t.len hi];exact m
  have e:=Ah9 u hi m;unfold en at e;rw[e,Ch hi,Cu h];exact (hT _ (A09 hi) _ (A09 h)).sz
 obtain⟨k,rfl⟩:∃ k,j=A.length+k:=⟨j-A.length,oV⟩;have e:=Arm u hi (k:=k) oV;unfold en at e;rw[e];unfold idN;split
 ·exact (Adt (z:=1) fV).mono oV
 exact Q3.mono oV)
end
section
variable {es:zV}{sz:Nat}{u:PH}{v:Value}
def QsP (u:PH)(v:Value)(qs:zR):Prop:=LP QP 4 u v qs
def Aa8 (u:PH)(v:Value)(X:zM):Prop:=LP QsP 1 u v X
def QsP.mono {u m:PH}{v:Value}{j:zR}(h:QsP u v j)(e:PH.le u m):QsP m v j:=LP.mono (fun _ _ k=>k.mono e) h e
def Aa8.mono {u j:PH}{v:Value}{X:zM}(h:Aa8 u v X)(e:PH.le u j):Aa8 j v X:=LP.mono (fun _ _ k=>QsP.mono k e) h e
def Aot {X:zM}(h:Aa8 u v X)(hT:∀ r∈X,∀ x∈r,Tx x)(hl:X.length<=1000)(hr:∀ r∈X,r.length<=1000) :
 Fn0 prog 63 [v] u fun r U=>∃ T,r=.tuple #[T,zO]/\C7 U T (Cv X):=by
 obtain⟨a,c,rfl⟩:=LP.opn h;refine Fn0.o func63<|G.l (ι:=Nat×(zP×Nat)×zV) (fun i=>[(4,sV i.2.1.1 i.2.2.length i.2.1.2),(9,sV a X.length c),(10,iV X.length),(11,iV i.1)]) (fun _=>[])
  (fun i U m'=>i.1<=X.length/\N4 U i.2.2 (Cv (X.take i.1))/\Af PH.mt m' (.slice i.2.1.1 i.2.2.length i.2.1.2) 46 1 i.2.2) (fun i=>X.length-i.1) (0,(none,0),[])
  ⟨oV,⟨rfl,fun j r hj=>by simp[Cv]at hj⟩,Af.nil _ _ _⟩ ?_
 rintro J ⟨i,⟨pa,pc⟩,es⟩ V u1 m1 Y ⟨hi,z,H⟩;simp only at hi z H V;have a0:es.length=i:=by rw[z.1];simp[Cv];omega
 by_cases C:i<X.length
 ·refine G.lT i X.length ?_;obtain⟨x,m⟩:∃ x,X[i]?=some x:=⟨_,A01 C⟩;have F:=A1k m;have P:X.take (i+1)=X.take i++[x]:=by rw[A1n,m];rfl
  obtain⟨b,o,e,rfl,e1,W⟩:=LP.at (Aa8.mono h Y) m;obtain⟨qa,qc,rfl⟩:=LP.opn W;obtain⟨a2,K,E⟩:=W;have a1:=E.1;refine G.N X.length c C e1<|G.c call83 (Apw K E (hT x F) (hr x F)) ?_;rintro v2 u2 l2 ⟨T,rfl,I⟩;obtain⟨la,R,rfl⟩:=Ac.opn I;have L:(Cc (x.map Ae)).length=(x.map Ae).length:=Cb _;rw[L]at I⊢;refine G.nF 0 0<|G.B 46 1 24 zN [.slice la (x.map Ae).length R] (B5 _ _ _) ?_;intro g3 u3 Q e3;refine G.append 46 1 24 zN PH.mt es [.slice la (x.map Ae).length R] _ g3 0 1 1 kV rfl rfl oV H e3 (B5 _ _ _) rfl oV oV oV ?_;intro v4 m4 t;obtain⟨Z,c4,rfl⟩:=t.shape;refine G.i i<|G.b (V (i+1,(Z,c4),es++[.slice la (x.map Ae).length R]) _ _ _ cV ((Y.trans l2).trans Q) ⟨dV,?_,t⟩ dV);have e5:Cv (X.take (i+1))=Cv (X.take i)++[x.map Ae]:=by rw[P];simp[Cv]
  dsimp only;rw[e5];exact (z.mono (l2.trans Q)).snoc1 (r:=x.map Ae) (Ac.mono I Q)
 obtain rfl:i=X.length:=oV;refine G.lF X.length X.length ?_;rw[A15]at z;refine G.give _ _ _ kV H (fun g=>.inl rfl) ?_;intro u6 l6 hF;exact G.r (.tuple #[.slice pa es.length pc,zO]) ⟨rfl,_,rfl,es,hF,z.mono l6⟩
def Af.split {m0 m:PH}{t:TypeId}(h:Af m0 m v t sz es):∃ sm,m=m0.or sm/\Hp m0 sm/\Af PH.mt sm v t sz es:=by
 obtain⟨C,h⟩:=h;rcases h with ⟨j,z,rfl⟩|⟨g,cap,rest,j,rfl,z,E,F,H⟩
 ·refine⟨PH.mt,?_,fun _=>.inr rfl,C,.inl ⟨j,z,rfl⟩⟩
  funext g;unfold PH.or;cases m g<;>rfl
 refine⟨PH.mt.upd g _,?_,fun k=>?_,C,.inr ⟨g,cap,rest,rfl,rfl,z,E,F,H⟩⟩
 ·funext k
  unfold PH.or;by_cases e:k=g
  ·subst e;rw[j,Ab,Ab]
  rw[Ad _ _ e,Ad _ _ e];cases m0 k<;>rfl
 by_cases e:k=g
 ·subst e;exact .inl j
 exact .inr (Ad _ _ e)
def Ac.dropL {g off n c sz k:Nat}(h:Ac u (.slice (some ⟨g,off,none⟩) n c) sz es)(I:k<=n):Ac u (.slice (some ⟨g,off+k*sz,none⟩) (n-k) (c-k)) sz (es.drop k):=by
 obtain⟨E,F,e,H,C⟩:=h;cases e;refine⟨_,c-k,by rw[A4y],by rw[A4y];omega,fun j e m=>?_⟩;rw[A39]at m;obtain⟨b,o,t,z⟩:=C (k+j) e m;cases t;exact⟨g,off+k*sz,rfl,by rw[show off+k*sz+j*sz=off+(k+j)*sz by rw[A16];omega];exact z⟩
def Vf (k j:Nat):zR:=(List.range k).map fun t=>idN j t
def Ahi (k j:Nat):Vf (k+1) j=Vf k j++[idN j k]:=by unfold Vf;rw[A5d,A1i];rfl
def Av1 {A:zM}(h:C7 u v (Cv A))(hs:Sq A)(h0:0<A.length)(hT:∀ r∈A,∀ q∈r,Tq q)(hk:Xu A.length (en A))(hX:∀ r∈Pv A.length (Bn A.length 0 [] (Lf A.length A) 1).2.1,∀ x∈r,Tx x) :
 Fn0 prog 65 [v] u fun r Y=>∃ lv,r=.tuple #[lv,zO]/\C7 Y lv (Cv (Pv A.length (Bn A.length 0 [] (Lf A.length A) 1).2.1)):=by
 obtain⟨a0,c0,rfl⟩:=h.opn;rw[A3]at h⊢;have af:=hs.le;refine Fn0.o func65<|G.c call61 (And h hs) ?_;rintro v1 u1 l1 rfl;refine G.nF 0 0<|G.nF A.length A.length ?_;have h1:=h.mono l1;clear h;refine G.c call138 (Amo (n:=A.length) (w:=A.length) h1 af hs.row af hT af) ?_;rintro v3 u3 l3 rfl;refine G.callO _ _ kV call62 (Ane (h1.mono l3) hs) ?_;rintro v6 u6 m6 l6 ⟨a6,V,ad,rfl,an,Z⟩ _;rw[By];have ab:ad.length=A.length:=an.1;obtain⟨go,c4,eo⟩:=Z.ptr 0 rfl (by intro e;simp only[oQ,A6c]at e;rw[e]at ab;simp at ab;omega);simp only[oQ,A03,ab,Value.slice.injEq,true_and]at eo;obtain⟨rfl,rfl⟩:=eo;clear h1;have b0:∀ (m:List (Value×zV)) (i:Nat) (r:Value×zV) (Y m':PH) (k:Nat),m.length=A.length->m[i]?=some r->Bag m' (oQ (.slice (zA go) A.length V) m::m.map Ej)->AtP QP Y r.2 (gM A i++Vf k i)->i<A.length ->
  ∃ R L C,r=(.slice (zA R) (A.length+k) L,C)/\C.length=A.length+k:=by
  rintro m i ⟨vi,C⟩ Y m' k T I t W hi;have K:C.length=A.length+k:=by rw[W.1,A1d,Ch hi,hs.len hi];simp[Vf]
  obtain⟨R,L,e⟩:=t.ptr (i+1) (x:=Ej (vi,C)) (by simp[I]) (by intro e;simp only[Ej]at e;rw[e]at K;simp at K;omega);simp only[Ej]at e;rw[K]at e;subst e;exact⟨R,L,C,rfl,K⟩
 refine G.l (ι:=Nat×List (Value×zV)) (fun i=>[(4,iV A.length),(5,iV A.length),(7,sV (zA go) A.length V),(32,iV A.length),(33,iV i.1)]) (fun _=>[])
  (fun i Y m'=>i.1<=A.length/\i.2.length=A.length/\(∀ j r,i.2[j]?=some r->AtP QP Y r.2 (gM A j++if j<i.1 then Vf A.length j else []))/\Bag m' (oQ (.slice (zA go) A.length V) i.2::i.2.map Ej)) (fun i=>A.length-i.1) (0,ad)
  ⟨oV,ab,fun j r F=>by rw[if_neg oV,A1x];exact an.2 j r F,Z⟩ ?_
 clear Z an ab;rintro J ⟨i,m⟩ hJ u7 m7 l7 ⟨hi,T,hQ,t⟩;simp only at hi T hQ t hJ;by_cases U:i<A.length
 ·refine G.lT i A.length<|G.l (ι:=Nat×List (Value×zV)) (fun k=>[(4,iV A.length),(5,iV A.length),(7,sV (zA go) A.length V),(32,iV A.length),(33,iV i),(8,iV i),(9,iV k.1)]) (fun _=>[])
   (fun k Y m'=>k.1<=A.length/\k.2.length=A.length/\(∀ j r,k.2[j]?=some r->AtP QP Y r.2 (gM A j++if j<i then Vf A.length j else if j=i then Vf k.1 j else []))/\Bag m' (oQ (.slice (zA go) A.length V) k.2::k.2.map Ej)) (fun k=>A.length-k.1) (0,m)
   ⟨oV,T,fun j r F=>by
    have:=hQ j r F;dsimp only;by_cases e:j<i
    ·rw[if_pos e]at this⊢;exact this
    rw[if_neg e]at this⊢;split
    ·exact this
    exact this,t⟩ ?_
  clear hQ t T;rintro J2 ⟨k,m⟩ b2 u8 m8 l8 ⟨bq,T,hQ,t⟩;simp only at bq T hQ t b2;by_cases c7:k<A.length
  ·refine G.lT k A.length ?_;obtain⟨r,I⟩:∃ r,m[i]?=some r:=⟨_,A01 oV⟩;have W:=hQ i r I;rw[if_neg (Nat.lt_irrefl _),if_pos rfl]at W;obtain⟨R,L,C,rfl,K⟩:=b0 m i r u8 m8 k T I t W U;have bs:(oQ (.slice (zA go) A.length V) m::m.map Ej)[i+1]?=some (Ej (.slice (zA R) (A.length+k) L,C)):=by simp[I]
   have br:ElP m8 go (0+i*1) (.slice (zA R) (A.length+k) L):=t.el 0 (x:=oQ _ _) rfl rfl (by simp[oQ,I]);refine G.join (ι:=Int) zL (fun z=>[(4,iV A.length),(5,iV A.length),(7,sV (zA go) A.length V),(32,iV A.length),(33,iV i),(8,iV i),(9,iV k),(10,iV z)]) (fun _=>[])
    (fun z Y m'=>m'=m8/\Y=u8/\z=if i=k then 1 else 0) (fun _=>kV) kV ?tail ?way
   case way =>
    intro aa;by_cases b6:i=k
    ·refine G.eT i k<|G.pastI ?_;exact aa 1 _ _ _ kV cV (PH.le_refl _) ⟨rfl,rfl,by rw[if_pos b6]⟩
    refine G.eF i k ?_;exact aa 0 _ _ _ kV cV (PH.le_refl _) ⟨rfl,rfl,by rw[if_neg b6]⟩
   rintro z u9 m9 l9 ⟨rfl,rfl,hz⟩;have bw:((z:Int):Rat)=idN i k:=by
    rw[hz];unfold idN;split<;>rfl
   have c8:0<=z/\z<=1:=by rw[hz];split<;>omega
   refine G.O A.length V U br<|G.c call22 (P6 (z:=z) oV oV) ?_;intro cd cb aw av;rw[bw]at av;obtain⟨H,rfl⟩:=av.opQ;refine G.B 69 4 64 zQ [qv H] (Akh H) ?_;intro bj az a3 bi;obtain⟨mm,bd,b8⟩:=t.focus (i+1) bs;rw[Rg]at bd;refine G.append 69 4 64 zQ mm C [qv H] (.slice (zA R) (A.length+k) L) bj 0 1 1 kV rfl rfl oV bd bi (Akh H) rfl oV oV oV ?_;intro c3 ay aj;have ah:=b8 (Ej (c3,C++[qv H])) ay aj;obtain⟨a4,a5,rfl⟩:=aj.shape;rw[A2j]at ah;obtain⟨mo,bf,ar⟩:=ah.focus 0 rfl;rw[Al7]at bf;refine G.a go 0 A.length V i 1 U<|G.storeA 1 mo _ go A.length V i (.slice a4 (C++[qv H]).length a5) kV bf gV rfl rfl ?_;intro bh ak;rw[show (m.map (·.1)).set i (Value.slice a4 (C++[qv H]).length a5)=(m.set i (Value.slice a4 (C++[qv H]).length a5,C++[qv H])).map (·.1) by rw[A2g]]at ak;have ai:=ar (oQ (.slice (zA go) A.length V) (m.set i (Value.slice a4 (C++[qv H]).length a5,C++[qv H]))) bh ak;rw[A2p,<-A2g]at ai;refine G.i k<|G.b (b2 (k+1,m.set i (Value.slice a4 (C++[qv H]).length a5,C++[qv H])) _ _ _ cV ((l8.trans aw).trans a3) ⟨dV,by dsimp only;rw[A21];exact T,?_,ai⟩ dV);intro j r F;dsimp only at F⊢;rw[A1z]at F;by_cases a2:i=j
   ·subst a2;rw[if_pos rfl,if_pos oV]at F;cases F;rw[if_neg (Nat.lt_irrefl _),if_pos rfl,Ahi,<-A2k];exact (W.mono (fun _ _ k=>k.mono (aw.trans a3))).snoc (av.mono a3)
   rw[if_neg a2]at F;have P:=(hQ j r F).mono (fun _ _ k=>k.mono (aw.trans a3));by_cases X:j<i
   ·rw[if_pos X]at P⊢;exact P
   rw[if_neg X,if_neg (Ne.symm a2)]at P⊢;exact P
  obtain rfl:k=A.length:=oV;refine G.lF A.length A.length<|G.i i<|G.b (hJ (i+1,m) _ _ _ cV (l7.trans l8) ⟨dV,T,?_,t⟩ dV);intro j r F;have P:=hQ j r F;dsimp only;by_cases X:j<i
  ·rw[if_pos X]at P;rw[if_pos oV];exact P
  rw[if_neg X]at P;by_cases e:j=i
  ·rw[if_pos e]at P;rw[if_pos oV];exact P
  rw[if_neg e]at P;rw[if_neg oV];exact P
 clear hJ;obtain rfl:i=A.length:=oV;refine G.lF A.length A.length ?_;have ao:=Rd (Xs hs);have bm:=Au7 hs hT;have bl:QAt u7 m (Lf A.length A):=⟨by rw[T,ao.1],fun j r F=>by
  have a9:j<A.length:=by
   obtain⟨q1,_⟩:=A05.1 F;omega
  have P:=hQ j r F;rw[if_pos a9]at P;rw[Sp a9];exact P⟩
 clear hQ b0;refine G.A call139 (Apb ao oV oV oV bm oV (es1 af) bl t) ?_;rintro v8 u8 m8 l8 ⟨pa,pc,f,Q,rfl,_,am,ap⟩ _;rw[By];have bp:=Y1 (Xs hs) hk;have hE:=Wp A.length 0 [] (Lf A.length A) 1 ao;generalize c6:Bn A.length 0 [] (Lf A.length A) 1=E at *
 refine G.lF E.1.length A.length ?_;obtain⟨m9,be,bo⟩:=ap;refine G.drop m9 kV (Ad3 be) ?_;clear be;obtain⟨bz,ac,a7⟩:=bo;rw[Al7]at ac;obtain⟨sm,bt,bn,bg⟩:=ac.split;refine G.giveP (ma:=bz) (sm:=sm) kV bt bn (fun g=>.inl rfl) ?_;intro az a3 b7;have b9:Q.length=A.length:=by rw[am.1,hE.1]
 have ba:∀ j,j<A.length->∃ R L C,Q[j]?=some (.slice (zA R) (A.length+A.length) L,C)/\A.length+A.length<=L/\Ac az (.slice (zA R) (A.length+A.length) L) 4 C/\AtP QP az C (gM E.2.1 j):=fun j F=>by
  obtain⟨⟨vi,C⟩,I⟩:∃ r,Q[j]?=some r:=⟨_,A01 oV⟩;have W:=am.2 j _ I;have K:C.length=A.length+A.length:=by rw[W.1,hE.2 j F]
  obtain⟨R,L,e⟩:=a7.ptr j (x:=Ej (vi,C)) (by simp[I]) (by intro e;simp only[Ej]at e;rw[e]at K;simp at K;omega);simp only[Ej]at e;rw[K]at e;subst e;obtain⟨mf,au,_⟩:=a7.focus j (x:=Ej (.slice (zA R) (A.length+A.length) L,C)) (by simp[I]);rw[Rg]at au;have a8:=au.cap;exact⟨R,L,C,I,a8,by simpa[K] using au.list b7,W.mono (fun _ _ k=>k.mono a3)⟩
 clear a7 am t ac;have bb:∀ (R L:Nat) (C:zV) (j:Nat) (Y:PH),j<A.length->A.length+A.length<=L->Ac Y (.slice (zA R) (A.length+A.length) L) 4 C->AtP QP Y C (gM E.2.1 j)->QsP Y (.slice (some ⟨R,0+A.length*4,none⟩) (A.length+A.length-A.length) (L-A.length)) (gM (Pv A.length E.2.1) j):=fun R L C j Y F hc hL hA=>by
  have b5:(gM (Pv A.length E.2.1) j).length=A.length:=(Lu A.length E.2.1).2 j F;have K:C.length=A.length+A.length:=by rw[hA.1,hE.2 j F]
  have hg:∀ k,k<A.length->gR (gM (Pv A.length E.2.1) j) k=gR (gM E.2.1 j) (A.length+k):=fun k hk=>N6 (f:=fun j k=>en E.2.1 j (A.length+k)) F hk;refine⟨C.drop A.length,hL.dropL oV,by rw[A4y,K,b5];omega,fun k x hx=>?_⟩;obtain⟨hk,bu⟩:=A05.1 hx;rw[b5]at hk;obtain⟨e,h1,h2⟩:=hA.2 (A.length+k) (gR (gM E.2.1 j) (A.length+k)) (by
   have hl:A.length+k<(gM E.2.1 j).length:=by rw[hE.2 j F];omega
   rw[A01 hl,Cu hl])
  refine⟨e,by rw[A39];exact h1,?_⟩;have:x=gR (gM E.2.1 j) (A.length+k):=by rw[<-hg k hk,<-bu,Cu]
  rw[this];exact h2
 refine G.l (ι:=Nat×zV) (fun i=>[(5,iV A.length),(7,sV (zA go) A.length V),(67,iV A.length),(68,iV i.1)]) (fun _=>[])
  (fun i Y m'=>i.1<=A.length/\i.2.length=A.length/\(∀ j,j<A.length->if j<i.1 then ∃ e,i.2[j]?=some e/\QsP Y e (gM (Pv A.length E.2.1) j) else i.2[j]?=(Q.map (·.1))[j]?)/\Af PH.mt m' (.slice (zA go) A.length V) 131 1 i.2) (fun i=>A.length-i.1) (0,Q.map (·.1))
  ⟨oV,by rw[A03];exact b9,fun j _=>by rw[if_neg (Nat.not_lt_zero _)],bg⟩ ?_
 clear bg;rintro J ⟨i,es⟩ hJ c1 ay ax ⟨hi,a1,ae,hA⟩;simp only at hi a1 ae hA hJ;by_cases U:i<A.length
 ·refine G.lT i A.length ?_;obtain⟨R,L,C,I,a8,hL,bk⟩:=ba i U;have b4:=ae i U;rw[if_neg (Nat.lt_irrefl _),A1a,I]at b4;refine G.O A.length V U (hA.el b4)<|G.sliceFrom R 0 (A.length+A.length) L A.length 4 kV oV oV<|G.a go 0 A.length V i 1 U<|G.storeA 1 PH.mt _ go A.length V i (.slice (some ⟨R,0+A.length*4,none⟩) (A.length+A.length-A.length) (L-A.length)) kV hA oV rfl rfl ?_;intro bh b1;refine G.i i<|G.b (hJ (i+1,es.set i (.slice (some ⟨R,0+A.length*4,none⟩) (A.length+A.length-A.length) (L-A.length))) _ _ _ cV ax ⟨dV,by dsimp only;rw[A21];exact a1,?_,b1⟩ dV);intro j F;dsimp only;rw[A1z];by_cases a2:i=j
  ·subst a2;rw[if_pos oV,if_pos rfl,if_pos oV];exact⟨_,rfl,bb R L C i c1 U a8 (hL.mono ax) (bk.mono (fun _ _ k=>k.mono ax))⟩
  rw[if_neg a2];have P:=ae j F;by_cases X:j<i
  ·rw[if_pos X]at P;rw[if_pos oV];exact P
  rw[if_neg X]at P;rw[if_neg oV];exact P
 clear hJ;obtain rfl:i=A.length:=oV;refine G.lF A.length A.length ?_;have c5:Af PH.mt ay (.slice (zA go) es.length V) 131 1 es:=by rw[a1];exact hA
 refine G.give PH.mt es _ kV hA (fun g=>.inl rfl) ?_;intro c2 bx b3;have hM:Aa8 c2 (.slice (zA go) A.length V) (Pv A.length E.2.1):=by
  refine⟨es,b3,by rw[a1,(Lu A.length E.2.1).1],fun j r F=>?_⟩;obtain⟨aq,e⟩:=A05.1 F;have a9:j<A.length:=by rw[(Lu A.length E.2.1).1]at aq;exact aq
  have P:=ae j a9;rw[if_pos a9]at P;obtain⟨x,h1,h2⟩:=P;rw[Ch aq,e]at h2;exact⟨x,h1,QsP.mono h2 bx⟩
 have al:=Lu A.length E.2.1;refine G.c call63 (Aot hM hX (by rw[al.1];omega) (fun r hr=>by
  obtain⟨j,F,rfl⟩:=A3d.1 hr;have:=al.2 j (by have:=al.1;omega);rw[Ch F]at this;omega)) ?_
 rintro ce cc ca ⟨lv,rfl,ag⟩;obtain⟨la,lc,rfl⟩:=ag.opn;exact G.r (.tuple #[_,zO]) ⟨rfl,_,rfl,ag⟩
end
section
section
variable {u:PH} {T:zC} {R:List Br} {F:List Al} {lab:Int} {ss:zW} {L:List Dm} {P:List Par}
def A00 (ok:Bl u T R F lab)(H:Bw T ss)(I:G4 F lab ss=true){i:Nat}{a m:Nat}(hi:F[i]?=some (a,2,m))(c:zB):(cfT F lab ss).s ((i:Int),c)=if ss.getD a []=c then 1 else 0:=by
 have E:=H.len;rw[Acn ok.feat H ok.l1 (fun l e=>by have:=Iz ok l e;omega) I (by show (0:Int)<=(i:Int);omega)];have z:=(A05.1 hi).1;by_cases e:ss.getD a []=c
 ·rw[if_pos e];refine Kh (Nb F ss F.length (A08 _)) (F9.2 ⟨i,_,z,hi,?_⟩);unfold Jf;rw[if_pos rfl,e]
 rw[if_neg e];refine Na fun J=>?_;obtain⟨x,K,h⟩:=A1b.1 J;obtain⟨k,f,_,C,j⟩:=F9.1 K;have t:=Ow j;rw[h]at t;obtain rfl:k=i:=by have t:(i:Int)=(k:Int):=t;omega
 rw[hi]at C;cases C;unfold Jf at j;rw[if_pos rfl]at j;cases j;cases h;exact e rfl
def Awu (ok:Bl u T R F lab)(m:Bw T ss)(t:G4 F lab ss=false):Ag0 (cfT F lab ss):=by
 have j:=m.len;rcases Pf ok.feat m ok.l1 (fun l e=>by have:=Iz ok l e;omega) with ⟨h,_⟩|⟨_,h⟩
 ·rw[t]at h;cases h
 exact h
def Apr (ok:Bl u T R F lab)(m:Bw T ss)(t:G4 F lab ss=true):Qi (cfT F lab ss):=by
 have j:=m.len;rcases Pf ok.feat m ok.l1 (fun l e=>by have:=Iz ok l e;omega) with ⟨_,h⟩|⟨h,_⟩
 ·exact h
 rw[t]at h;cases h
end
end
section
variable {H:CF}{X:zM}{b:zR}{c s:Rat}
section
variable {u:PH} {T:zC} {R:List Br} {F:List Al} {lab:Int} {L:List Dm} {xv cv:Value} {P:List Par} {K:Nat}
def Atw (ok:Bl u T R F lab)(I:T.length<=8)(hT:∀ y∈L,Bw T y.1/\y.2.1<=7)(h:L.length<=10):CFD 16 (10^75) (Cf F lab L):=by
 obtain⟨d,_⟩:=Alz ok hT;refine d.to oV ?_;have e:12^(16-2*T.length)=144^(8-T.length):=by
  rw[show 16-2*T.length=2*(8-T.length) by omega,Nat.pow_mul]
 have m:144^(8-T.length)<=1374926400^(8-T.length):=Nat.pow_le_pow_left oV _;have t:1374926400^T.length*1374926400^(8-T.length)=1374926400^8:=by rw[<-A4k];congr 1;omega
 have z:1374926400^8*70<=10^75:=jV
 rw[e];have j:L.length*(1374926400^T.length*7)*144^(8-T.length)<=10*(1374926400^T.length*7)*1374926400^(8-T.length):=A25 (A13 _ h) m;have E:10*(1374926400^T.length*7)*1374926400^(8-T.length)=(1374926400^T.length*1374926400^(8-T.length))*70:=by
  generalize 1374926400^T.length=a;generalize 1374926400^(8-T.length)=b;rw[A19 10,A17 a 7 10,A17 a b 70,A17 a (7*10) b,A19 (7*10) b]
 rw[E,t]at j;exact A04 j z
def Ajm (Q:H5 u xv T R F lab)(ok:Bl u T R F lab)(t:T.length<=8)(hT:∀ y∈L,Bw T y.1/\y.2.1<=7)(h:L.length<=10)(E:No u cv (Cf F lab L) K)(I:K<=10000)(J:Nn F (Cf F lab L) P)(m:P.length<=24)(e:0<=lab) :
 ∃ k,Te u xv cv T R F lab (Cf F lab L) K k P:=by
 obtain⟨k,U,V⟩:=Arb ok.feat ok.l1 (Iz ok) hT;obtain⟨W,z⟩:=Aee ok t hT oV;have j:=L0 ok ok.l1 (Iz ok) hT;exact⟨k,Q,ok,E,W,z,I,Avj,Avn j oV z U oV,J,m,e,Atw ok t hT h⟩
end
section
variable {u:PH} {v cv:Value} {T:zC} {R:List Br} {F:List Al} {lab:Int} {C:CF} {K k:Nat} {P:List Par}
def Te.w (h:Te u v cv T R F lab C K k P):Aam u v cv T R F lab C K k :=
 ⟨h.sch,h.ok,h.cof,h.sC,h.vC,h.K,h.bel,h.mom,fun j e=>by rw[<-h.prm.eq e];exact h.p24,h.lab0⟩
structure Ug (P:List Par)(C:CF):Prop where
 cd:∃ N,N<=33000000000/\In N C
 pos:0<C.c
 psd:∀ z,0<=Dh z P C
structure Td (F:List Al)(P:List Par)(q:Rat):Prop where
 srt:Hb Bk P
 le:P.length<=11
 par:∀ p∈P,0<=p.1
 pen:Fd q
def H9.okF {q:Rat}(h:H9 P C q X b s c)(hp:Td F P q)(e:Ug P C):Ah3 P X b s c:=by
 obtain⟨N,m,j⟩:=e.cd;exact h.ok j m hp.pen (hp.srt.nodup Et) e.pos e.psd hp.le
def H9.light {q:Rat}{X:zM}{b:zR}{s c:Rat}(h:H9 P C q X b s c)(hp:Td F P q)(e:Ug P C)(m:P.length<=5):∃ L,Y5 X L 86:=by
 obtain⟨N,t,j⟩:=e.cd;exact h.inv.light j t hp.pen (hp.srt.nodup Et) e.pos e.psd m
def H9.stepF {w q:Rat}(h:H9 P C q X b s c)(hp:Td F P q)(o:Qi H)(e:Ug P (C.add (H.scale w))) :
 byN (P.length+1) (en X) (Fg P H.s) w≠0/\H9 P (C.add (H.scale w)) q (Nj (P.length+1) X (Fg P H.s) w) (Pq P b H.s w (H.s B7)) (s+w*H.s B7*H.s B7) (c+w) :=
 h.step o (hp.srt.nodup Et) e.pos hp.pen.pos e.psd
def Axc:Value:=.agg #[zN,zN,zN,zE,zE,zE]
def Ma (u:PH)(v:Value)(P:List Par)(X:zM)(b:zR)(s c q:Rat):Prop :=
 ∃ (pa:zP) (pc:Nat) (xa:zP) (xc:Nat) (ra:zP) (rc:Nat),v=.agg #[.slice pa P.length pc,.slice xa X.length xc,.slice ra b.length rc,zS (Ae s),zS (Ae c),zS (Ae q)] /\
  Ac u (.slice pa P.length pc) 2 (P.map Ap)/\C7 u (.slice xa X.length xc) (Cv X)/\Cj u (.slice ra b.length rc) (b.map Ae)
def Ma.mono {u m:PH}{v:Value}{X:zM}{b:zR}{s c q:Rat}(h:Ma u v P X b s c q)(j:PH.le u m):Ma m v P X b s c q:=by
 obtain⟨pa,pc,xa,xc,ra,rc,e,t,z,E⟩:=h;exact⟨pa,pc,xa,xc,ra,rc,e,t.mono j,z.mono j,Ac.mono E j⟩
end
section
variable {u:PH} {T:zC} {R:List Br} {F:List Al} {lab:Int} {L:List Dm} {C:CF} {P:List Par} {q:Rat}
theorem Vx (ok:Bl u T R F lab)(hT:∀ y∈L,Bw T y.1/\y.2.1<=7)(h13:L.length<=13)(hc:0<(Cf F lab L).c):Ug P (Cf F lab L) :=
 ⟨⟨_,oV,L0 ok ok.l1 (Iz ok) hT⟩,hc,fun z=>Af3 ok.feat ok.l1 (Iz ok) z P fun y hy=>(hT y hy).1⟩
def Al6 (h:Nn F C P)(j:Fd q)(e:P.length<=11):Td F P q :=
 ⟨h.1,e,fun p hp=>by
  rcases (h.2 p).1 hp with ⟨i,f,rfl,_⟩|⟨_,i,f,m,_⟩
  ·show 0<=(i:Int);omega
  omega,j⟩
theorem Als (h:Ag0 H)(w:Rat):C.add (H.scale w)=C:=by
 cases C;simp only[CF.add,CF.scale,h.c]
 congr 1
 ·grind
 ·funext p;rw[h.s];grind
 funext p;rw[h.t];grind
end
end
section
variable {cs:Array Value}{k n:Nat}{ts:zW}{v:Value}
def K6 (ts:zW)(n k:Nat):zW:=ts.take k++List.replicate (n-k) []
def Aop {t:zB}(j:ts.length=n)(e:ts[k]?=some t):(K6 ts n k).set k t=K6 ts n (k+1):=by
 obtain⟨h,_⟩:=A05.1 e;unfold K6;rw[A4t _ _ (by rw[A1e];omega),A1e,show k-min k ts.length=0 by omega,show n-k=(n-(k+1))+1 by omega,A68,A2p,A1n,e,A2k];rfl
def An1 (h:ts.length=n)(e:k<=n):(K6 ts n k).length=n:=by unfold K6;rw[A1d,A1e,A3k];omega
def Acd {u:PH}{f n:Nat}{cap:zV}{X:zM}(ht:Hx u)(P:Rec n n X)(hn:n<=1000)(hT:∀ r∈X,∀ x∈r,Tx x)(R:∀ args w,(callFunc f args).run prog w=.ok (.enter f args) w)
 (hf:∀ i k,i<n->k<n->∀ Y,PH.le u Y->Fn0 prog f (zI i::zI k::cap) Y fun r ag=>Bg ag r (en X i k)) :
 Fn0 prog 123 [zI n,zI n,.func (.func f) #[] cap.toArray] u fun r Y=>∃ lv,r=.tuple #[lv,zO]/\C7 Y lv (Cv X):=by
 have ae:∀ i k,i<n->k<n->Tx (en X i k):=fun i k hi hk=>by
  have I:i<X.length:=by rw[P.1];exact hi
  have h2:=P.2 i hi;rw[Ch I]at h2;have h3:k<X[i].length:=oV;unfold en;rw[Ch I,Cu h3];exact hT _ (A09 I) _ (A09 h3)
 have t:∀ i,i<n->((gM X i).map Ae).length=n:=fun i hi=>by rw[A03];exact P.2 i hi
 have a1:∀ i k,i<n->k<n->((gM X i).map Ae)[k]?=some (Ae (en X i k)):=fun i k hi hk=>by
  have h3:k<(gM X i).length:=by rw[P.2 i hi];exact hk
  rw[A1a,A01 h3];unfold en;rw[Cu h3];rfl
 refine Fn0.o func123<|G.make 46 1 24 zN n kV rfl rfl oV oV oV ?_;rintro v1 m1 K ⟨aO,rfl⟩;obtain⟨go,rfl,_⟩:=K.some';refine G.l (ι:=Nat×zV) (fun i=>[(1,iV n),(2,.v (.func (.func f) #[] cap.toArray)),(8,sV (zA go) n n),(16,iV n),(17,iV i.1)]) (fun _=>[])
  (fun i Y Z=>i.1<=n/\i.2.length=n/\(∀ j,j<i.1->∃ a c,i.2[j]?=some (.slice a n c)/\Cj Y (.slice a n c) ((gM X j).map Ae))/\Bag Z [⟨.slice (zA go) n n,46,1,i.2⟩]) (fun i=>n-i.1) (0,List.replicate n zN)
  ⟨oV,mV,fun j hj=>absurd hj (Nat.not_lt_zero _),PH.mt,K,trivial⟩ ?_
 clear K;rintro J ⟨i,es⟩ hJ u2 m2 l2 ⟨hi,T,U,hA⟩;simp only at hi T U hA hJ;by_cases h:i<n
 ·refine G.lT i n<|G.make 34 1 16 zE n kV rfl rfl oV oV oV ?_;rintro v3 m3 L ⟨aR,rfl⟩;obtain⟨m,rfl,_⟩:=L.some';have a0:Bag m3 [⟨.slice (zA m) n n,34,1,Cc (K6 ((gM X i).map Ae) n 0)⟩,⟨.slice (zA go) n n,46,1,es⟩]:=⟨m2,by
   have:Cc (K6 ((gM X i).map Ae) n 0)=List.replicate n zE:=by unfold K6 Cc;simp
   rw[this];exact L,hA⟩
  obtain⟨mo,F,C⟩:=a0.focus 1 rfl;refine G.a go 0 n n i 1 h<|G.storeA 1 mo es go n n i (.slice (zA m) n n) kV F oV rfl rfl ?_;intro m4 a8;have E:=C ⟨.slice (zA go) n n,46,1,es.set i (.slice (zA m) n n)⟩ m4 a8;rw[A2j,A2p]at E;have a5:(es.set i (.slice (zA m) n n))[i]?=some (.slice (zA m) n n):=by rw[A1z,if_pos rfl,if_pos oV]
  have a4:∀ {Z:PH} {rs:zV},Bag Z [⟨.slice (zA m) n n,34,1,rs⟩,⟨.slice (zA go) n n,46,1,es.set i (.slice (zA m) n n)⟩]->ElP Z go (0+i*1) (.slice (zA m) n n):=fun hb=>hb.el 1 rfl rfl a5;refine G.O n n h (a4 E) ?_;clear C F a8 a0 L;refine G.l (ι:=Nat) (fun k=>[(1,iV n),(2,.v (.func (.func f) #[] cap.toArray)),(8,sV (zA go) n n),(9,iV i),(16,iV n),(17,iV i),(29,iV n),(30,iV k)]) (fun _=>[])
   (fun k Y Z=>k<=n/\Bag Z [⟨.slice (zA m) n n,34,1,Cc (K6 ((gM X i).map Ae) n k)⟩,⟨.slice (zA go) n n,46,1,es.set i (.slice (zA m) n n)⟩]) (fun k=>n-k) 0 ⟨oV,E⟩ ?_
  clear E;rintro J2 k a9 u5 m5 l5 ⟨hk,Q⟩;by_cases z:k<n
  ·refine G.lT k n<|G.call0 f (zI i::zI k::cap) kV R (hf i k h z u5 (l2.trans l5)) ?_;intro v6 u6 l6 k6;obtain⟨b6,a6,n6,c6,ai,ah,al,aj,rfl⟩:=k6.opn;refine G.c call71 (Uf (ht.mono ((l2.trans l5).trans l6)) k6 (ae i k h z)) ?_;rintro v7 u7 l7 rfl;refine G.nF 0 0<|G.O n n h (a4 Q)<|G.a m 0 n n k 1 z ?_;obtain⟨mr,H,W⟩:=Q.focus 0 rfl;refine G.storeA 1 mr _ m n n k (zS (Ae (en X i k))) kV H (by rw[Cb,An1 (t i h) hk];exact z) rfl rfl ?_;intro m8 af;have e8:(Cc (K6 ((gM X i).map Ae) n k)).set k (zS (Ae (en X i k)))=Cc (K6 ((gM X i).map Ae) n (k+1)):=by
    rw[<-Aop (t i h) (a1 i k h z)];unfold Cc;rw[A2g]
   have ac:=W ⟨.slice (zA m) n n,34,1,Cc (K6 ((gM X i).map Ae) n (k+1))⟩ m8 (by rw[<-e8];exact af);exact G.i k<|G.b (a9 (k+1) _ _ _ cV ((l5.trans l6).trans l7) ⟨oV,ac⟩ oV)
  obtain rfl:k=n:=oV;refine G.lF k k ?_;obtain⟨mo,H,mq,F,ak⟩:=Q;have e9:K6 ((gM X i).map Ae) k k=(gM X i).map Ae:=by unfold K6;rw[A4i,A42,A1x,A1j (by rw[t i h];omega)]
  rw[e9]at H;refine G.give mo _ _ kV H (fun _=>.inl rfl) ?_;intro u6 l6 ab;refine G.i i<|G.b (hJ (i+1,es.set i (.slice (zA m) k k)) _ _ _ cV ((l2.trans l5).trans l6) ⟨dV,by dsimp only;rw[A21];exact T,?_,mq,F,trivial⟩ dV);intro j hj;dsimp only;by_cases a2:i=j
  ·subst a2;exact⟨_,_,a5,ab⟩
  obtain⟨a,c,I,h2⟩:=U j oV;exact⟨a,c,by rw[A1z,if_neg a2];exact I,Ac.mono h2 (l5.trans l6)⟩
 obtain rfl:i=n:=oV;refine G.lF i i ?_;obtain⟨mb,hA,_⟩:=hA;refine G.give mb es _ kV hA (fun _=>.inl rfl) ?_;intro u3 l3 aa;refine G.drop PH.mt kV (PH.mt_le _)<|G.r (.tuple #[.slice (zA go) i i,zO]) ⟨rfl,_,rfl,es,aa,by rw[T,A3,P.1],fun j r hj=>?_⟩;obtain⟨a3,e⟩:=A05.1 hj;have V:j<i:=by rw[A3,P.1]at a3;exact a3
 obtain⟨a,c,I,h2⟩:=U j V;have hr:r=(gM X j).map Ae:=by
  rw[<-e];have ad:j<X.length:=by rw[P.1];exact V
  simp only[Cv,A3v];rw[Ch ad]
 have a7:r.length=i:=by rw[hr,t j V]
 exact⟨a,c,by rw[a7];exact I,by rw[a7,hr];exact Ac.mono h2 l3⟩
def Po {u:PH}{g off:Nat}{t:TypeId}{fr:Nat×Nat}(h:u g=some (.cells cs t fr))(e:∀ i y,v.cells[i]?=some y->cs[off+i]?=some y):ElP u g off v:=fun i y j=>⟨cs,t,fr,h,e i y j⟩
def G2 (h:v.cells = #[v])(j:cs[k]?=some v):∀ i y,v.cells[i]?=some y->cs[k+i]?=some y:=fun i y e=>by
 rw[h]at e
 match i,e with
 |0,e=>simp at e;subst e;exact j
def Awo {u:PH}{C Z W n c0 h pn pc on oc i k D:Nat}{I a0 pa ao:Option Addr}{fv H:N3}{a5:Bool}{S:List (List Int)}{z:Int}
 (hr:u C=some (.cells #[.slice I n h,.slice pa pn pc,.bool fv.b,.slice fv.a fv.n fv.c,.bool a5] 192 (0,0))) (ha:u Z=some (.cells #[.slice a0 n c0] 45 (0,0)))
 (hg:u W=some (.cells #[.bool H.b,.slice H.a H.n H.c,.slice ao on oc] 187 (0,0))) (hS:Nl u (.slice I n h) S) (P:E8 n (n+n) S) (hV:Bi u (nv fv) z) (hD:Bi u (nv H) (D:Int))
 (h1:nl (enZ S i (n+k)).natAbs<=1000000000) (h2:nl z.natAbs<=1000000000) (h3:nl D<=2) (hz:z≠0) (hi:i<n) (hk:k<n) (hn:n<=1000) :
 Fn0 prog 124 [.int .i64 i,.int .i64 k,.pointer (some ⟨C,0,none⟩),.pointer (some ⟨Z,0,none⟩),.pointer (some ⟨W,0,none⟩)] u fun r u'=>Bg u' r (Rat.divInt (enZ S i (n+k)*(D:Int)) z):=by
 have E:i<S.length:=by rw[P.1];exact hi
 have a3:S[i]?=some S[i]:=A01 E;have a2:S[i].length=n+n:=by have:=P.2 i hi;rwa[Xj E]at this
 obtain⟨m,F,a7,rfl,L,t⟩:=LP.at hS a3;obtain⟨a6,X,rfl⟩:=LP.opn t;rw[a2]at t L;obtain⟨J,V,a8,rfl,a1,K⟩:=LP.at t (j:=n+k) (x:=enZ S i (n+k)) (by
  unfold enZ;rw[Xj E,Ol oV];exact A01 oV)
 obtain⟨Y,rfl⟩:=K.opN;have R:nl ((D:Int)).natAbs<=2:=h3;refine Fn0.o func124<|G.f 192 C 0 0 0<|G.lU none C (0+0) (.slice (some ⟨m,F,none⟩) n h) (Po hr (G2 rfl rfl))<|G.a m F n h i 1 hi<|G.lU none m (F+i*1) _ L<|G.lU none Z 0 (.slice a0 n c0) (Po ha (G2 rfl rfl))<|G.p n k (n+k:Nat)<|G.a J V (n+n) X (n+k) 2 oV<|G.lU (some 2) J (V+(n+k)*2) (nv Y) a1<|G.f 187 W 0 0 0<|G.lU (some 2) W (0+0) (nv H) (Po hg fun j y e=>by
  match j,e with
  |0,e=>simpa[nv,Value.cells] using e
  |1,e=>simpa[nv,Value.cells] using e) ?_
 refine G.f 192 C 0 2 2<|G.lU (some 2) C (0+2) (nv fv) ((Po hr fun j y e=>by
  match j,e with
  |0,e=>simpa[nv,Value.cells] using e
  |1,e=>simpa[nv,Value.cells] using e:ElP u C (0+2) (nv fv))) ?_
 refine G.c call126 (Ea K hD (A04 h1 oV) (A04 R oV)) ?_;intro ad ab a4 T;obtain⟨a9,rfl⟩:=T.opN;have Q:nl (enZ S i (n+k)*(D:Int)).natAbs<=2*1000000000:=Bx h1 (A04 R oV);refine G.c call125 (Q6 T (hV.mono a4) (A04 Q oV) (A04 h2 oV) hz) ?_;intro ae ac aa U;obtain⟨x1,x2,x3,x4,x5,x6,x7,x8,rfl⟩:=U.opn;exact G.r (.agg #[.bool x1,.slice x2 x3 x4,.bool x5,.slice x6 x7 x8]) ⟨rfl,U⟩
end
section
variable {A:zM}{D i:Nat}
def P3 (k i:Nat):List Int:=(List.range k).map fun t=>if i=t then 1 else 0
def Ahb (k i:Nat):P3 (k+1) i=P3 k i++[if i=k then 1 else 0]:=by unfold P3;rw[A5d,A1i];rfl
def Oq (D:Nat)(A:zM)(i k:Nat):Int:=gZ (Bp D (gM A i)) k
def Axn {l:List Int}{n:Nat}(h:l.length=n):(List.range n).map (gZ l)=l:=by
 refine A5l (by simp[h]) fun i j e=>?_;rw[A3v,List.getElem_range,Ol e]
def Aud (h:Sq A)(D:Nat)(hi:i<A.length):gMZ (Iu A.length (Oq D A)) i=Bp D (gM A i)++P3 A.length i:=by
 rw[Sm hi,List.range_add,A1i]
 congr 1
 ·rw[A41 (g:=gZ (Bp D (gM A i))) fun k e=>by rw[if_pos (A6q.1 e)];rfl];exact Axn (by unfold Bp;rw[A03,Ch hi,h.len hi])
 unfold P3;rw[A9h];refine A41 fun k e=>?_;show (if A.length+k<A.length then _ else _)=_;rw[if_neg oV,show A.length+k-A.length=k by omega]
def Ak4 (m:Sq A)(h:∀ r∈A,∀ q∈r,q.den ∣ D){i k:Nat}(hi:i<A.length)(j:k<A.length):en A i k*(D:Rat)=Oq D A i k:=by
 have e:k<(gM A i).length:=by rw[Ch hi,m.len hi];exact j
 unfold Oq;rw[Wf e];unfold en;exact (Aem (h _ (Abw hi) _ (Xr e))).symm
def Avg (C:Sq A)(hT:∀ r∈A,∀ q∈r,Th q)(u:D ∣ 21600):SzZ (Iu A.length (Oq D A)) 2:=fun i j=>by
 refine nlM ?_;have key:∀ a b,a<A.length->b<A.length->(Oq D A a b).natAbs<=3000000000000*21600:=fun a b h z=>by
  have m:b<(gM A a).length:=by rw[Ch h,C.len h];exact z
  unfold Oq;rw[Wf m,A26,A1s];have t:D/(gR (gM A a) b).den<=21600:=A04 (A3u _ _) (A48 oV u);exact A25 (hT _ (Abw h) _ (Xr m)).num t
 by_cases hi:i<A.length
 ·have:=Ald (n:=A.length) (Z:=Oq D A) (M:=3000000000000*21600) key oV i hi j;omega
 have:enZ (Iu A.length (Oq D A)) i j=0:=by
  unfold enZ;have e:gMZ (Iu A.length (Oq D A)) i = []:=by unfold gMZ;rw[A02,A1v (by simp[Iu];omega)];rfl
  rw[e];rfl
 rw[this];omega
def Auu (n D:Nat)(s:BZ):zM:=sqL n fun j k=>Rat.divInt (enZ s.X j (n+k)*(D:Int)) s.v
def Atl {u:PH}{v:Value}{A:List (List Rat)}(ht:Hx u)(h:C7 u v (Cv A))(hs:Sq A)(h0:0<A.length)(hT:∀ r∈A,∀ q∈r,Th q)(hk:Xu A.length (en A))
 (hX:∀ X,Rec A.length A.length X->Fe A.length (en A) (en X)->∀ r∈X,∀ x∈r,Tx x) :
 Fn0 prog 53 [v] u fun r u'=>∃ X lv,r=.tuple #[lv,.int .i64 0]/\Rec A.length A.length X/\Fe A.length (en A) (en X)/\C7 u' lv (Cv X):=by
 have bz:=fun (v:Value) (hv:C7 u v (Cv A))=>Awb hv hs;have b4:∀ r∈A,∀ q∈r,Tx q:=fun r hr q hq=>(hT r hr q hq).tx;have W:=Asd hT;have a4:=hs.le;have az:∀ r∈A,r.length<=12:=fun r hr=>by rw[hs.row r hr];exact a4
 obtain⟨a0,c0,rfl⟩:=h.opn;rw[A3]at h⊢;refine Fn0.o func53<|G.c call118 (bz _ h) ?_;rintro v1 u1 l1 rfl;refine G.nF 0 0<|G.c call119 (Aie (N:=12) (K:=17) (ht.mono l1) (h.mono l1) b4 a4 az oV oV oV W.den W.pos W.nl W.dig) ?_;rintro v3 u3 l3 rfl;have bf:=l1.trans l3;refine G.callO _ _ kV call120 (Akc (h.mono bf) b4 oV (fun r hr=>by have:=az r hr;omega) W.den W.pos W.nl) ?_;rintro v6 u6 m6 l6 ⟨D,F,a6,c6,ad,bj,b1,bk,rfl,bl,ar,Y⟩ _;rw[By];have c4:=bf.trans l6;have au:=Vu (n:=A.length) (Z:=Oq D A);have U:ad.length=A.length:=by rw[ar.1];simp
 obtain⟨go,co,eo⟩:=Y.ptr 0 rfl (by intro e;simp only[oN,A6c]at e;rw[e]at U;simp at U;omega);simp only[oN,A03,U,Value.slice.injEq,true_and]at eo;obtain⟨rfl,rfl⟩:=eo;have bq:∀ i,i<A.length->gMZ (A.map (Bp D)) i=Bp D (gM A i):=fun i hi=>by rw[Xj (by simpa using hi),A3v,Ch hi]
 have br:∀ i,i<A.length->(Bp D (gM A i)).length=A.length:=fun i hi=>by unfold Bp;rw[A03,Ch hi,hs.len hi]
 have b0:∀ (m:List (Value×List Value)) (i:Nat) (r:Value×List Value) (u' m':PH) (k:Nat),m.length=A.length->m[i]?=some r->Bag m' (oN (.slice (some ⟨go,0,none⟩) A.length c6) m::m.map C3)->AtP Bi u' r.2 (Bp D (gM A i)++P3 k i)->i<A.length ->
  ∃ gi ci I,r=(.slice (some ⟨gi,0,none⟩) (A.length+k) ci,I)/\I.length=A.length+k:=by
  rintro m i ⟨vi,I⟩ u' m' k az a5 t a9 hi;have aa:I.length=A.length+k:=by rw[a9.1,A1d,br i hi];simp[P3]
  obtain⟨gi,ci,e⟩:=t.ptr (i+1) (x:=C3 (vi,I)) (by simp[a5]) (by intro e;simp only[C3]at e;rw[e]at aa;simp at aa;omega);simp only[C3]at e;rw[aa]at e;subst e;exact⟨gi,ci,I,rfl,aa⟩
 refine G.l (ι:=Nat×List (Value×List Value)) (fun i=>[(1,.p 0 0),(5,.p 6002 0),(21,iV A.length),(22,iV i.1)])
  (fun _=>[(0,⟨45,[sV a0 A.length c0]⟩),(6002,⟨187,[bV F.b,sV F.a F.n F.c,sV (some ⟨go,0,none⟩) A.length c6]⟩)])
  (fun i u' m'=>i.1<=A.length/\i.2.length=A.length/\(∀ j r,i.2[j]?=some r->AtP Bi u' r.2 (Bp D (gM A j)++if j<i.1 then P3 A.length j else []))/\Bag m' (oN (.slice (some ⟨go,0,none⟩) A.length c6) i.2::i.2.map C3)) (fun i=>A.length-i.1) (0,ad)
  ⟨oV,U,fun j r H=>by
   dsimp only at H;have ae:j<A.length:=by
    obtain⟨q1,_⟩:=A05.1 H;omega
   rw[if_neg oV,A1x,<-bq j ae];exact ar.2 j r H,Y⟩ ?_
 clear Y ar U;rintro J ⟨i,m⟩ hJ u7 m7 l7 ⟨hi,a2,hQ,t⟩;simp only at hi a2 hQ t hJ;by_cases aw:i<A.length
 ·refine G.lT i A.length<|G.l (ι:=Nat×List (Value×List Value)) (fun k=>[(1,.p 0 0),(5,.p 6002 0),(6,iV i),(21,iV A.length),(22,iV i),(26,iV A.length),(27,iV k.1)])
   (fun _=>[(0,⟨45,[sV a0 A.length c0]⟩),(6002,⟨187,[bV F.b,sV F.a F.n F.c,sV (some ⟨go,0,none⟩) A.length c6]⟩)])
   (fun k u' m'=>k.1<=A.length/\k.2.length=A.length/\(∀ j r,k.2[j]?=some r->AtP Bi u' r.2 (Bp D (gM A j)++if j<i then P3 A.length j else if j=i then P3 k.1 j else []))/\Bag m' (oN (.slice (some ⟨go,0,none⟩) A.length c6) k.2::k.2.map C3)) (fun k=>A.length-k.1) (0,m)
   ⟨oV,a2,fun j r H=>by
    have:=hQ j r H;dsimp only;by_cases e:j<i
    ·rw[if_pos e]at this⊢;exact this
    rw[if_neg e]at this⊢;split
    ·exact this
    exact this,t⟩ ?_
  clear hQ t a2;rintro J2 ⟨k,m⟩ b2 u8 m8 l8 ⟨bs,a3,hQ,t⟩;simp only at bs a3 hQ t b2;by_cases cg:k<A.length
  ·refine G.lT k A.length ?_;obtain⟨r,a5⟩:∃ r,m[i]?=some r:=⟨_,A01 oV⟩;have a9:=hQ i r a5;rw[if_neg (Nat.lt_irrefl _),if_pos rfl]at a9;obtain⟨gi,ci,I,rfl,aa⟩:=b0 m i r u8 m8 k a3 a5 t a9 aw;have bw:(oN (.slice (some ⟨go,0,none⟩) A.length c6) m::m.map C3)[i+1]?=some (C3 (.slice (some ⟨gi,0,none⟩) (A.length+k) ci,I)):=by simp[a5]
   have bu:ElP m8 go (0+i*1) (.slice (some ⟨gi,0,none⟩) (A.length+k) ci):=t.el 0 (x:=oN _ _) rfl rfl (by show (m.map (·.1))[i]?=_;rw[A1a,a5];rfl);refine G.c call121 (Kf (z:=0) oV oV) ?_;intro v9 u9 l9 k9;obtain⟨f9,rfl⟩:=k9.opN;refine G.join (ι:=N3) (.bool false) (fun f=>[(1,.p 0 0),(5,.p 6002 0),(6,iV i),(8,.p 13001 0),(21,iV A.length),(22,iV i),(26,iV A.length),(27,iV k)])
    (fun f=>[(0,⟨45,[sV a0 A.length c0]⟩),(6002,⟨187,[bV F.b,sV F.a F.n F.c,sV (some ⟨go,0,none⟩) A.length c6]⟩),(13001,⟨141,[bV f.b,sV f.a f.n f.c]⟩)])
    (fun f u' m'=>m'=m8/\Bi u' (nv f) (if i=k then 1 else 0)) (fun _=>kV) kV ?tail ?way
   case way =>
    intro ac;by_cases b5:i=k
    ·refine G.eT i k<|G.c call121 (Kf (z:=1) oV oV) ?_;intro cm bg V a7;obtain⟨C,rfl⟩:=a7.opN;exact ac C _ _ _ kV cV V ⟨rfl,by rw[if_pos b5];exact a7⟩
    refine G.eF i k ?_;exact ac f9 _ _ _ kV cV (PH.le_refl _) ⟨rfl,by rw[if_neg b5];exact k9⟩
   rintro C bg cj V ⟨rfl,a7⟩;refine G.a go 0 A.length c6 i 1 aw<|G.lM none go (0+i*1) _ bu<|G.B 141 2 32 (.agg #[.bool false,.slice none 0 0]) [nv C] (a7.ok) ?_;intro bi c8 a8 bh;obtain⟨mm,ba,b7⟩:=t.focus (i+1) bw;rw[Ack]at ba;refine G.append 141 2 32 (.agg #[.bool false,.slice none 0 0]) mm I [nv C] (.slice (some ⟨gi,0,none⟩) (A.length+k) ci) bi 0 1 1 kV rfl rfl oV ba bh (a7.ok) rfl oV oV oV ?_;intro ca c5 am;have ai:=b7 (C3 (ca,I++[nv C])) c5 am;obtain⟨L,Q,rfl⟩:=am.shape;rw[A2j]at ai;obtain⟨mo,bb,ax⟩:=ai.focus 0 rfl;rw[Akm]at bb;refine G.a go 0 A.length c6 i 1 aw<|G.storeA 1 mo _ go A.length c6 i (.slice L (I++[nv C]).length Q) kV bb gV rfl rfl ?_;intro c7 an;rw[show (m.map (·.1)).set i (Value.slice L (I++[nv C]).length Q)=(m.set i (Value.slice L (I++[nv C]).length Q,I++[nv C])).map (·.1) by rw[A2g]]at an;have aj:=ax (oN (.slice (some ⟨go,0,none⟩) A.length c6) (m.set i (Value.slice L (I++[nv C]).length Q,I++[nv C]))) c7 an;rw[A2p,<-A2g]at aj;refine G.i k<|G.b (b2 (k+1,m.set i (Value.slice L (I++[nv C]).length Q,I++[nv C])) _ _ _ cV (((l8.trans l9).trans V).trans a8) ⟨dV,by dsimp only;rw[A21];exact a3,?_,aj⟩ dV);have ap:=(l9.trans V).trans a8;intro j r H;dsimp only at H⊢;rw[A1z]at H;by_cases av:i=j
   ·subst av;rw[if_pos rfl,if_pos oV]at H;cases H;rw[if_neg (Nat.lt_irrefl _),if_pos rfl,Ahb,<-A2k];exact (a9.mono (fun _ _ k=>k.mono ap)).snoc (a7.mono a8)
   rw[if_neg av]at H;have R:=(hQ j r H).mono (fun _ _ k=>k.mono ap);by_cases ab:j<i
   ·rw[if_pos ab]at R⊢;exact R
   rw[if_neg ab,if_neg (Ne.symm av)]at R⊢;exact R
  obtain rfl:k=A.length:=oV;refine G.lF A.length A.length<|G.i i<|G.b (hJ (i+1,m) _ _ _ cV (l7.trans l8) ⟨dV,a3,?_,t⟩ dV);intro j r H;have R:=hQ j r H;dsimp only;by_cases ab:j<i
  ·rw[if_pos ab]at R;rw[if_pos oV];exact R
  rw[if_neg ab]at R;by_cases e:j=i
  ·rw[if_pos e]at R;rw[if_pos oV];exact R
  rw[if_neg e]at R;rw[if_neg oV];exact R
 clear hJ;obtain rfl:i=A.length:=oV;refine G.lF A.length A.length ?_;have bn:NAt u7 m (Iu A.length (Oq D A)):=⟨by rw[a2,au.1],fun j r H=>by
  have ae:j<A.length:=by
   obtain⟨q1,_⟩:=A05.1 H;omega
  have R:=hQ j r H;rw[if_pos ae]at R;rw[Aud hs D ae];exact R⟩
 clear hQ b0;refine G.giveP (ma:=m7) (sm:=PH.mt) kV (by funext g;unfold PH.or;cases m7 g<;>rfl) (fun g=>.inr rfl) (fun g=>.inl rfl) ?_
 intro bg V b6;have b3:=Am1 t (bn.mono V) b6;have b9:=Avg (D:=D) hs hT b1;refine G.c call122 (Avp b3 au oV oV h0 oV b9 oV (Az1 a4)) ?_;rintro cn c8 a8 ⟨L,Q,pa,pc,fv,rfl,hS,hV⟩;obtain⟨bm,bo,c3,bp⟩:=Au4 (Z:=Oq D A) hk bj fun i k hi hk=>Ak4 hs bk hi hk;obtain⟨bd,be⟩:=Aow (n:=A.length) (w:=A.length+A.length) (E:=2) A.length 0 ⟨Iu A.length (Oq D A),[],1,false⟩ b9 (A04 (nl1 (n:=1) oV) (by show 1<=2;omega)) au (A1t _);rw[A2w]at bd be;clear a4;have a4:=hs.le;generalize Fm A.length A.length 0 ⟨Iu A.length (Oq D A),[],1,false⟩=s at *
 refine G.lF' s.P.length A.length (by rw[bm];omega) ?_;have ao:=Az1 a4;have bt:nl D<=2:=nlM (by have:=A48 oV b1;omega);have aq:=(bl.mono l7).mono (V.trans a8);refine G.pub 0 45 [.slice a0 A.length c0] kV kV ?_;intro ga cb cc;refine G.pub 6002 187 [.bool F.b,.slice F.a F.n F.c,.slice (some ⟨go,0,none⟩) A.length c6] kV kV ?_;intro gt ce ak;refine G.pub 19005 192 [.slice L A.length Q,.slice pa s.P.length pc,.bool fv.b,.slice fv.a fv.n fv.c,.bool s.odd] kV kV ?_;intro gr cd a1;generalize af:((PH.mt.upd ga _).upd gt _).upd gr _=mm;have c1:gt≠ga:=fun e=>by subst e;rw[Ab]at ak;cases ak
 have b8:gr≠gt:=fun e=>by subst e;rw[Ab]at a1;cases a1
 have bx:gr≠ga:=fun e=>by subst e;rw[Ad _ _ b8,Ab]at a1;cases a1
 have e1:mm gr=some (.cells #[.slice L A.length Q,.slice pa s.P.length pc,.bool fv.b,.slice fv.a fv.n fv.c,.bool s.odd] 192 (0,0)):=by rw[<-af,Ab]
 have e2:mm gt=some (.cells #[.bool F.b,.slice F.a F.n F.c,.slice (some ⟨go,0,none⟩) A.length c6] 187 (0,0)):=by rw[<-af,Ad _ _ (Ne.symm b8),Ab]
 have e3:mm ga=some (.cells #[.slice a0 A.length c0] 45 (0,0)):=by rw[<-af,Ad _ _ (Ne.symm bx),Ad _ _ (Ne.symm c1),Ab]
 clear af;refine G.giveP (ma:=mm) (sm:=PH.mt) kV (by funext g;unfold PH.or;cases mm g<;>rfl) (fun g=>.inr rfl) (fun g=>.inl rfl) ?_
 intro ck ag T;have al:Fe A.length (en A) (en (Auu A.length D s)):=fun i k hi hk=>by
  rw[<-bp i k hi hk];exact Ah fun j H=>by
   unfold Auu;rw[N6 H hk,A37,A3c,A2r]
 have ay:=Rh A.length fun j k=>Rat.divInt (enZ s.X j (A.length+k)*(D:Int)) s.v;have c2:=(((ht.mono c4).mono l7).mono (V.trans a8)).mono ag;refine G.lU none ga 0 (.slice a0 A.length c0) (Po (T _ _ e3) (G2 rfl rfl))<|G.lU none ga 0 (.slice a0 A.length c0) (Po (T _ _ e3) (G2 rfl rfl))<|G.c call123 (Acd (f:=124) (cap:=[.pointer (some ⟨gr,0,none⟩),.pointer (some ⟨ga,0,none⟩),.pointer (some ⟨gt,0,none⟩)]) (X:=Auu A.length D s) c2 ay oV (hX _ ay al) call124 (fun i k hi hk u' hl=>by
  have R:=Awo (u:=u') (i:=i) (k:=k) (hl _ _ (T _ _ e1)) (hl _ _ (T _ _ e3)) (hl _ _ (T _ _ e2)) (Nl.mono hS (ag.trans hl)) bo (hV.mono (ag.trans hl)) (aq.mono (ag.trans hl)) (A04 (bd i (A.length+k)) ao) (A04 be ao) bt c3 hi hk oV;have e9:en (Auu A.length D s) i k=Rat.divInt (enZ s.X i (A.length+k)*(D:Int)) s.v:=N6 hi hk;rw[e9];exact R)) ?_
 rintro cp cl ch ⟨lv,rfl,ah⟩;obtain⟨la,lc,rfl⟩:=ah.opn;exact G.r (.tuple #[_,.int .i64 0]) ⟨rfl,_,_,rfl,ay,al,ah⟩
end
section
section
variable {u:PH} {v:Value} {P:List Par} {C:CF} {q:Rat} {N:Nat}
def Aa5 (j:In N C)(Q:N<=28873454400)(H:Fd q)(m:P.Nodup)(J:0<C.c)(e:∀ z,0<=Dh z P C)(h:P.length<=11):Sq (Eh C P q)/\(Eh C P q).length=P.length+1/\(∀ r∈Eh C P q,∀ x∈r,Th x)/\Xu (Eh C P q).length (en (Eh C P q)) /\
 ∀ X,Rec (Eh C P q).length (Eh C P q).length X->Fe (Eh C P q).length (en (Eh C P q)) (en X)->H6 P C q X/\∀ r∈X,∀ x∈r,Tx x:=by
 have E:=Rx (P:=P) (C:=C) (q:=q);have t:=Azc (P:=P) j Q H.sixty;refine⟨At1 t h,E.1,t,by rw[E.1];exact Xx m J H.pos e,fun X L hi=>?_⟩;rw[E.1]at L hi;have I:=H6.of_right L hi;exact⟨I,I.txs j oV H m J e h⟩
def Avf (ht:Hx u)(h:C7 u v (Cv (Eh C P q)))(t:In N C)(W:N<=28873454400)(Z:Fd q)(E:P.Nodup)(Y:0<C.c)(e:∀ z,0<=Dh z P C)(m:P.length<=11) :
 Fn0 prog 53 [v] u fun r J=>∃ X j,r=.tuple #[j,zO]/\H6 P C q X/\C7 J j (Cv X):=by
 obtain⟨L,h2,Q,U,I⟩:=Aa5 t W Z E Y e m;refine Fn0.weak (Atl ht h L oV Q U fun X H hi=>(I X H hi).2) ?_;rintro r J ⟨X,j,rfl,H,hi,V⟩;exact⟨X,j,rfl,(I X H hi).1,V⟩
def Atq (h:C7 u v (Cv (Eh C P q)))(E:In N C)(W:N<=28873454400)(Z:Fd q)(H:P.Nodup)(Y:0<C.c)(e:∀ z,0<=Dh z P C)(t:P.length<=11) :
 Fn0 prog 65 [v] u fun r Q=>∃ X m,r=.tuple #[m,zO]/\H6 P C q X/\C7 Q m (Cv X):=by
 obtain⟨I,h2,U,J,L⟩:=Aa5 E W Z H Y e t;have j:=Lu (Eh C P q).length (Bn (Eh C P q).length 0 [] (Lf (Eh C P q).length (Eh C P q)) 1).2.1;have hi:=Am6 (Xs I) J;refine Fn0.weak (Av1 h I oV (fun r j x hx=>(U r j x hx).tq) J (L _ j hi).2) ?_;rintro r Q ⟨m,rfl,V⟩;exact⟨_,m,rfl,(L _ j hi).1,V⟩
end
section
variable {u:PH} {v cv:Value} {T:zC} {R:List Br} {F:List Al} {lab:Int} {C:CF} {K k N:Nat} {P:List Par} {q:Rat}
def Afc (P:List Par)(C:CF)(k:Nat)(q:Rat)(r:Value)(u:PH):Prop :=
 (∃ e:Int,(k=0/\e=12\/e=3/\k≠0/\11<P.length)/\r=.tuple #[Axc,zI e]) \/
  (k≠0/\P.length<=11/\∃ sv X b s c,r=.tuple #[sv,zO]/\Ma u sv P X b s c q/\H9 P C q X b s c)
def Aaz (ht:Hx u)(h:Te u v cv T R F lab C K k P)(hq:Fd q)(a0:In N C)(hN:N<=28873454400)(W:∀ z,0<=Dh z P C) :
 Fn0 prog 13 [v,cv,zS (Ae q)] u fun r u'=>Afc P C k q r u':=by
 have a7:=(Ahm ht h.w hq.w).giveAll;have V:=h.mom;have hK:=h.K;have a6:=fun (u':PH) (l:PH.le u u')=>Afd B7 B7 (h.cof.mono l) oV;obtain⟨xa,xc,xb,xd,xe,xf,rfl,_⟩:=id h.sch;obtain⟨a1,n1,c1,a2,n2,c2,rfl⟩:=id h.cof.opn;refine Fn0.o func13<|G.c call52 a7 ?_;rintro v1 u1 l1 ⟨u0,a9,a4,Q,⟨e,rfl,he⟩|⟨hk,P',pa,pc,ya,yc,ra,rc,a8,J,j,rfl,hL,E,m⟩⟩
 ·refine G.nT' e 0 (by rcases he with ⟨h,_⟩|⟨h,_⟩<;>omega) ?_
  exact G.r (.tuple #[Axc,zI e]) ⟨rfl,.inl ⟨e,by
   rcases he with ⟨Z,h2⟩|⟨Z,h2,P',h3,h4⟩
   ·exact .inl ⟨h2,Z⟩
   refine .inr ⟨Z,h2,?_⟩;rw[h.prm.eq h3];exact h4,rfl⟩⟩
 cases h.prm.eq J;refine G.nF 0 0 ?_;have hM:C7 u1 (.slice ya (P.length+1) yc) (Cv (Eh C P q)):=V9 (v:=zT) m E Q;obtain⟨m0,Y,_⟩:=m.focus 0 rfl;rw[D6]at Y;have hR:Cj u1 (.slice ra (P.length+1) rc) ((Yz C P).map Ae):=by
  unfold Cj Yz;rw[<-J7];exact Y.list Q
 have a3:=V.cpos hk;have a5:=J.1.nodup Et;refine G.c call53 (Avf (ht.mono l1) hM a0 hN hq a5 a3 W j) ?_;rintro v2 u2 l2 ⟨X,lv,rfl,hS,I⟩;obtain⟨la,lc,U⟩:=id I.opn;rw[A3]at U;subst U;refine G.nF 0 0<|G.c call55 Aq2 ?_;rintro v3 u3 l3 rfl;refine G.c call55 Aq2 ?_;rintro v4 u4 l4 rfl;refine G.c call54 (a6 u4 (((l1.trans l2).trans l3).trans l4)) ?_;rintro v5 u5 l5 rfl;have H:=(l3.trans l4).trans l5;have L:(Yz C P).length=P.length+1:=Ag3;exact G.r (.tuple #[.agg #[.slice pa P.length pc,.slice la X.length lc,.slice ra (P.length+1) rc,zS (Ae (C.t (Ay B7 B7))),zS (Ae C.c),zS (Ae q)],zO])
  ⟨rfl,.inr ⟨hk,j,_,X,Yz C P,C.t (Ay B7 B7),C.c,rfl,⟨pa,pc,la,lc,ra,rc,by rw[L],hL.mono (a4.trans (l2.trans H)),I.mono H,by rw[L];exact Ac.mono hR (l2.trans H)⟩,⟨hS,rfl,rfl,rfl⟩⟩⟩
def Aoj (h:Te u v cv T R F lab C K k P)(Z:Fd q)(J:In N C)(hN:N<=28873454400)(I:∀ z,0<=Dh z P C) :
 Fn0 prog 21 [v,cv,zS (Ae q)] u fun r Y=>Afc P C k q r Y:=by
 have V:=Ae1 h Z;have H:=h.mom;have hK:=h.K;have U:=fun (Y:PH) (l:PH.le u Y)=>U2 B7 B7 (h.cof.mono l) oV;obtain⟨xa,xc,xb,xd,xe,xf,rfl,_⟩:=id h.sch;obtain⟨a1,n1,c1,a2,n2,c2,rfl⟩:=id h.cof.opn;refine Fn0.o func21<|G.c call16 V ?_;rintro v1 u1 l1 (⟨e,he,hwhy,rfl⟩|⟨hk,hP11,pa,pc,ya,yc,ra,rc,rfl,hPL,hM,hR⟩)
 ·exact G.nT' e 0 he<|G.r (.tuple #[Axc,zI e]) ⟨rfl,.inl ⟨e,hwhy,rfl⟩⟩
 refine G.nF 0 0 ?_;have L:=H.cpos hk;have Q:=h.prm.1.nodup Et;refine G.c call65 (Atq hM J hN Z Q L I hP11) ?_;rintro v2 u2 l2 ⟨X,lv,rfl,hS,j⟩;obtain⟨la,lc,E⟩:=id j.opn;rw[A3]at E;subst E;refine G.nF 0 0<|G.c call66 (U u2 (l1.trans l2)) ?_;rintro v5 u5 W rfl;have m:(Yz C P).length=P.length+1:=Ag3;exact G.r (.tuple #[.agg #[.slice pa P.length pc,.slice la X.length lc,.slice ra (P.length+1) rc,zS (Ae (C.t (Ay B7 B7))),zS (Ae C.c),zS (Ae q)],zO])
  ⟨rfl,.inr ⟨hk,hP11,_,X,Yz C P,C.t (Ay B7 B7),C.c,rfl,⟨pa,pc,la,lc,ra,rc,by rw[m],hPL.mono (l2.trans W),j.mono W,by rw[m];exact Ac.mono hR (l2.trans W)⟩,⟨hS,rfl,rfl,rfl⟩⟩⟩
end
end
end Go.Proofs.YtemmheaocgmebaaGreatDoor
