/- Parts of one proof, joined by a program. -/
import Derived.Test.YtemmheaocgmebaaGreatDoorR12
set_option linter.defProp false
set_option linter.unusedVariables false
set_option linter.unusedSimpArgs false
set_option linter.unusedSectionVars false
set_option maxHeartbeats 16000000
namespace Go.Proofs.YtemmheaocgmebaaGreatDoor
open Go.Proofs.Tryz
open Go.RowKit Go.MapKept
def A7f:=@Rat.intCast_inj
section
variable {es:List Value}{g i:Nat}{l:List Arr}{t:TypeId}
def Kq (g:Nat)(t:TypeId)(es:List Value):Arr:=⟨.slice (some ⟨g,0,none⟩) es.length es.length,t,1,es⟩
def U6 (es:List Value):Prop:=∀ x∈es,Ax x=true/\x.cells = #[x]
def R1 {m:PH}(j:m g=none)(e:U6 es):(Kq g t es).At m (m.upd g (.cells es.toArray t (0,0))):=by
 refine⟨Ap1 e,.inr ⟨g,es.length,[],j,?_,rfl,A08 _,?_,mV⟩⟩
 ·show _=m.upd g (.cells (A2 es++[]).toArray t (0,0));rw[Lz fun x h=>(e x h).2,A1x]
 show (A2 es++[]).length=es.length*1;rw[Lz fun x h=>(e x h).2,A1x,A50]
def Alg {m0 m:PH}(h:(Kq g t es).At m0 m)(E:U6 es)(L:es≠[]):m0 g=none/\m=m0.upd g (.cells es.toArray t (0,0)):=by
 rcases h.2 with ⟨h,_,_⟩|⟨J,cap,rest,n,e,z,I,j,_⟩
 ·cases h
 obtain⟨⟨rfl,_,_⟩,_,rfl⟩:=z;simp only[Kq]at e j;rw[Lz fun x H=>(E x H).2]at e j;have:rest = []:=by simp_all
 subst this;rw[A1x]at e;exact⟨n,e⟩
def M6 {m:PH}(h:Bag m l)(hi:l[i]?=some (Kq g t es))(n:U6 es)(j:es≠[]):m g=some (.cells es.toArray t (0,0)):=by
 obtain⟨m0,e,_⟩:=h.focus i hi;rw[(Alg e n j).2,Ab]
def Cg {m:PH}{i g j:Nat}{x:Value}(h:Bag m l)(hi:l[i]?=some (Kq g t es))(e:es[j]?=some x):ElP m g (0+j*1) x:=h.el i hi rfl e
def Adr {m:PH}(h:Bag m l)(hi:l[i]?=some (Kq g t es))(z:U6 es)(n:es≠[]):ElP m g 0 (.agg es.toArray):=fun j x e=>by
 refine⟨_,_,_,M6 h hi z n,?_⟩;simpa[Value.cells] using e
section
variable [Cl] [Co] {P:Program} [A6 P] {fn:Func} {Post:Ce} {st:List KI×S} {u m:PH}
def G.storeOne {l:List Arr}(i g:Nat)(t:TypeId)(n:Nat)(es:List Value)(e:Value)(h:Aj P (adv P st)=.store (some n) (.pointer (some ⟨g,0,none⟩)) e)(Q:Bag m l)(hi:l[i]?=some (Kq g t es))(I:U6 es)(V:es≠[])(W:es.length=n)(U:e.cells.size=n)(H:U6 e.cells.toList)
 (k:∀ J,Bag J (l.set i (Kq g t e.cells.toList))->G P fn Post (nx (adv P st) undef) u J):G P fn Post st u m:=by
 obtain⟨m0,O,j⟩:=Q.focus i hi;obtain⟨L,E⟩:=Alg O I V;refine G.storeM n g 0 t es e h (by rw[E,Ab]) (fun x z=>(I x z).1) oV U (A1o.2 fun x z=>(H x z).1) ?_;have N:m.upd g (.cells (es.take 0++e.cells.toList++es.drop (0+n)).toArray t (0,0))=m0.upd g (.cells e.cells.toList.toArray t (0,0)):=by
  rw[E,Dp,A2b oV];simp
 rw[N];exact k _ (j _ _ (R1 L H))
end
def Ap5:Value:=.agg #[.slice none 0 0,.slice none 0 0,.slice none 0 0]
def Axe (F:List Al)(C:CF)(k:Nat)(q:Rat)(r:Value)(u m:PH):Prop :=
 (∃ e:Int,r=.tuple #[Ap5,.int .i64 e]/\(e=12/\k=0\/e=3/\k≠0/\∃ P,Nn F C P/\11<P.length)) \/
 (k≠0/\∃ (P:List Par) (pa:Option Addr) (pc:Nat) (xa:Option Addr) (xc:Nat) (ra:Option Addr) (rc:Nat) (rows:List (Value×List Value)),Nn F C P/\P.length<=11 /\
  r=.tuple #[.agg #[.slice pa P.length pc,.slice xa (P.length+1) xc,.slice ra (P.length+1) rc],.int .i64 0]/\Ac u (.slice pa P.length pc) 2 (P.map Ap)/\rows.map (·.2)=(D0 q (Lh C P) (P.length+1)).map txV /\
  Bag m (Bu (.slice ra (P.length+1) rc,txV ((An P).map (Bh C)))::oT (.slice xa (P.length+1) xc) rows::rows.map Bu))
def Ia {a b c:Option Addr}{n1 c1 n2 c2 n3 c3:Nat}:U6 [.slice a n1 c1,.slice b n2 c2,.slice c n3 c3]:=fun x e=>by
 simp only[A1g,A11,or_false]at e;rcases e with rfl|rfl|rfl<;>exact⟨rfl,rfl⟩
def Gf {z:Int}:U6 [.int .i64 z]:=fun x e=>by
 simp only[A1g,A11,or_false]at e;subst e;exact⟨rfl,rfl⟩
def Aj8 {m:PH}{h j:Nat}{e:Int}(n:j≠h)(z:e≠0)(E:m j=some (.cells #[.int .i64 e] 39 (0,0))):ElP (K9 m h e) h 0 Ap5/\ElP (K9 m h e) j 0 (.int .i64 e):=by
 unfold K9;rw[if_neg z];refine⟨fun i x hi=>⟨_,_,_,Ab _ _ _,by simpa[Ap5,Value.cells] using hi⟩,fun i x hi=>⟨#[.int .i64 e],_,_,by rw[Ad _ _ n,E],by simpa[Value.cells] using hi⟩⟩
section
variable {u:PH} {v cv:Value} {T:List (List UInt8×Nat)} {R:List Br} {F:List Al} {lab:Int} {C:CF} {K k:Nat} {q:Rat}
def Aam.cellDe (h:Aam u v cv T R F lab C K k)(e f:Option Par):De 75 18 (As C e f):=by
 cases e<;>cases f
 ·show De 75 18 C.c;rw[h.mom.c];exact (De.nat (a:=2) (by have:=h.mom.lt;omega)).mono oV oV
 ·exact h.mom.s _
 ·exact h.mom.s _
 exact h.mom.t _
theorem Ahm (ht:Hx u)(h:Aam u v cv T R F lab C K k)(hq:Ay8 q) :
 Ag prog 52 [v,cv,.string (mkS (Ae q))] u PH.mt fun r u' W=>Axe F C k q r u' W:=by
 have aw:=An9 h hq;have ax:=h.cellDe;obtain⟨xa,xc,xb,xd,xe,xf,rfl,_⟩:=id h.sch;obtain⟨a1,n1,c1,a2,n2,c2,rfl⟩:=id h.cof.opn;have ao:=h.p24;refine Ag.o func52<|G.go 7<|G.pub 2 57 [.slice none 0 0,.slice none 0 0,.slice none 0 0] kV kV ?_;intro E b6 ay;refine G.pub 3 39 [.int .i64 0] kV kV ?_;intro L b3 a0;have af:Bag ((PH.mt.upd E (.cells #[.slice none 0 0,.slice none 0 0,.slice none 0 0] 57 (0,0))).upd L (.cells #[.int .i64 0] 39 (0,0))) [Kq L 39 [.int .i64 0],Kq E 57 [.slice none 0 0,.slice none 0 0,.slice none 0 0]] :=
  ⟨_,R1 a0 Gf,PH.mt,R1 ay Ia,trivial⟩
 have aj:L≠E:=fun e=>by rw[e,Ab]at a0;cases a0
 refine G.go 1<|G.off (d:=9) (fn:=.func 115) (vs:=[.pointer (some ⟨L,0,none⟩),.pointer (some ⟨E,0,none⟩)]) kV kV kV ?_;obtain⟨B,hB⟩:∃ B:Co,B=⟨[Zs (.func 115) [.pointer (some ⟨L,0,none⟩),.pointer (some ⟨E,0,none⟩)]]⟩:=⟨_,rfl⟩;rw[<-hB];have aa:B.dl = [Zs (.func 115) [.pointer (some ⟨L,0,none⟩),.pointer (some ⟨E,0,none⟩)]]:=by subst hB;rfl
 clear hB;have a3:∀ w,(invoke (Zs (.func 115) [.pointer (some ⟨L,0,none⟩),.pointer (some ⟨E,0,none⟩)]).target (Zs (.func 115) [.pointer (some ⟨L,0,none⟩),.pointer (some ⟨E,0,none⟩)]).args).run prog w=.ok (.enter 115 [Value.pointer (some ⟨L,0,none⟩),.pointer (some ⟨E,0,none⟩)].toArray) w:=fun w=>by
  simp[invoke,Zs]
 refine G.callO _ _ kV call116 aw ?_;rintro v1 u1 mc l1 ⟨P,pa,pc,U,N,ra,rc,z,a6,rfl,hL,n,H⟩ a5;have b2:=ao P a6;have a8:=Bag.perm (A5r) (Bag.or af H a5);rw[A4x,A4x,A3q]at a8;clear af H a5;refine G.storeOne 1 E 57 3 [.slice none 0 0,.slice none 0 0,.slice none 0 0] (.agg #[.slice pa P.length pc,.slice U (P.length+1) N,.slice ra (P.length+1) rc]) kV a8 rfl Ia mV rfl rfl Ia ?_;intro m3 ag;refine G.storeOne 0 L 39 1 [.int .i64 0] (.int .i64 (if k=0 then 12 else 0)) kV ag rfl Gf mV rfl rfl Gf ?_;intro m4 I;clear a8 ag;simp only[A2j,A2p,Value.cells]at I;refine G.loadM none L 0 (.int .i64 (if k=0 then 12 else 0)) kV rfl (Cg (j:=0) I (i:=0) rfl rfl) ?_;by_cases h0:k=0
 ·rw[if_pos h0]at I⊢;refine G.nT 12 0 ?_;have V:=M6 I (i:=1) rfl Ia mV;have Q:=M6 I (i:=0) rfl Gf mV;refine G.back2 19 20 (some 3) none E L 57 39 (.agg #[.slice pa P.length pc,.slice U (P.length+1) N,.slice ra (P.length+1) rc]) (.int .i64 12) 3 1 kV (fun _=>kV) (fun _=>kV) (fun _=>kV) kV rfl rfl V Q rfl rfl rfl rfl<|G.retD aa (K:=fun u' W=>u'=u1/\W=K9 m4 E 12) rfl a3 kV (Aja Q V rfl rfl rfl) ?_;rintro u' W _ ⟨rfl,rfl⟩;obtain⟨q1,q2⟩:=Aj8 (e:=12) aj fV Q;exact⟨[Ap5,.int .i64 12],PH.mt,⟨.inr ⟨6,57,E,0,some 3,rfl,kV,kV,rfl,q1⟩,.inr ⟨7,39,L,0,none,rfl,kV,kV,rfl,q2⟩,trivial⟩,PH.mt_le _,.inl ⟨12,rfl,.inl ⟨rfl,h0⟩⟩⟩
 rw[if_neg h0]at I⊢;refine G.nF 0 0<|G.f 57 E 0 1 1<|G.loadM none E (0+1) (.slice U (P.length+1) N) kV rfl (Cg (j:=1) I (i:=1) rfl rfl) ?_;by_cases b4:P.length+1>12
 ·refine G.gT (P.length+1:Nat) 12<|G.loadM (some 3) E 0 (.agg #[.slice pa P.length pc,.slice U (P.length+1) N,.slice ra (P.length+1) rc]) kV rfl (Adr I (i:=1) rfl Ia mV)<|G.storeOne 1 E 57 3 _ (.agg #[.slice pa P.length pc,.slice U (P.length+1) N,.slice ra (P.length+1) rc]) kV I rfl Ia mV rfl rfl Ia ?_;intro m5 av;refine G.storeOne 0 L 39 1 [.int .i64 0] (.int .i64 3) kV av rfl Gf mV rfl rfl Gf ?_;intro m6 Z;simp only[A2j,A2p,Value.cells]at Z;have V:=M6 Z (i:=1) rfl Ia mV;have Q:=M6 Z (i:=0) rfl Gf mV;refine G.retD aa (K:=fun u' W=>u'=u1/\W=K9 m6 E 3) rfl a3 kV (Aja Q V rfl rfl rfl) ?_;rintro u' W _ ⟨rfl,rfl⟩;obtain⟨q1,q2⟩:=Aj8 (e:=3) aj fV Q;exact⟨[Ap5,.int .i64 3],PH.mt,⟨.inr ⟨6,57,E,0,some 3,rfl,kV,kV,rfl,q1⟩,.inr ⟨7,39,L,0,none,rfl,kV,kV,rfl,q2⟩,trivial⟩,PH.mt_le _,.inl ⟨3,rfl,.inr ⟨rfl,h0,P,a6,oV⟩⟩⟩
 refine G.gF (P.length+1:Nat) 12<|G.f 57 E 0 0 0<|G.loadM none E (0+0) (.slice pa P.length pc) kV rfl (Cg (j:=0) I (i:=1) rfl rfl) ?_;have hX:=Sj C P;generalize ae:Lh C P=X at n hX;have au:∀ i j,i<P.length+1->j<P.length+1->De 75 18 (en X i j):=fun i j hi hj=>by rw[<-ae,Abs C P hi hj];exact ax _ _
 refine G.l (ι:=Nat×List (Value×List Value)) (fun i=>[(2,tV (Ae q)),(6,.v (.pointer (some ⟨E,0,none⟩))),(7,.v (.pointer (some ⟨L,0,none⟩))),(28,iV P.length),(29,iV i.1)]) (fun _=>[])
  (fun i u' W=>i.1<=P.length/\i.2.map (·.2)=(D0 q X (i.1+1)).map txV/\Bag W (Kq L 39 [.int .i64 0]::Kq E 57 [.slice pa P.length pc,.slice U (P.length+1) N,.slice ra (P.length+1) rc]::Bu (.slice ra (P.length+1) rc,txV ((An P).map (Bh C)))::oT (.slice U (P.length+1) N) i.2::i.2.map Bu)) (fun i=>P.length-i.1)
  (0,z) ⟨A1t _,n,I⟩ ?_
 clear I n;rintro J ⟨i,z⟩ hJ u5 m5 l5 ⟨hi,n,H⟩;simp only at hi n H hJ;obtain⟨mE,hE,mN,hN,hR⟩:=id H;have ab:PH.le mN m5:=(Ad3 hN).trans (Ad3 hE);have a7:=Nx (q:=q) hX (i+1) oV;by_cases b7:i<P.length
 ·refine G.lT i P.length ?_;have b0:z.length=P.length+1:=by have:=congrArg List.length n;rw[A03,A03,a7.1]at this;exact this
  obtain⟨go,co,eo⟩:=hR.ptr 1 rfl (fun e=>by
   have:(z.map (·.1)).length=0:=by rw[show z.map (·.1) = [] from e];rfl
   rw[A03]at this;omega)
  have an:(Value.slice U (P.length+1) N)=.slice (some ⟨go,0,none⟩) (P.length+1) co:=by
   have e1:(oT (.slice U (P.length+1) N) z).v=Value.slice U (P.length+1) N:=rfl;rw[e1]at eo;rw[eo];have:(oT (.slice U (P.length+1) N) z).es.length=P.length+1:=by show (z.map (·.1)).length=_;rw[A03,b0]
   rw[this]
  cases an;obtain⟨Y,ci,al,e1,e2⟩:=Ayw hR n a7 (show i+1<P.length+1 by omega);have ai:gR (gM (D0 q X (i+1)) (i+1)) (i+1)=en X (i+1) (i+1):=by
   have:=Vv (q:=q) hX (i+1) oV (i+1) (i+1) oV oV;rw[if_neg oV]at this;show en (D0 q X (i+1)) (i+1) (i+1)=_;rw[this];grind
  have hd:=au (i+1) (i+1) oV oV;have ac:=e2 (i+1) oV;rw[ai]at ac;have a4:ElP m5 E (0+1) (.slice (some ⟨go,0,none⟩) (P.length+1) N):=Cg (j:=1) H (i:=1) rfl rfl;refine G.f 57 E 0 1 1<|G.loadM none E (0+1) (.slice (some ⟨go,0,none⟩) (P.length+1) N) kV rfl a4<|G.i i<|G.a go 0 (P.length+1) N (i+1) 1 oV<|G.loadM none go (0+(i+1)*1) (.slice (some ⟨Y,0,none⟩) (P.length+1) ci) kV rfl (e1.mono ab)<|G.i i<|G.f 57 E 0 1 1<|G.loadM none E (0+1) (.slice (some ⟨go,0,none⟩) (P.length+1) N) kV rfl a4<|G.i i<|G.a go 0 (P.length+1) N (i+1) 1 oV<|G.loadM none go (0+(i+1)*1) (.slice (some ⟨Y,0,none⟩) (P.length+1) ci) kV rfl (e1.mono ab)<|G.i i<|G.a Y 0 (P.length+1) ci (i+1) 1 oV<|G.loadM none Y (0+(i+1)*1) (.string (mkS (Ae (en X (i+1) (i+1))))) kV rfl (ac.mono ab) ?_;have ha:=hd.add hq.de (f:=78) oV oV;refine G.c call117 (Atv ((ht.mono l1).mono l5) (hd.tx oV oV oV oV) hq.tx (ha.tx oV oV oV oV)) ?_;rintro v6 u6 l6 rfl;refine G.a Y 0 (P.length+1) ci (i+1) 1 oV ?_;obtain⟨m0,am,ak⟩:=H.focus (i+5) (x:=Bu (.slice (some ⟨Y,0,none⟩) (P.length+1) ci,txV (gM (D0 q X (i+1)) (i+1)))) (by simp[al]);rw[D6]at am;have b5:(txV (gM (D0 q X (i+1)) (i+1))).length=P.length+1:=by rw[Cw,a7.2 (i+1) oV]
  refine G.storeA 1 m0 (txV (gM (D0 q X (i+1)) (i+1))) Y (P.length+1) ci (i+1) (.string (mkS (Ae (en X (i+1) (i+1)+q)))) kV am oV rfl rfl ?_;intro m7 ad;have es:(txV (gM (D0 q X (i+1)) (i+1))).set (i+1) (.string (mkS (Ae (en X (i+1) (i+1)+q))))=txV ((gM (D0 q X (i+1)) (i+1)).set (i+1) (gR (gM (D0 q X (i+1)) (i+1)) (i+1)+q)):=by
   rw[ai];unfold txV;rw[A2g]
  rw[es]at ad;have O:=ak (Bu (.slice (some ⟨Y,0,none⟩) (P.length+1) ci,txV ((gM (D0 q X (i+1)) (i+1)).set (i+1) (gR (gM (D0 q X (i+1)) (i+1)) (i+1)+q)))) m7 ad;have ah:Bag m7 (Kq L 39 [.int .i64 0]::Kq E 57 [.slice pa P.length pc,.slice (some ⟨go,0,none⟩) (P.length+1) N,.slice ra (P.length+1) rc]::Bu (.slice ra (P.length+1) rc,txV ((An P).map (Bh C))) ::
   oT (.slice (some ⟨go,0,none⟩) (P.length+1) N) (z.set (i+1) (.slice (some ⟨Y,0,none⟩) (P.length+1) ci,txV ((gM (D0 q X (i+1)) (i+1)).set (i+1) (gR (gM (D0 q X (i+1)) (i+1)) (i+1)+q))))::(z.set (i+1) (.slice (some ⟨Y,0,none⟩) (P.length+1) ci,txV ((gM (D0 q X (i+1)) (i+1)).set (i+1) (gR (gM (D0 q X (i+1)) (i+1)) (i+1)+q)))).map Bu):=by
   rw[Aho al,A2g];simpa using O
  refine G.storeOne 0 L 39 1 [.int .i64 0] (.int .i64 0) kV ah rfl Gf mV rfl rfl Gf ?_;intro m8 a9;simp only[A2p,Value.cells]at a9;refine G.loadM none L 0 (.int .i64 0) kV rfl (Cg (j:=0) a9 (i:=0) rfl rfl)<|G.nF 0 0<|G.i i<|G.b (hJ (i+1,z.set (i+1) (.slice (some ⟨Y,0,none⟩) (P.length+1) ci,txV ((gM (D0 q X (i+1)) (i+1)).set (i+1) (gR (gM (D0 q X (i+1)) (i+1)) (i+1)+q)))) _ _ _ cV (l5.trans l6) ⟨dV,?_,a9⟩ dV);rw[A2g,n,<-A2g];rfl
 obtain rfl:i=P.length:=oV
 refine G.lF P.length P.length<|G.loadM (some 3) E 0 (.agg #[.slice pa P.length pc,.slice U (P.length+1) N,.slice ra (P.length+1) rc]) kV rfl (Adr H (i:=1) rfl Ia mV)<|G.storeOne 1 E 57 3 _ (.agg #[.slice pa P.length pc,.slice U (P.length+1) N,.slice ra (P.length+1) rc]) kV H rfl Ia mV rfl rfl Ia ?_;intro m6 Z;refine G.storeOne 0 L 39 1 [.int .i64 0] (.int .i64 0) kV Z rfl Gf mV rfl rfl Gf ?_;intro m7 O;simp only[Value.cells]at O;have V:=M6 O (i:=1) rfl Ia mV;have Q:=M6 O (i:=0) rfl Gf mV;refine G.retD aa (K:=fun u' W=>u'=u5/\W=K9 m7 E 0) rfl a3 kV (Aja Q V rfl rfl rfl) ?_;intro u' W _ hK;have az:W=m7:=hK.2.trans (if_pos rfl);rw[hK.1,az];obtain⟨b8,ap,b1,aq,ar⟩:=id O;have q1:=Adr O (i:=1) rfl Ia mV;have q2:=Cg (j:=0) O (i:=0) rfl rfl;exact⟨[.agg #[.slice pa P.length pc,.slice U (P.length+1) N,.slice ra (P.length+1) rc],.int .i64 0],b1,⟨.inr ⟨6,57,E,0,some 3,rfl,kV,kV,rfl,q1⟩,.inr ⟨7,39,L,0,none,rfl,kV,kV,rfl,q2⟩,trivial⟩,(Ad3 aq).trans (Ad3 ap),
  .inr ⟨h0,P,pa,pc,U,N,ra,rc,z,a6,oV,rfl,hL.mono l5,by rw[ae];exact n,ar⟩⟩
end
end
section
section
variable {P:List Par} {C:CF} {q:Rat}
theorem Aum (H:P.Nodup)(J:0<C.c)(L:0<q)(t:∀ z,0<=Dh z P C)(y:Nat->Rat)(h:∀ i,i<(Eh C P q).length->Bb (Eh C P q).length (fun j=>en (Eh C P q) i j*y j)=0):∀ j,j<(Eh C P q).length->y j=0:=by
 have E:=Rx (P:=P) (C:=C) (q:=q);have u:∀ j,j<P.length+1->cfE (y 0) (P.zip ((List.range P.length).map fun j=>y (j+1))) ((An P).getD j none)=y j:=fun j m=>by
  rw[Ar2 H mV j m];cases j with
  |zero=>rfl
  |succ j=>exact Aep (by rw[A7r,A1a,A31 oV];rfl)
 generalize cfE (y 0) (P.zip ((List.range P.length).map fun j=>y (j+1)))=bE at u;have N:∀ e∈An P,bE e=0:=Ast L J t fun e K=>by
  obtain⟨i,hi,rfl⟩:=A3d.1 K;have F:(An P)[i]=(An P).getD i none:=by rw[A02,A01 hi];rfl
  rw[F];rw[Cp]at hi;have I:=h i (by rw[E.1];exact hi);rw[E.1,Ah (g:=fun j=>As C ((An P).getD i none) ((An P).getD j none)*bE ((An P).getD j none)+(if i=j/\0<i then q else 0)*y j) (fun j m=>by
   rw[N8 hi m,u j m];grind),F7,Agy]at I
  have n:P7 q bE ((An P).getD i none)=if i<P.length+1/\0<i then q*y i else 0:=by
   cases i with
   |zero=>rw[if_neg oV];rfl
   |succ j =>
    rw[if_pos ⟨hi,oV⟩,<-u _ hi];unfold An;rw[A6b,A02,A1a,A01 oV];rfl
  rw[Qa _ (An P) none,Cp,n];exact I
 intro j m;rw[E.1]at m;rw[<-u j m];exact N _ (Alq m)
def At1 (h:∀ r∈Eh C P q,∀ x∈r,Th x)(m:P.length<=11):Sq (Eh C P q):=by
 have e:=Rx (P:=P) (C:=C) (q:=q);refine⟨by rw[e.1];omega,fun r g=>?_,fun r g x j=>(h r g x j).tx⟩;obtain⟨i,hi,rfl⟩:=A3d.1 g;have:=e.2 i (by have:=e.1;omega);rw[Ch hi]at this;rw[this,e.1]
end
end
theorem Ad4 {α:Type}[DecidableEq α]{f:α->Rat}{x:α}:∀ {l:List α},l.Nodup->x∈l->B9 (fun y=>if y=x then f y else 0) l=f x
 |y::l,hn,hx=>by
  obtain⟨g,j⟩:=A4j.1 hn;show (if y=x then f y else 0)+B9 (fun y=>if y=x then f y else 0) l=f x;by_cases e:y=x
  ·subst e;rw[if_pos rfl,Fv fun z m=>if_neg fun (e:z=y)=>g (e▸m)];grind
  rw[if_neg e,Ad4 j ((A1g.1 hx).resolve_left fun h=>e h.symm)];grind
def Axa (n:Nat)(X:List (List Rat))(y:Nat->Rat):Prop:=∀ i,i<n->Bb n (fun j=>en X i j*y j)=0
theorem Aq3 {n w r c p:Nat}{X:List (List Rat)}{y:Nat->Rat}(h:Rec n w X)(Q:n<=w)(t:r<n)(hp:p<n)(P:c<n)(h0:en X p c≠0)(N:Axa n (J8 X r c p) y):Axa n X y:=by
 have F:Rec n w (if p=r then X else If X p r):=by
  split
  ·exact h
  exact Mk h hp t
 have m:∀ i j,en (if p=r then X else If X p r) i j=if i=r then en X p j else if i=p then en X r j else en X i j:=fun i j=>by
  split
  ·rename_i e;subst e;split
   ·rename_i e;rw[e]
   rfl
  rw[Si h hp t]
 have E:∀ k j,k<n->j<w->en (J8 X r c p) k j=if k=r then en X p j*(1/en X p c) else (if k=p then en X r j else en X k j)-(if k=p then en X r c else en X k c)*(en X p j*(1/en X p c)):=by
  intro k j K J;unfold J8;rw[h.1,Acm t oV n 0 _ oV (R8 F t) k j J,Jd F t k j,Jd F t k c,Jd F t r j,if_pos rfl,m k j,m k c,m r j,m r c,if_pos rfl,if_pos rfl];by_cases e:k=r
  ·rw[if_neg oV,if_pos e,if_pos e,if_pos e]
  rw[if_pos ⟨oV,oV,e⟩,if_neg e,if_neg e,if_neg e,if_neg e,if_neg e]
 have O:en X p c*(1/en X p c)=1:=by grind
 generalize 1/en X p c=q at *
 have C:Bb n (fun j=>en X p j*y j)=0:=by
  have u:=N r t;rw[Ah (g:=fun j=>(en X p j*q)*y j) fun j J=>by rw[E r j t oV,if_pos rfl],Afg]at u;generalize Bb n (fun j=>en X p j*y j)=S at *
  have:en X p c*(q*S)=en X p c*0:=by rw[u]
  grind
 have z:∀ k,k<n->k≠r->Bb n (fun j=>(if k=p then en X r j else en X k j)*y j)=0:=by
  intro k K L;have u:=N k K;rw[Ah (g:=fun j=>((if k=p then en X r j else en X k j)-((if k=p then en X r c else en X k c)*q)*en X p j)*y j) fun j J=>by rw[E k j K oV,if_neg L];grind,Aes,C]at u;grind
 intro i hi;by_cases H:i=p
 ·rw[H];exact C
 by_cases I:i=r
 ·have u:=z p hp (fun e=>H (by rw[I,e]));rw[I];simpa using u
 have u:=z i hi I;simpa[H] using u
def Aak (n i:Nat)(f:Nat->Rat)(hi:i<n):Bb n (fun k=>if k=i then f k else 0)=f i:=by
 unfold Bb;exact Ad4 (f:=f) List.nodup_range (A6q.2 hi)
theorem Af4 {n w:Nat}(F:n<=w):∀ f c P X d,c+f=n->P.length=c->Rec n w X->(∀ i j,i<n->j<c->en X i j=if i=j then 1 else 0) ->
 (Bn f c P X d).1.length<n->∃ y,Axa n X y/\∃ j,j<n/\y j≠0
 |0,c,P,X,d,hc,hP,h,hu,t=>by
  have K:Bn 0 c P X d=(P,X,d):=rfl;rw[K]at t;simp only at t;omega
 |f+1,c,P,X,d,hc,hP,h,hu,t=>by
  revert t
  unfold Bn;rw[if_pos (show P.length<X.length by rw[h.1];omega)];obtain⟨T,U⟩:=Ss X c (X.length-P.length) P.length;have N:=Yq X c (X.length-P.length) P.length;have O:=W7 X c (X.length-P.length) P.length;generalize El X c (X.length-P.length) P.length=p at *
  have R:=h.1;split
  ·rename_i hpx;intro _;have L:∀ i,c<=i->i<n->en X i c=0:=fun i H I=>N i oV oV;obtain⟨y,J⟩:∃ y:Nat->Rat,y=fun j=>if j<c then -(en X j c) else if j=c then 1 else 0:=⟨_,rfl⟩
   refine⟨y,fun i hi=>?_,c,oV,?_⟩
   ·rw[Ah (g:=fun j=>(if j=c then en X i c else 0)+if j=i then (if i<c then -(en X i c) else 0) else 0) fun j Q=>by
     rw[J];dsimp only;by_cases C:j<c
     ·rw[if_pos C,hu i j hi C,if_neg (show ¬ j=c by omega)];by_cases m:i=j
      ·rw[if_pos m,if_pos m.symm,if_pos oV,m];grind
      rw[if_neg m,if_neg (Ne.symm m)];grind
     rw[if_neg C];by_cases m:j=c
     ·rw[if_pos m,if_pos m,m];by_cases z:c=i
      ·rw[if_pos z,if_neg oV];grind
      rw[if_neg z];grind
     rw[if_neg m,if_neg m];by_cases z:j=i
     ·rw[if_pos z,if_neg oV];grind
     rw[if_neg z];grind,F7,Aak n c (fun _=>en X i c) oV,Aak n i (fun _=>if i<c then -(en X i c) else 0) hi]
    by_cases e:i<c
    ·rw[if_pos e];grind
    rw[if_neg e,L i oV hi];decide +kernel
   rw[J];dsimp only;rw[if_neg (Nat.lt_irrefl _),if_pos rfl];decide +kernel
  rename_i hpx;intro t;have u:p<n:=oV;have h0:=O oV;rw[hP]at t;have E:=Yt h F (show c<n by omega) u oV h0 hu;obtain⟨y,H,I⟩:=Af4 F f (c+1) (P++[c]) (J8 X c c p) _ oV (by simp[hP]) (Xw h oV u) E t;exact⟨y,Aq3 h F oV u oV h0 H,I⟩
section
variable {j:Nat}
def C6 (a:Nat->Nat->Rat):Nat->Nat->Nat->Rat
 |0,i,k=>a i k
 |j+1,i,k=>C6 a j i k-C6 a j i j/C6 a j j j*(C6 a j k j/C6 a j j j)*C6 a j j j
section
variable {n:Nat} {a:Nat->Nat->Rat}
theorem O9 (e:∀ i k,i<n->k<n->a i k=a k i):∀ j i k,i<n->k<n->C6 a j i k=C6 a j k i
 |0,i,k,hi,hk=>e i k hi hk
 |j+1,i,k,hi,hk=>by
  have:=O9 e j i k hi hk;unfold C6;rw[this];grind
def frm (n:Nat)(S:Nat->Nat->Rat)(x:Nat->Rat):Rat:=Bb n fun i=>x i*Bb n fun k=>S i k*x k
theorem Xh (e:j<n)(c:Rat)(g:Nat->Rat):Bb n (fun k=>(if k=j then c else 0)*g k)=c*g j:=by
 induction n with
 |zero=>omega
 |succ n ih =>
  rw[Ds];by_cases h:j<n
  ·rw[ih h,if_neg oV];grind
  obtain rfl:j=n:=oV;rw[if_pos rfl,Ah (g:=fun _=>(0:Rat)*0) fun k m=>by rw[if_neg oV];grind,B4];grind
theorem Ab2 {S:Nat->Nat->Rat}(e:j<n)(t:∀ i k,i<n->k<n->S i k=S k i)(x:Nat->Rat)(c:Rat) :
 frm n S (fun i=>x i+if i=j then c else 0)=frm n S x+2*c*Bb n (fun k=>S j k*x k)+c*c*S j j:=by
 have h:∀ i,i<n->Bb n (fun k=>S i k*(x k+if k=j then c else 0))=Bb n (fun k=>S i k*x k)+c*S i j:=fun i _=>by
  rw[Ah (g:=fun k=>S i k*x k+(if k=j then c else 0)*S i k) fun k _=>by grind,F7,Xh e]
 have m:Bb n (fun i=>x i*S i j)=Bb n fun k=>S j k*x k:=Ah fun i hi=>by rw[t i j hi e];grind
 unfold frm;rw[Ah (g:=fun i=>x i*Bb n (fun k=>S i k*x k)+(c*(x i*S i j)+(if i=j then c else 0)*(Bb n (fun k=>S i k*x k)+c*S i j))) fun i hi=>by rw[h i hi];grind,
  F7,F7,B4,Xh e,m]
 grind
theorem Ash (t:j<n)(E:∀ i k,i<n->k<n->a i k=a k i)(hp:C6 a j j j≠0)(x:Nat->Rat) :
 frm n (C6 a (j+1)) x=frm n (C6 a j) x-Bb n (fun k=>C6 a j j k*x k)*Bb n (fun k=>C6 a j j k*x k)/C6 a j j j:=by
 obtain⟨p,e⟩:∃ p,C6 a j j j=p:=⟨_,rfl⟩;obtain⟨R,m⟩:∃ R,Bb n (fun k=>C6 a j j k*x k)=R:=⟨_,rfl⟩;have h:=O9 E j;have u:∀ i,i<n->Bb n (fun k=>C6 a (j+1) i k*x k)=Bb n (fun k=>C6 a j i k*x k)-C6 a j i j/p*R:=fun i hi=>by
  rw[Ah (g:=fun k=>C6 a j i k*x k-C6 a j i j/p*(C6 a j j k*x k)) fun k C=>by
   show (C6 a j i k-C6 a j i j/C6 a j j j*(C6 a j k j/C6 a j j j)*C6 a j j j)*x k=_;rw[h k j C t,e]at *
   grind,Y8,B4,m]
 have z:Bb n (fun i=>x i*C6 a j i j)=R:=by rw[<-m];exact Ah fun i hi=>by rw[h i j hi t];grind
 rw[m,e];unfold frm;rw[Ah (g:=fun i=>x i*Bb n (fun k=>C6 a j i k*x k)-R/p*(x i*C6 a j i j)) fun i hi=>by rw[u i hi];grind,Y8,B4,z];grind
theorem Aru (u:∀ i k,i<n->k<n->a i k=a k i)(hp:∀ x,(∃ i,i<n/\x i≠0)->0<frm n a x):∀ j,j<=n->∀ x:Nat->Rat,(∀ i,i<j->x i=0)->(∃ i,i<n/\x i≠0)->0<frm n (C6 a j) x
 |0,_,x,_,hx=>hp x hx
 |j+1,hj,x,h0,⟨i,hi,hxi⟩=>by
  have m:j<n:=oV
  have C:=Aru u hp j oV;have h:0<C6 a j j j:=by
   have z:=C (fun i=>0+if i=j then 1 else 0) (fun i t=>by rw[if_neg oV];grind) ⟨j,m,by rw[if_pos rfl];decide +kernel⟩;rw[Ab2 m (O9 u j) (fun _=>0) 1]at z;have E:frm n (C6 a j) (fun _=>0)=0:=by
    unfold frm;rw[Ah (g:=fun _=>(0:Rat)*0) fun i _=>by grind,B4];grind
   have F:Bb n (fun k=>C6 a j j k*(0:Rat))=0:=by
    rw[Ah (g:=fun _=>(0:Rat)*0) fun i _=>by grind,B4];grind
   rw[E,F]at z;grind
  rw[Ash m u (fun e=>by rw[e]at h;exact absurd h jV) x];have t:i≠j:=fun e=>hxi (h0 i oV);have H:=C (fun i=>x i+if i=j then -(Bb n (fun k=>C6 a j j k*x k)/C6 a j j j) else 0) (fun i t=>by rw[if_neg oV,h0 i oV];grind) ⟨i,hi,by rw[if_neg t];grind⟩;rw[Ab2 m (O9 u j)]at H;generalize Bb n (fun k=>C6 a j j k*x k)=R at *
  generalize C6 a j j j=p at *
  have I:p≠0:=fun e=>by rw[e]at h;exact absurd h jV
  have e:2 * -(R/p)*R + -(R/p) * -(R/p)*p = -(R*R/p):=by grind
  grind
theorem Akt (m:∀ i k,i<n->k<n->a i k=a k i)(hp:∀ x,(∃ i,i<n/\x i≠0)->0<frm n a x)(h:j<n):0<C6 a j j j:=by
 have e:=Aru m hp j oV (fun i=>0+if i=j then 1 else 0) (fun i z=>by rw[if_neg oV];grind) ⟨j,h,by rw[if_pos rfl];decide +kernel⟩;rw[Ab2 h (O9 m j) (fun _=>0) 1]at e;have t:frm n (C6 a j) (fun _=>0)=0:=by
  unfold frm;rw[Ah (g:=fun _=>(0:Rat)*0) fun i _=>by grind,B4];grind
 have u:Bb n (fun k=>C6 a j j k*(0:Rat))=0:=by
  rw[Ah (g:=fun _=>(0:Rat)*0) fun i _=>by grind,B4];grind
 rw[t,u]at e;grind
end
end
section
variable {i:Nat}
def idN (i k:Nat):Rat:=if i=k then 1 else 0
def Uj (n:Nat)(X A:Nat->Nat->Rat)(i k:Nat):Rat:=Bb n fun j=>X i j*A j k
def Fy (n:Nat)(X:Nat->Nat->Rat)(x:Nat->Rat)(i:Nat):Rat:=Bb n fun j=>X i j*x j
def Vq (n:Nat)(x y:Nat->Rat):Rat:=Bb n fun j=>x j*y j
def Ac1 (n:Nat)(A:Nat->Nat->Rat):Prop:=∀ i k,i<n->k<n->A i k=A k i
def Fe (n:Nat)(X A:Nat->Nat->Rat):Prop:=∀ i k,i<n->k<n->Uj n X A i k=idN i k
def Xu (n:Nat)(A:Nat->Nat->Rat):Prop:=∀ y:Nat->Rat,(∀ i,i<n->Fy n A y i=0)->∀ i,i<n->y i=0
def Pe (n m:Nat)(f:Nat->Nat->Rat):Bb n (fun i=>Bb m fun j=>f i j)=Bb m fun j=>Bb n fun i=>f i j:=Z2 f _ _
def Jp (n:Nat)(f:Nat->Rat)(k:Rat):Bb n (fun i=>f i*k)=Bb n f*k:=Ls k _
section
variable {n:Nat} {X Y A B:Nat->Nat->Rat} {x y:Nat->Rat} {w:Rat}
def Ag9 (hi:i<n)(f:Nat->Rat):Bb n (fun j=>idN j i*f j)=f i:=by
 have:=Xh hi (1:Rat) f;rw[Rat.one_mul]at this;exact this
def Akw (hi:i<n)(f:Nat->Rat):Bb n (fun j=>f j*idN i j)=f i:=by
 rw[<-Ag9 hi f];exact Ah fun j _=>by
  unfold idN;by_cases e:i=j
  ·rw[if_pos e,if_pos e.symm];exact Rat.mul_comm ..
  rw[if_neg e,if_neg (Ne.symm e)];exact Rat.mul_comm ..
def O1 (i k:Nat):idN i k=idN k i:=by
 unfold idN;by_cases e:i=k
 ·rw[if_pos e,if_pos e.symm]
 rw[if_neg e,if_neg (Ne.symm e)]
theorem Aid (i k:Nat)(Z:Nat->Nat->Rat):Bb n (fun j=>X i j*Uj n A Z j k)=Bb n fun m=>Uj n X A i m*Z m k:=by
 have e:Bb n (fun j=>X i j*Uj n A Z j k)=Bb n fun j=>Bb n fun m=>X i j*(A j m*Z m k):=Ah fun j _=>by unfold Uj;rw[B4]
 rw[e,Pe];refine Ah fun m _=>?_;unfold Uj;rw[<-Jp];exact Ah fun j _=>by grind
def Adp (t:Fe n X A)(u:Fe n A Y):∀ i k,i<n->k<n->X i k=Y i k:=fun i k hi h=>by
 have e:=Aid (n:=n) (X:=X) (A:=A) i k Y;rw[Ah (g:=fun j=>X i j*idN k j) fun j z=>by rw[u j k z h,O1],Akw h,Ah (f:=fun m=>Uj n X A i m*Y m k) (g:=fun m=>idN m i*Y m k) fun m C=>by rw[t i m hi C,O1],Ag9 hi]at e;exact e
def Are (e:Ac1 n A)(h:Fe n X A):Fe n A (fun i k=>X k i):=fun i k hi m=>by
 rw[O1,<-h k i m hi];exact Ah fun j g=>by rw[e i j hi g];exact Rat.mul_comm ..
def Av2 (g:Ac1 n A)(h:Fe n A X):Fe n (fun i k=>X k i) A:=fun i k hi e=>by
 rw[O1,<-h k i e hi];exact Ah fun j m=>by rw[g k j e m];exact Rat.mul_comm ..
def Ak9 (e:Ac1 n A)(h:Fe n X A):Ac1 n X:=fun i k hi g=>Adp h (Are e h) i k hi g
def Tg (e:Ac1 n A)(h:Fe n X A):Fe n A X:=fun i k hi g=>by
 rw[<-Are e h i k hi g];exact Ah fun j m=>by rw[Ak9 e h j k m g]
def Apf (m:Ac1 n A)(h:Fe n A X):Fe n X A:=by
 have e:=Av2 m h;have g:=Adp e h;intro i k hi u;rw[<-e i k hi u];exact Ah fun j t=>by rw[<-g i j hi t]
def Aps (g:Ac1 n A)(h:Fe n X A)(e:Fe n Y A):∀ i k,i<n->k<n->X i k=Y i k:=Adp h (Tg g e)
def byN (n:Nat)(X:Nat->Nat->Rat)(x:Nat->Rat)(w:Rat):Rat:=1+w*Vq n x (Fy n X x)
def Vd (n:Nat)(X:Nat->Nat->Rat)(x:Nat->Rat)(w:Rat)(i k:Nat):Rat:=X i k + -(w/byN n X x w)*Fy n X x i*Fy n (fun i k=>X k i) x k
def Vc (A:Nat->Nat->Rat)(x:Nat->Rat)(w:Rat)(i k:Nat):Rat:=A i k+w*(x i*x k)
theorem Aqh (h:Fe n X A)(L:byN n X x w≠0):Fe n (Vd n X x w) (Vc A x w):=fun i k hi C=>by
 obtain⟨r,t⟩:∃ r,Fy n X x=r:=⟨_,rfl⟩;obtain⟨c,z⟩:∃ c,Fy n (fun i k=>X k i) x=c:=⟨_,rfl⟩;obtain⟨f,F⟩:∃ f,w/byN n X x w=f:=⟨_,rfl⟩;have H:Bb n (fun j=>c j*A j k)=x k:=by
  have u:Bb n (fun j=>c j*A j k)=Bb n fun j=>Bb n fun m=>X m j*x m*A j k:=Ah fun j _=>by rw[<-z];unfold Fy;rw[Jp]
  rw[u,Pe,Ah (g:=fun m=>x m*idN k m) fun m K=>by
   rw[Ah (g:=fun j=>x m*(X m j*A j k)) fun j _=>by grind,B4,show Bb n (fun j=>X m j*A j k)=idN m k from h m k K C,O1],Akw C]
 have I:Bb n (fun j=>c j*x j)=Vq n x r:=by
  have u:Bb n (fun j=>c j*x j)=Bb n fun j=>Bb n fun m=>X m j*x m*x j:=Ah fun j _=>by rw[<-z];unfold Fy;rw[Jp]
  rw[u,Pe];unfold Vq;refine Ah fun m _=>?_;rw[<-t];unfold Fy;rw[<-B4];exact Ah fun j _=>by grind
 have J:Bb n (fun j=>X i j*x j)=r i:=by rw[<-t];rfl
 have E:=h i k hi C;have e:f*byN n X x w=w:=by rw[<-F];grind
 unfold byN at e;rw[t]at e;unfold Uj at E⊢;rw[Ah (g:=fun j=>X i j*A j k+(w*x k)*(X i j*x j)+((-f*r i)*(c j*A j k)+(-f*r i*w*x k)*(c j*x j))) fun j _=>by
  unfold Vd Vc;rw[t,z,F];grind,F7,F7,F7,B4,B4,B4,H,I,J,E]
 grind
theorem Ab6 (h:Fe n A X)(hi:i<n):Fy n A (Fy n X x) i=x i:=by
 have e:Fy n A (Fy n X x) i=Bb n fun m=>Uj n A X i m*x m:=by
  unfold Fy;rw[Ah (g:=fun j=>Bb n fun m=>A i j*(X j m*x m)) fun j _=>by rw[B4],Pe];refine Ah fun m _=>?_;unfold Uj;rw[<-Jp];exact Ah fun j _=>by grind
 rw[e,Ah (g:=fun m=>idN m i*x m) fun m t=>by rw[h i m hi t,O1],Ag9 hi]
theorem Az9 (u:Fe n A X)(hi:Xu n (Vc A x w)):byN n X x w≠0:=fun h0=>by
 have m:∀ i,i<n->Fy n (Vc A x w) (Fy n X x) i=0:=fun i h=>by
  have e:Fy n (Vc A x w) (Fy n X x) i=Fy n A (Fy n X x) i+w*x i*Vq n x (Fy n X x):=by
   obtain⟨r,C⟩:∃ r,Fy n X x=r:=⟨_,rfl⟩;rw[C];unfold Fy Vq Vc;rw[Ah (g:=fun j=>A i j*r j+w*x i*(x j*r j)) fun j _=>by grind,F7,B4]
  rw[e,Ab6 u h];unfold byN at h0;grind
 have t:=hi _ m;unfold byN Vq at h0;rw[Ah (g:=fun _=>(0:Rat)*0) fun j z=>by rw[t j z];grind,B4]at h0;exact absurd h0 (by rw[Ban,Bau];decide +kernel)
def Aye (n:Nat)(X:Nat->Nat->Rat)(x:Nat->Rat):Rat:=Vq n x (Fy n X x)
def Avo (e:Fe n A X):Aye n X x=frm n A (Fy n X x):=by
 unfold Aye Vq frm;refine Ah fun i hi=>?_;have:=Ab6 (x:=x) e hi;unfold Fy at this⊢;rw[this];exact Rat.mul_comm ..
theorem Avk (m:Fe n A X)(hp:∀ x,(∃ i,i<n/\x i≠0)->0<frm n A x)(u:∃ i,i<n/\x i≠0):0<Aye n X x:=by
 rw[Avo m];refine hp _ (A3m fun t=>?_);obtain⟨i,hi,h0⟩:=u;refine h0 ?_;rw[<-Ab6 (x:=x) m hi];have z:∀ j,j<n->Fy n X x j=0:=fun j e=>A3m fun h=>t ⟨j,e,h⟩;rw[show Fy n A (Fy n X x) i=Bb n fun j=>A i j*Fy n X x j from rfl,Ah (g:=fun _=>(0:Rat)*0) fun j e=>by rw[z j e];grind,B4,Ban]
end
end
section
variable {M n:Nat}{P:Nat->Nat}{R S:Nat->Nat->Int}{v:Int}
def N5:Nat->Nat
 |0=>1
 |n+1=>(n+1)*N5 n
def Aev {f:Nat->Int}{M:Nat}:∀ {n:Nat},(∀ j,j<n->(f j).natAbs<=M)->(Ca n f).natAbs<=n*M
 |0,_=>by rw[Ca];omega
 |n+1,h=>by
  have e:=Aev fun j (m:j<n)=>h j oV;have g:=h n oV;rw[Ca,A16,A3i];have:=Int.natAbs_add_le (Ca n f) (f n);omega
def Aky:∀ n:Nat,(dsg n).natAbs=1
 |0=>rfl
 |n+1=>by rw[dsg,A3l,Aky n]
def Aj1 {M:Nat}:∀ {r:Nat} {C:Nat->Nat->Int},(∀ t,t<r->∀ i,i<r->(C t i).natAbs<=M)->(dt r C).natAbs<=N5 r*M^r
 |0,_,_=>by rw[dt,N5,A8j];decide
 |r+1,C,h=>by
  rw[dt];have e:(Ca (r+1) fun j=>dsg (r+j)*C j r*dt r (Eu j C)).natAbs<=(r+1)*(M*(N5 r*M^r)):=Aev fun j g=>by
   rw[A26,A26,Aky,A3i];refine A25 (h j g r oV) (Aj1 fun t m i hi=>?_);unfold Eu;split
   ·exact h t oV i oV
   exact h (t+1) oV i oV
  refine A04 e (Nat.le_of_eq ?_);rw[N5,A2d];simp only[A17,A19,Nat.mul_left_comm]
def Art (h:Bar n R P n v S){j:Nat}(g:j<n)(k:Nat):S j k=dt n (Dc (fun j i=>R i (P j)) j fun i=>R i k):=by
 have e:=Z3 (fun j i=>R i (P j)) g (fun j=>S j k);have m:dt n (Dc (fun j i=>R i (P j)) j fun i=>Ca n fun t=>S t k*R i (P t))=dt n (Dc (fun j i=>R i (P j)) j fun i=>v*R i k+0*R i k):=Ih fun t z i hi=>by
  unfold Dc;split
  ·show (Ca n fun t=>S t k*R i (P t))=v*R i k+0*R i k;rw[h.lo i hi k,Int.zero_mul,Int.add_zero]
  rfl
 have u:=Mt v 0 (fun i=>R i k) (fun i=>R i k) (fun j i=>R i (P j)) g;rw[m,u,Int.zero_mul,Int.add_zero,h.d,Int.mul_comm]at e;exact (Int.eq_of_mul_eq_mul_right h.v0 e).symm
def Aua (h:Bar n R P n v S)(e:∀ i,i<n->∀ k,(R i k).natAbs<=M):v.natAbs<=N5 n*M^n/\∀ j,j<n->∀ k,(S j k).natAbs<=N5 n*M^n:=by
 refine⟨by rw[<-h.d];exact Aj1 fun t _ i hi=>e i hi _,fun j g k=>?_⟩;rw[Art h g k];refine Aj1 fun t _ i hi=>?_;unfold Dc;split
 ·exact e i hi _
 exact e i hi _
def Auw {n w M:Nat}{X:List (List Int)}(h:E8 n w X)(t:∀ i,i<n->∀ k,(enZ X i k).natAbs<=M)(C:(Fm n n 0 ⟨X,[],1,false⟩).P.length=n) :
 (Fm n n 0 ⟨X,[],1,false⟩).v.natAbs<=N5 n*M^n/\∀ j,j<n->∀ k,(enZ (Fm n n 0 ⟨X,[],1,false⟩).X j k).natAbs<=N5 n*M^n:=by
 have h0:Ajv n w (enZ X) 0 ⟨X,[],1,false⟩:=⟨h,rfl,enZ X,fun i hi=>⟨i,hi,rfl⟩,fun i hi=>⟨i,hi,rfl⟩,Bar.init n _ _⟩;rcases Aci n 0 _ oV h0 with ⟨_,_,R,_,g,m⟩|⟨_,z⟩
 ·exact Aua m fun i hi k=>by
   obtain⟨j,u,e⟩:=g i hi;rw[e];exact t j u k
 omega
end
section
variable {i k:Nat}
def Iu (n:Nat)(Z:Nat->Nat->Int):List (List Int):=(List.range n).map fun i=>(List.range (n+n)).map fun k=>if k<n then Z i k else if i=k-n then 1 else 0
section
variable {n:Nat} {Z:Nat->Nat->Int} {A X:Nat->Nat->Rat} {D M:Nat}
def Sm (hi:i<n):gMZ (Iu n Z) i=(List.range (n+n)).map fun k=>if k<n then Z i k else if i=k-n then 1 else 0:=by
 unfold gMZ Iu;rw[A02,A1a,A31 hi];rfl
def Vu:E8 n (n+n) (Iu n Z):=⟨by unfold Iu;simp,fun i hi=>by rw[Sm hi];simp⟩
def Afx (hi:i<n)(e:k<n):enZ (Iu n Z) i k=Z i k:=by
 unfold enZ;rw[Sm hi,Abr _ oV,if_pos e]
def Ao5 (hi:i<n)(e:k<n):enZ (Iu n Z) i (n+k)=if i=k then 1 else 0:=by
 unfold enZ;rw[Sm hi,Abr _ oV,if_neg oV,show n+k-n=k by omega]
def Ald (g:∀ i k,i<n->k<n->(Z i k).natAbs<=M)(j:1<=M):∀ i,i<n->∀ k,(enZ (Iu n Z) i k).natAbs<=M:=fun i hi k=>by
 by_cases e:k<n
 ·rw[Afx hi e];exact g i k hi e
 by_cases h:k<n+n
 ·obtain⟨m,rfl⟩:∃ m,k=n+m:=⟨k-n,oV⟩;rw[Ao5 hi oV];split<;>simp<;>omega
 unfold enZ;rw[Sm hi,Ado gV];simp
theorem Aqr (hs:Ac1 n A)(V:Fe n X A)(hi:Xu n A)(T:0<D)(J:∀ i k,i<n->k<n->A i k*(D:Rat)=Z i k)(U:∀ i k,i<n->k<n->(Z i k).natAbs<=M)(R:1<=M) :
 ∃ L:Nat,0<L/\L<=N5 n*M^n/\∀ j k,j<n->k<n->∃ z:Int,X j k*(L:Rat)=z/\z.natAbs<=D*(N5 n*M^n):=by
 have Y:=T4 T;rcases Za (Vu (n:=n) (Z:=Z)) with ⟨hl,_,O,I⟩|⟨⟨y,⟨j0,E,H⟩,hy⟩,_⟩
 ·obtain⟨K,N⟩:=Auw (Vu (n:=n) (Z:=Z)) (Ald U R) hl;generalize Fm n n 0 ⟨Iu n Z,[],1,false⟩=s at O I K N;have a0:(s.v:Rat)≠0:=fun e=>O (A7f.1 (by rw[e];rfl));have W:Fe n A (fun j k=>(enZ s.X j (n+k):Rat)*(D:Rat)/(s.v:Rat)):=fun i k hi F=>by
   have e:=congrArg (fun z:Int=>(z:Rat)) (I i hi (n+k));simp only[Oy,A3c]at e;rw[Ao5 hi F]at e;have Q:(((if i=k then 1 else 0:Int)):Rat)=idN i k:=by unfold idN;split<;>rfl
   rw[Q]at e;unfold Uj;rw[Ah (g:=fun j=>(1/(s.v:Rat))*((enZ s.X j (n+k):Rat)*(enZ (Iu n Z) i j:Rat))) fun j m=>by
    rw[Afx hi m,<-J i j hi m];grind,B4,e]
   grind
  have C:=Adp V W;refine⟨s.v.natAbs,oV,K,fun j k m F=>?_⟩;have P:=N j m (n+k);rw[C j k m F];rcases Int.natAbs_eq s.v with e|e
  ·refine⟨enZ s.X j (n+k)*(D:Int),?_,?_⟩
   ·have u:((s.v.natAbs:Nat):Rat)=(s.v:Rat):=by
     have:=congrArg (fun z:Int=>(z:Rat)) e;simp only[A2r]at this;exact this.symm
    rw[u,A3c,A2r];grind
   rw[A26,A1s,A19];exact A2h _ P
  refine⟨-(enZ s.X j (n+k)*(D:Int)),?_,?_⟩
  ·have u:((s.v.natAbs:Nat):Rat) = -(s.v:Rat):=by
    have:=congrArg (fun z:Int=>(z:Rat)) e;simp only[A8k,A2r]at this;rw[this];grind
   rw[u,A8k,A3c,A2r];grind
  rw[A3l,A26,A1s,A19];exact A2h _ P
 refine absurd (hi (fun j=>(y j:Rat)) (fun i t=>?_) j0 E) fun e=>H (A7f.1 (by rw[e];rfl));have e:=congrArg (fun z:Int=>(z:Rat)) (hy i t);simp only[Oy,A3c]at e;unfold Fy;have u:Bb n (fun j=>A i j*(y j:Rat))*(D:Rat)=0:=by
  rw[<-Jp,Ah (g:=fun j=>(y j:Rat)*(enZ (Iu n Z) i j:Rat)) fun j m=>by rw[Afx t m,<-J i j t m];grind,e];rfl
 rcases A40.1 u with h|h
 ·exact h
 exact absurd h Y
end
end
section
variable {A:List (List Rat)}{i n:Nat}
def Lf (n:Nat)(A:List (List Rat)):List (List Rat):=(List.range n).map fun i=>gM A i++(List.range n).map fun k=>idN i k
def Sp (hi:i<n):gM (Lf n A) i=gM A i++(List.range n).map fun k=>idN i k:=by
 unfold Lf gM;rw[A02,A1a,A31 hi];rfl
def Rd (e:Rec n n A):Rec n (n+n) (Lf n A) :=
 ⟨by simp[Lf],fun i hi=>by rw[Sp hi,A1d,e.2 i hi];simp⟩
def Ah9 (e:Rec n n A){i j:Nat}(hi:i<n)(g:j<n):en (Lf n A) i j=en A i j:=by
 unfold en;rw[Sp hi];unfold gR;rw[A02,A02,A1r (by rw[e.2 i hi];exact g)]
def Arm (e:Rec n n A){i k:Nat}(hi:i<n)(g:k<n):en (Lf n A) i (n+k)=idN i k:=by
 unfold en;rw[Sp hi];unfold gR;rw[A02,A18 (by rw[e.2 i hi];omega),e.2 i hi,Nat.add_sub_cancel_left,A1a,A31 g];rfl
def Ao3 (e:Rec n n A)(u:¬ (Bn n 0 [] (Lf n A) 1).1.length<n):Fe n (en A) (fun j k=>en (Bn n 0 [] (Lf n A) 1).2.1 j (n+k)):=fun i k hi t=>by
 have h:=Z5 (n:=n) (w:=n+n) (m:=n+k) oV oV n 0 [] (Lf n A) 1 oV rfl (Rd e) (fun i j _ g=>absurd g (Nat.not_lt_zero _)) u i hi;rw[Arm e hi t]at h;unfold Uj;rw[<-h];exact Ah fun j g=>by rw[Ah9 e hi g]
theorem Au4 {n D:Nat}{A:Nat->Nat->Rat}{Z:Nat->Nat->Int}(hi:Xu n A)(K:0<D)(H:∀ i k,i<n->k<n->A i k*(D:Rat)=Z i k) :
 (Fm n n 0 ⟨Iu n Z,[],1,false⟩).P.length=n/\E8 n (n+n) (Fm n n 0 ⟨Iu n Z,[],1,false⟩).X/\(Fm n n 0 ⟨Iu n Z,[],1,false⟩).v≠0 /\
  Fe n A (fun j k=>(enZ (Fm n n 0 ⟨Iu n Z,[],1,false⟩).X j (n+k):Rat)*(D:Rat)/((Fm n n 0 ⟨Iu n Z,[],1,false⟩).v:Rat)):=by
 have L:(D:Rat)≠0:=T4 K;rcases Za (Vu (n:=n) (Z:=Z)) with ⟨O,Q,C,F⟩|⟨⟨y,⟨j0,u,E⟩,T⟩,_⟩
 ·refine⟨O,Q,C,?_⟩;generalize Fm n n 0 ⟨Iu n Z,[],1,false⟩=s at C F;have R:(s.v:Rat)≠0:=fun e=>C (A7f.1 (by rw[e];rfl));intro i k hi N;have e:=congrArg (fun z:Int=>(z:Rat)) (F i hi (n+k));simp only[Oy,A3c]at e;rw[Ao5 hi N]at e;have J:(((if i=k then 1 else 0:Int)):Rat)=idN i k:=by unfold idN;split<;>rfl
  rw[J]at e;unfold Uj;rw[Ah (g:=fun j=>(1/(s.v:Rat))*((enZ s.X j (n+k):Rat)*(enZ (Iu n Z) i j:Rat))) fun j t=>by
   rw[Afx hi t,<-H i j hi t];grind,B4,e]
  grind
 refine absurd (hi (fun j=>(y j:Rat)) (fun i m=>?_) j0 u) fun e=>E (A7f.1 (by rw[e];rfl));have e:=congrArg (fun z:Int=>(z:Rat)) (T i m);simp only[Oy,A3c]at e;unfold Fy;have I:Bb n (fun j=>A i j*(y j:Rat))*(D:Rat)=0:=by
  rw[<-Jp,Ah (g:=fun j=>(y j:Rat)*(enZ (Iu n Z) i j:Rat)) fun j t=>by rw[Afx m t,<-H i j m t];grind,e];rfl
 rcases A40.1 I with h|h
 ·exact h
 exact absurd h L
end
def Att {T:List (List UInt8×Nat)}{F:List Al}{lab:Int}{ss:List (List UInt8)}(hF:Da T F lab)(m:Bw T ss):∀ x∈Dx F ss F.length,SmW x.2:=fun x n=>by
 obtain⟨j,f,t,h,g⟩:=F9.1 n;unfold Jf at g;split at g
 ·cases g;exact I7
 rename_i h2;split at g
 ·cases g
 rename_i h0;cases g;exact (S3 hF m (A1k h) h2 (fun e=>h0 (.inl e))).1
section
variable {x:Rat}
def Azu {q:Rat}{z:Int}(h:q*((4320:Nat):Rat)=(z:Rat))(j:z.natAbs<=1000000000000):Th q:=by
 obtain⟨e,g⟩:=Wy h oV;exact⟨De.tx (a:=13) (b:=4) ⟨z,4320,h,oV,oV,oV⟩ oV oV oV oV,A74 e fV,oV⟩
theorem Az2 {x t:Rat}{N:Nat}(h:Dn 2 N x)(I:N<=28873454400)(E:∃ p:Int,t*30=p/\p.natAbs<=180):Th (x+t):=by
 obtain⟨z,g,F⟩:=h;obtain⟨p,u,H⟩:=E;refine Azu (z:=z*30+p*144) ?_ oV;have e:((12^2:Nat):Rat)=144:=jV
 have j:((4320:Nat):Rat)=4320:=jV
 have m:((30:Int):Rat)=30:=jV
 have n:((144:Int):Rat)=144:=jV
 rw[e]at g;rw[A7d,A3c,A3c,<-g,<-u,j,m,n];grind
def Abz {N:Nat}(h:Dn 2 N x)(j:N<=28873454400):De 75 18 x:=by
 obtain⟨z,e,g⟩:=h;exact⟨z,144,by rw[<-e],oV,A22 g (A22 j jV),jV⟩
section
variable {P:List Par} {C:CF} {q:Rat} {N k:Nat}
def Azc (h:In N C)(t:N<=28873454400)(z:∃ p:Int,q*30=p/\p.natAbs<=180):∀ r∈Eh C P q,∀ x∈r,Th x:=by
 intro r E x F;have n:=Rx (P:=P) (C:=C) (q:=q);obtain⟨i,hi,rfl⟩:=A3d.1 E;obtain⟨j,u,rfl⟩:=A3d.1 F;have g:i<P.length+1:=by have:=n.1;omega
 have m:j<P.length+1:=by have:=n.2 i g;rw[Ch hi]at this;omega
 have e:=N8 (P:=P) (C:=C) (q:=q) g m;unfold en at e;rw[Ch hi,Cu u]at e;rw[e];refine Az2 (h.c _ _) t ?_;split
 ·exact z
 exact⟨0,jV,fV⟩
def Avn (g:In N C)(j:N<=28873454400)(z:CFV C)(n:C.c=(k:Rat))(u:k<100):Ai6 C k:=by
 refine⟨n,u,fun p=>Abz (g.c none (some p)) j,fun p=>?_⟩;by_cases h:C.t p=0
 ·rw[h];exact Abz (Dn.zero 2 0) oV
 have m:=(z.t p h).2.2;have e:Ay p.1 p.2=p:=by unfold Ay;rw[if_neg m]
 have:=Abz (g.c (some p.1) (some p.2)) j;rw[show As C (some p.1) (some p.2)=C.t (Ay p.1 p.2) from rfl,e]at this;exact this
def Fd.sixty (h:Fd q):∃ p:Int,q*30=p/\p.natAbs<=180:=by
 obtain⟨p,e,g⟩:=h.thirty;exact⟨p,e,oV⟩
def Api {F:List Al}{lab:Int}(L:List Dm):∀ {L':List Dm},Cf F lab (L++L')=(Cf F lab L).add (Cf F lab L'):=by
 intro L';induction L' using Ig with
 |h0 =>
  rw[A1x];show _=CF.mk ((Cf F lab L).c+0) (fun p=>(Cf F lab L).s p+0) (fun p=>(Cf F lab L).t p+0);simp only[Rat.add_zero]
 |h1 L' y ih =>
  rw[<-A2k,Eb,Eb,ih];simp only[CF.add,Rat.add_assoc]
end
end
section
theorem Ax5 (x:Rat):0<=x*x:=by
 rcases A9g (a:=0) (b:=x) with h|h
 ·exact A4o h h
 have:=A4o (a:=-x) (b:=-x) (by grind) (by grind);grind
section
variable {P:List Par} {C:CF} {b d:Option Par->Rat} {q:Rat} {N D:Nat}
theorem Ats {z:Option Par->Rat}(n:0<q)(u:0<C.c)(hp:∀ z,0<=Dh z P C)(h:Dh z P C+q*Vn P z<=0):∀ e∈An P,z e=0:=by
 have I:=hp z;have E:=Arq P z;have J:=A4o (Bat n) E;have F:Vn P z=0:=by
  have:q*Vn P z=0:=by grind
  rcases A40.1 this with e|e
  ·rw[e]at n;exact absurd n jV
  exact e
 have j:∀ p∈P,z (some p)=0:=fun p hp=>by
  have:=Ww (fun q _=>Ax5 (z (some q))) F p hp;rcases A40.1 this with e|e<;>exact e
 have H:z none=0:=by
  have t:Dh z P C=0:=by grind
  have m:B9 (fun f=>z none*As C none f*z f) (An P)=z none*C.c*z none:=by
   rw[S6,Fv fun p hp=>by rw[j p hp,Bau]];show z none*C.c*z none+0=_;grind
  unfold Dh at t;rw[S6,m,Fv fun p hp=>by
   refine Fv fun f _=>?_;rw[j p hp];grind]at t
  have e:z none*C.c*z none=0:=by grind
  rcases A40.1 e with e|e
  ·rcases A40.1 e with e|e
   ·exact e
   rw[e]at u;exact absurd u jV
  exact e
 intro e g;unfold An at g;rcases A1g.1 g with rfl|g
 ·exact H
 obtain⟨p,hp,rfl⟩:=A1b.1 g;exact j p hp
end
end
section
section
variable {P:List Par} {C:CF} {q:Rat} {N:Nat}
def Auy:∀ i k,i<P.length+1->k<P.length+1->en (Eh C P q) i k=en (Eh C P q) k i:=fun i k hi g=>by
 rw[N8 hi g,N8 g hi,Ajc];by_cases e:i=k
 ·subst e;rfl
 rw[if_neg (fun h=>e h.1),if_neg (fun h=>e h.1.symm)]
theorem Axs (L:0<q)(J:0<C.c)(hp:∀ z,0<=Dh z P C)(E:P.Nodup)(x:Nat->Rat)(O:∃ i,i<P.length+1/\x i≠0):0<frm (P.length+1) (en (Eh C P q)) x:=by
 obtain⟨z,t⟩:∃ z:Option Par->Rat,∀ j,j<P.length+1->z ((An P).getD j none)=x j:=⟨cfE (x 0) (P.zip ((List.range P.length).map fun j=>x (j+1))),fun j n=>by
  rw[Ar2 E mV j n];cases j with
  |zero=>rfl
  |succ j=>exact Aep (by rw[A7r,A1a,A31 oV];rfl)⟩
 have m:∀ i,i<P.length+1->Bb (P.length+1) (fun k=>en (Eh C P q) i k*x k)=B9 (fun f=>As C ((An P).getD i none) f*z f) (An P)+P7 q z ((An P).getD i none):=fun i hi=>by
  rw[Ah (g:=fun j=>As C ((An P).getD i none) ((An P).getD j none)*z ((An P).getD j none)+(if i=j/\0<i then q else 0)*x j) (fun j n=>by rw[N8 hi n,t j n];grind),F7,Agy,Qa _ (An P) none,Cp];have h:P7 q z ((An P).getD i none)=if i<P.length+1/\0<i then q*x i else 0:=by
   cases i with
   |zero=>rw[if_neg oV];rfl
   |succ j =>
    rw[if_pos ⟨hi,oV⟩,<-t _ hi];unfold An;rw[A6b,A02,A1a,A01 oV];rfl
  rw[h]
 have K:frm (P.length+1) (en (Eh C P q)) x=Dh z P C+q*Vn P z:=by
  unfold frm;have I:Bb (P.length+1) (fun i=>x i*Bb (P.length+1) fun k=>en (Eh C P q) i k*x k)=B9 (fun e=>z e*B9 (fun f=>As C e f*z f) (An P)+z e*P7 q z e) (An P):=by
   rw[Qa (fun e=>z e*B9 (fun f=>As C e f*z f) (An P)+z e*P7 q z e) (An P) none,Cp];exact Ah fun i hi=>by rw[m i hi,t i hi];grind
  rw[I,L7,S6 (f:=fun e=>z e*P7 q z e),Zz];have H:B9 (fun p=>z (some p)*P7 q z (some p)) P=q*Vn P z:=by unfold Vn;rw[<-Ji];exact Dt fun p _=>by unfold P7;grind
  rw[H];unfold As4 P7;grind
 rw[K];refine Rat.not_le.1 fun u=>?_;have h0:=Ats L J hp u;obtain⟨i,hi,F⟩:=O;exact F (by rw[<-t i hi];exact h0 _ (Alq hi))
end
end
section
variable {A B:Nat->Nat->Rat}{n:Nat}
section
variable {P:List Par} {C H:CF} {q w:Rat} {X:Nat->Nat->Rat}
def Fg (P:List Par)(s:Par->Rat)(i:Nat):Rat:=Zg s ((An P).getD i none)
theorem Agi (o:Qi H):∀ i k,i<P.length+1->k<P.length+1->en (Eh (C.add (H.scale w)) P q) i k=Vc (en (Eh C P q)) (Fg P H.s) w i k:=fun i k hi e=>by
 unfold Vc Fg;rw[N8 hi e,N8 hi e,T1,o.cell];grind
def Mn:Ac1 (P.length+1) (en (Eh C P q)):=Auy
def Xx (g:P.Nodup)(m:0<C.c)(t:0<q)(e:∀ z,0<=Dh z P C):Xu (P.length+1) (en (Eh C P q)):=fun y h=>by
 have j:=Rx (P:=P) (C:=C) (q:=q);have:=Aum g m t e y (by rw[j.1];exact h);rwa[j.1]at this
def Am3 (h:Fe n X A)(e:∀ i k,i<n->k<n->B i k=A i k):Fe n X B:=fun i k hi g=>by
 rw[<-h i k hi g];exact Ah fun j m=>by rw[e j k m g]
theorem Anu (h:Xu n A)(e:∀ i k,i<n->k<n->B i k=A i k):Xu n B:=fun y hy=>h y fun i hi=>by
 rw[<-hy i hi];exact Ah fun j hj=>by rw[e i j hi hj]
def Apz (o:Qi H)(g:P.Nodup)(m:0<(C.add (H.scale w)).c)(u:0<q)(e:∀ z,0<=Dh z P (C.add (H.scale w)))(h:Fe (P.length+1) X (en (Eh C P q))) :
 byN (P.length+1) X (Fg P H.s) w≠0/\Fe (P.length+1) (Vd (P.length+1) X (Fg P H.s) w) (en (Eh (C.add (H.scale w)) P q)):=by
 have j:byN (P.length+1) X (Fg P H.s) w≠0:=Az9 (Tg Mn h) (Anu (Xx g m u e) fun i k hi t=>(Agi o i k hi t).symm);exact⟨j,Am3 (Aqh h j) (Agi o)⟩
end
end
def Ap3 {A:List (List Rat)}{L K:Nat}(h0:0<L)(C:0<K)(I:L<10^K)(J:nl L<=1000000000)(h:∀ r∈A,∀ q∈r,∃ z:Int,q*(L:Rat)=z/\z.natAbs<10^K):Y5 A L K where
 den:=fun r n q m=>by
  obtain⟨z,g,_⟩:=h r n q m;exact (Wy g h0).1
 pos:=h0
 nl:=J
 dig:=fun D F H=>by
  have e:D<=L:=A48 h0 F;refine⟨Cz C (A22 e I),fun r n q m N=>Cz C ?_⟩;obtain⟨z,g,t⟩:=h r n q m;have j:=(Wy g h0).1;have u:=Aem j;rw[g]at u;have E:q.num*((L/q.den:Nat):Int)=z:=A7f.1 u;refine A22 ?_ t;rw[<-E,A26,A26,A1s,A1s];exact A2h _ (Nat.div_le_div_right e)
section
variable {n:Nat}
def Aks {n w:Nat}{X Y:List (List Rat)}(j:Rec n w X)(z:Rec n w Y)(h:∀ i k,i<n->k<w->en X i k=en Y i k):X=Y:=by
 refine A5l (by rw[j.1,z.1]) fun i g t=>?_;have hi:i<n:=by rw[<-j.1];exact g
 have e:=j.2 i hi;have m:=z.2 i hi;rw[Ch g]at e;rw[Ch t]at m;refine A5l (by rw[e,m]) fun k u E=>?_;have:=h i k hi (by rw[<-e];exact u);unfold en at this;rwa[Ch g,Ch t,Cu u,Cu E]at this
section
variable {P:List Par} {C:CF} {q:Rat} {N:Nat} {X Y:List (List Rat)}
structure H6 (P:List Par)(C:CF)(q:Rat)(X:List (List Rat)):Prop where
 rc:Rec (P.length+1) (P.length+1) X
 inv:Fe (P.length+1) (en X) (en (Eh C P q))
def H6.uniq (h:H6 P C q X)(e:H6 P C q Y):X=Y:=Aks h.rc e.rc (Aps Mn h.inv e.inv)
theorem Az3 (j:In N C)(K:Fd q):∃ Z:Nat->Nat->Int,∀ i k,i<P.length+1->k<P.length+1->en (Eh C P q) i k*((4320:Nat):Rat)=Z i k/\(Z i k).natAbs<=N*30+12960:=by
 obtain⟨p,hp,t⟩:=K.thirty;have e:((12^2:Nat):Rat)=144:=jV;have E:((4320:Nat):Rat)=4320:=jV;have F:((30:Int):Rat)=30:=jV;have H:((144:Int):Rat)=144:=jV;have u:∀ i k,∃ z:Int,As C ((An P).getD i none) ((An P).getD k none)*144=z/\z.natAbs<=N:=fun i k=>by
  obtain⟨z,g,m⟩:=j.c ((An P).getD i none) ((An P).getD k none);rw[e]at g;exact⟨z,g,m⟩
 obtain⟨Z,I⟩:∃ Z:Nat->Nat->Int,∀ i k,As C ((An P).getD i none) ((An P).getD k none)*144=Z i k/\(Z i k).natAbs<=N:=⟨fun i k=>(u i k).choose,fun i k=>(u i k).choose_spec⟩;refine⟨fun i k=>Z i k*30+(if i=k/\0<i then p*144 else 0),fun i k hi J=>?_⟩;obtain⟨g,m⟩:=I i k;constructor
 ·rw[N8 hi J,A7d,A3c,<-g,E,F];by_cases h:i=k/\0<i
  ·rw[if_pos h,if_pos h,A3c,<-hp,H];grind
  rw[if_neg h,if_neg h,show ((0:Int):Rat)=0 from rfl];grind
 show (Z i k*30+if i=k/\0<i then p*144 else 0).natAbs<=_;split<;>omega
def Ay9:∀ n:Nat,n<=12->N5 n<=10^9:=fV
def H6.dens (h:H6 P C q X)(g:In N C)(H:N<=33000000000)(E:Fd q)(t:P.Nodup)(F:0<C.c)(e:∀ z,0<=Dh z P C) :
 ∃ L:Nat,0<L/\L<=N5 (P.length+1)*(10^12)^(P.length+1)/\∀ j k,j<P.length+1->k<P.length+1->∃ z:Int,en X j k*(L:Rat)=z/\z.natAbs<=4320*(N5 (P.length+1)*(10^12)^(P.length+1)):=by
 obtain⟨Z,u⟩:=Az3 (P:=P) g E;exact Aqr Mn h.inv (Xx t F E.pos e) oV (fun i k hi m=>(u i k hi m).1) (fun i k hi m=>A04 (u i k hi m).2 oV) oV
def Al4 (e:n<=12):N5 n*(10^12)^n<10^(12*n+10):=by
 have h:=Ay9 n e;rw[<-Nat.pow_mul,show 12*n+10=12*n+1+9 by omega,A4k (m:=12*n+1) (n:=9),A2d,A19];have g:0<10^(12*n):=A66 oV;have j:=A2h (10^(12*n)) h;have t:10^(12*n)*10^9<10^(12*n)*10*10^9:=by
  refine A6w ?_ fV;omega
 omega
def H6.de (h:H6 P C q X)(m:In N C)(I:N<=33000000000)(R:Fd q)(t:P.Nodup)(J:0<C.c)(g:∀ z,0<=Dh z P C)(F:P.length<=11):∀ j k,j<P.length+1->k<P.length+1->De 158 154 (en X j k):=fun j k O Q=>by
 obtain⟨L,h0,H,u⟩:=h.dens m I R t J g;have K:=Al4 (n:=P.length+1) oV;have hp:(10:Nat)^(12*(P.length+1)+10)<=10^154:=A10 oV oV;generalize N5 (P.length+1)*(10^12)^(P.length+1)=B at H K u;obtain⟨z,E,U⟩:=u j k O Q;generalize hT:(10:Nat)^154=T at hp;refine⟨z,L,E,h0,?_,by rw[hT];omega⟩;have e:(10:Nat)^158=10000*T:=by rw[<-hT,show 158=4+154 by rfl,A4k]
 rw[e];omega
def H6.light (h:H6 P C q X)(u:In N C)(Q:N<=33000000000)(U:Fd q)(F:P.Nodup)(R:0<C.c)(m:∀ z,0<=Dh z P C)(h5:P.length<=5):∃ L,Y5 X L 86:=by
 obtain⟨L,h0,O,J⟩:=h.dens u Q U F R m;have T:=Al4 (n:=P.length+1) oV;have hp:(10:Nat)^(12*(P.length+1)+10)<=10^82:=A10 oV oV;generalize N5 (P.length+1)*(10^12)^(P.length+1)=B at O T J;have e:(10:Nat)^86=10000*10^82:=by rw[show 86=4+82 by rfl,A4k]
 have t:L<10^82:=oV
 refine⟨L,Ap3 h0 oV (by rw[e];omega) (A04 (Bd (A04 (Cz (k:=82) oV t) oV)) oV) fun r V x W=>?_⟩;obtain⟨j,E,rfl⟩:=A3d.1 V;obtain⟨k,I,rfl⟩:=A3d.1 W;have g:j<P.length+1:=by rw[<-h.rc.1];exact E
 have H:=h.rc.2 j g;rw[Ch E]at H;obtain⟨z,K,Z⟩:=J j k g (by rw[<-H];exact I);refine⟨z,?_,by rw[e];omega⟩;rw[<-K];unfold en;rw[Ch E,Cu I]
end
end
section
variable {f:Nat->Nat->Rat}{i n:Nat}
def sqL (n:Nat)(f:Nat->Nat->Rat):List (List Rat):=(List.range n).map fun i=>(List.range n).map fun k=>f i k
def Aj7 (hi:i<n):gM (sqL n f) i=(List.range n).map fun k=>f i k:=by
 unfold sqL gM;rw[A02,A1a,A31 hi];rfl
def Rh (n:Nat)(f:Nat->Nat->Rat):Rec n n (sqL n f):=⟨by simp[sqL],fun i hi=>by rw[Aj7 hi];simp⟩
def N6 {i k:Nat}(hi:i<n)(e:k<n):en (sqL n f) i k=f i k:=by
 unfold en gR;rw[Aj7 hi,A02,A1a,A31 e];rfl
def Aik {X Y A:Nat->Nat->Rat}(h:Fe n X A)(e:∀ i k,i<n->k<n->Y i k=X i k):Fe n Y A:=fun i k hi m=>by
 rw[<-h i k hi m];exact Ah fun j g=>by rw[e i j hi g]
def Nj (n:Nat)(X:List (List Rat))(x:Nat->Rat)(w:Rat):List (List Rat):=sqL n (Vd n (en X) x w)
section
variable {P:List Par} {C H:CF} {q w:Rat} {X:List (List Rat)}
def H6.step (h:H6 P C q X)(o:Qi H)(g:P.Nodup)(t:0<(C.add (H.scale w)).c)(E:0<q)(e:∀ z,0<=Dh z P (C.add (H.scale w))) :
 byN (P.length+1) (en X) (Fg P H.s) w≠0/\H6 P (C.add (H.scale w)) q (Nj (P.length+1) X (Fg P H.s) w):=by
 obtain⟨j,m⟩:=Apz o g t E e h.inv;exact⟨j,Rh _ _,Aik m fun i k hi u=>N6 hi u⟩
def H6.of_right (e:Rec (P.length+1) (P.length+1) X)(h:Fe (P.length+1) (en (Eh C P q)) (en X)):H6 P C q X:=⟨e,Apf Mn h⟩
theorem Ah5 (o:Qi H):(An P).map (Bh (C.add (H.scale w)))=(An P).map fun e=>Bh C e+w*Zg H.s e*H.s B7 :=
 A41 fun e _=>by rw[Xz,o.right];grind
end
end
section
structure H9 (P:List Par)(C:CF)(q:Rat)(X:List (List Rat))(b:List Rat)(s c:Rat):Prop where
 inv:H6 P C q X
 rt:b=(An P).map (Bh C)
 sq:s=C.t (Ay B7 B7)
 ct:c=C.c
section
variable {P:List Par} {C H G:CF} {q w v s c s' c':Rat} {X X':List (List Rat)} {b b':List Rat}
def H9.uniq (h:H9 P C q X b s c)(e:H9 P C q X' b' s' c'):X=X'/\b=b'/\s=s'/\c=c' :=
 ⟨h.inv.uniq e.inv,by rw[h.rt,e.rt],by rw[h.sq,e.sq],by rw[h.ct,e.ct]⟩
def Pq (P:List Par)(b:List Rat)(x:Par->Rat)(w y:Rat):List Rat:=(List.range (P.length+1)).map fun i=>gR b i+w*Fg P x i*y
def Aqv (o:Qi H):Pq P ((An P).map (Bh C)) H.s w (H.s B7)=(An P).map (Bh (C.add (H.scale w))):=by
 rw[Ah5 o];refine A4g fun i=>?_;unfold Pq;rw[A1a,A1a];by_cases hi:i<P.length+1
 ·have e:i<(An P).length:=by rw[Cp];exact hi
  rw[A31 hi,A01 e];unfold Fg;have g:(An P).getD i none=(An P)[i]:=by rw[A02,A01 e];rfl
  have h:gR ((An P).map (Bh C)) i=Bh C (An P)[i]:=by
   unfold gR;rw[A02,A1a,A01 e];rfl
  show some (gR ((An P).map (Bh C)) i+w*Zg H.s ((An P).getD i none)*H.s B7)=_;rw[g,h];rfl
 rw[A1v (by rw[List.length_range];omega),A1v (by rw[Cp];omega)];rfl
theorem H9.step (h:H9 P C q X b s c)(o:Qi H)(g:P.Nodup)(n:0<(C.add (H.scale w)).c)(u:0<q)(e:∀ z,0<=Dh z P (C.add (H.scale w))) :
 byN (P.length+1) (en X) (Fg P H.s) w≠0/\H9 P (C.add (H.scale w)) q (Nj (P.length+1) X (Fg P H.s) w) (Pq P b H.s w (H.s B7)) (s+w*H.s B7*H.s B7) (c+w):=by
 obtain⟨j,m⟩:=h.inv.step o g n u e;refine⟨j,m,by rw[h.rt,Aqv o],?_,?_⟩
 ·show s+w*H.s B7*H.s B7=C.t (Ay B7 B7)+H.t (Ay B7 B7)*w;rw[h.sq,o.t];grind
 show c+w=C.c+H.c*w;rw[h.ct,o.c];grind
theorem As3 (C H:CF)(w:Rat):(C.add (H.scale w)).add (H.scale (-w))=C:=by
 cases C;simp only[CF.add,CF.scale]
 congr 1
 ·grind
 ·funext p;grind
 funext p;grind
theorem Awe (C H G:CF)(w v:Rat):(C.add (H.scale w)).add (G.scale v)=(C.add (G.scale v)).add (H.scale w):=by
 cases C;simp only[CF.add,CF.scale]
 congr 1
 ·grind
 ·funext p;grind
 funext p;grind
end
end
section
variable {F:List Al}{T:List (List UInt8×Nat)}{lab:Int}{ss:List (List UInt8)}{x:Rat}
def Ko (P:List Par)(x:Par->Rat):List Rat:=(An P).map (Zg x)
def Ad6 (P:List Par)(x:Par->Rat):(Ko P x).length=P.length+1:=by unfold Ko;rw[A03,Cp]
def V1 {P:List Par}{x:Par->Rat}{i:Nat}(hi:i<P.length+1):gR (Ko P x) i=Fg P x i:=by
 have e:i<(An P).length:=by rw[Cp];exact hi
 unfold Ko Fg gR;rw[A02,A1a,A02,A01 e];rfl
def Avy {P:List Par}(hF:Da T F lab)(m:Bw T ss)(g:-1<=lab)(h:∀ l:Nat,lab=(l:Int)->l<ss.length)(j:G4 F lab ss=true)(hp:∀ p∈P,0<=p.1) :
 F5 P (Dx F ss F.length)=(Ko P (cfT F lab ss).s).map Ae:=by
 unfold F5 Ko An;rw[A2u,A2u,A9h,A9h]
 congr 1
 ·exact Sv.symm
 exact A41 fun p e=>by
  show Ae (Fo p _)=Ae ((cfT F lab ss).s p);rw[Acn hF m g h j (hp p e)]
def Abm {P:List Par}(hF:Da T F lab)(m:Bw T ss)(u:-1<=lab)(z:∀ l:Nat,lab=(l:Int)->l<ss.length)(E:G4 F lab ss=true)(hp:∀ p∈P,0<=p.1):∀ x∈Ko P (cfT F lab ss).s,SmW x:=fun x n=>by
 unfold Ko at n;obtain⟨e,g,rfl⟩:=A1b.1 n;unfold An at g;rcases A1g.1 g with rfl|g
 ·exact I7
 obtain⟨p,h,rfl⟩:=A1b.1 g;show SmW ((cfT F lab ss).s p);rw[Acn hF m u z E (hp p h)];by_cases j:p∈(Dx F ss F.length).map (·.1)
 ·obtain⟨y,t,rfl⟩:=A1b.1 j;rw[Kh (a:=y.1) (q:=y.2) (Nb F ss F.length (A08 _)) t];exact Att hF m y t
 rw[Na j];exact Afe
section
variable {P:List Par} {C:CF} {q:Rat} {N:Nat} {X:List (List Rat)} {b:List Rat} {s c:Rat}
def H6.cell (h:H6 P C q X){r:List Rat}(t:r∈X)(u:x∈r):∃ j k,j<P.length+1/\k<P.length+1/\x=en X j k:=by
 obtain⟨j,g,rfl⟩:=A3d.1 t;obtain⟨k,n,rfl⟩:=A3d.1 u;have e:j<P.length+1:=by rw[<-h.rc.1];exact g
 have m:=h.rc.2 j e;rw[Ch g]at m;refine⟨j,k,e,by rw[<-m];exact n,?_⟩;unfold en;rw[Ch g,Cu n]
def H6.sqr (h:H6 P C q X)(e:P.length<=11)(hT:∀ r∈X,∀ x∈r,Tx x):Sq X:=by
 refine⟨by rw[h.rc.1];omega,fun r g=>?_,hT⟩;obtain⟨i,hi,rfl⟩:=A3d.1 g;have:=h.rc.2 i (by have:=h.rc.1;omega);rw[Ch hi]at this;rw[this,h.rc.1]
def H6.txs (h:H6 P C q X)(m:In N C)(t:N<=33000000000)(I:Fd q)(n:P.Nodup)(u:0<C.c)(e:∀ z,0<=Dh z P C)(g:P.length<=11):∀ r∈X,∀ x∈r,Tx x:=fun r J x K=>by
 obtain⟨j,k,E,H,rfl⟩:=h.cell J K;exact (h.de m t I n u e g j k E H).tx oV oV oV oV
def Air {N:Nat}(h:Dn 2 N x)(e:N<=33000000000):De 11 3 x:=h.de oV fV
def Av6 (g:In N C)(h:N<=33000000000):∀ x∈Yz C P,De 11 3 x:=fun x j=>by
 obtain⟨e,_,rfl⟩:=A1b.1 j;exact Air (g.r e) h
structure Ah3 (P:List Par)(X:List (List Rat))(b:List Rat)(s c:Rat):Prop where
 n:X.length=P.length+1
 bn:b.length=P.length+1
 sq:Sq X
 bt:∀ x∈b,Tx x
 st:Tx s
 ct:Tx c
def H9.ok (h:H9 P C q X b s c)(e:In N C)(m:N<=33000000000)(H:Fd q)(t:P.Nodup)(E:0<C.c)(j:∀ z,0<=Dh z P C)(g:P.length<=11):Ah3 P X b s c where
 n:=h.inv.rc.1
 bn:=by rw[h.rt,A03,Cp]
 sq:=h.inv.sqr g (h.inv.txs e m H t E j g)
 bt:=fun x u=>by
  rw[h.rt]at u;exact (Av6 (P:=P) e m x u).tx oV oV oV oV
 st:=by rw[h.sq];exact (Air e.l m).tx oV oV oV oV
 ct:=by rw[h.ct];exact (Air (e.c none none) m).tx oV oV oV oV
end
end
section
variable {A:List (List Rat)}{n:Nat}
def Y1 (h:Rec n n A)(t:Xu n (en A)):¬ (Bn n 0 [] (Lf n A) 1).1.length<n:=fun g=>by
 obtain⟨y,m,j,e,u⟩:=Af4 (w:=n+n) oV n 0 [] (Lf n A) 1 oV rfl (Rd h) (fun i j _ e=>absurd e (Nat.not_lt_zero _)) g;exact u (t y (fun i hi=>(Ah fun j e=>by rw[Ah9 h hi e]).trans (m i hi)) j e)
def Xs (e:Sq A):Rec A.length A.length A:=⟨rfl,fun i hi=>by rw[Ch hi];exact e.len hi⟩
def Pv (n:Nat)(X:List (List Rat)):List (List Rat):=sqL n fun j k=>en X j (n+k)
def Lu (n:Nat)(X:List (List Rat)):Rec n n (Pv n X):=Rh _ _
def Am6 (g:Rec n n A)(m:Xu n (en A)):Fe n (en A) (en (Pv n (Bn n 0 [] (Lf n A) 1).2.1)):=fun i k hi e=>by
 rw[<-Ao3 g (Y1 g m) i k hi e];exact Ah fun j h=>by rw[show en (Pv n (Bn n 0 [] (Lf n A) 1).2.1) j k=en (Bn n 0 [] (Lf n A) 1).2.1 j (n+k) from N6 h e]
def Th.tq {q:Rat}(h:Th q):Tq q:=⟨h.tx,h.den,h.num⟩
def Au7 (m:Sq A)(hT:∀ r∈A,∀ q∈r,Tq q):SzM (Lf A.length A) 2:=Aco (Rd (Xs m)) (fun i j hi u=>by
 have t:=Xs m;by_cases h:j<A.length
 ·have g:j<A[i].length:=by rw[m.len hi];exact h
  have e:=Ah9 t hi h;unfold en at e;rw[e,Ch hi,Cu g];exact (hT _ (A09 hi) _ (A09 g)).sz
 obtain⟨k,rfl⟩:∃ k,j=A.length+k:=⟨j-A.length,oV⟩;have e:=Arm t hi (k:=k) oV;unfold en at e;rw[e];unfold idN;split
 ·exact (Adt (z:=1) fV).mono oV
 exact Q3.mono oV)
end
section
variable {es:List Value}{sz:Nat}{u:PH}{v:Value}
def QsP (u:PH)(v:Value)(qs:List Rat):Prop:=LP QP 4 u v qs
def Aa8 (u:PH)(v:Value)(X:List (List Rat)):Prop:=LP QsP 1 u v X
def QsP.mono {u j:PH}{v:Value}{g:List Rat}(h:QsP u v g)(e:PH.le u j):QsP j v g:=LP.mono (fun _ _ k=>k.mono e) h e
def Aa8.mono {u g:PH}{v:Value}{X:List (List Rat)}(h:Aa8 u v X)(e:PH.le u g):Aa8 g v X:=LP.mono (fun _ _ k=>QsP.mono k e) h e
def Aot {X:List (List Rat)}(h:Aa8 u v X)(hT:∀ r∈X,∀ x∈r,Tx x)(hl:X.length<=1000)(hr:∀ r∈X,r.length<=1000) :
 Fn0 prog 63 [v] u fun r Q=>∃ P,r=.tuple #[P,.int .i64 0]/\C7 Q P (Cv X):=by
 obtain⟨a,c,rfl⟩:=LP.opn h;refine Fn0.o func63<|G.l (ι:=Nat×(Option Addr×Nat)×List Value) (fun i=>[(4,sV i.2.1.1 i.2.2.length i.2.1.2),(9,sV a X.length c),(10,iV X.length),(11,iV i.1)]) (fun _=>[])
  (fun i Q m'=>i.1<=X.length/\N4 Q i.2.2 (Cv (X.take i.1))/\Af PH.mt m' (.slice i.2.1.1 i.2.2.length i.2.1.2) 46 1 i.2.2) (fun i=>X.length-i.1) (0,(none,0),[])
  ⟨oV,⟨rfl,fun j r hj=>by simp[Cv]at hj⟩,Af.nil _ _ _⟩ ?_
 rintro J ⟨i,⟨pa,pc⟩,es⟩ R u1 m1 U ⟨hi,t,F⟩;simp only at hi t F R;have a0:es.length=i:=by rw[t.1];simp[Cv];omega
 by_cases z:i<X.length
 ·refine G.lT i X.length ?_;obtain⟨x,m⟩:∃ x,X[i]?=some x:=⟨_,A01 z⟩;have E:=A1k m;have L:X.take (i+1)=X.take i++[x]:=by rw[A1n,m];rfl
  obtain⟨b,o,e,rfl,Y,T⟩:=LP.at (Aa8.mono h U) m;obtain⟨qa,qc,rfl⟩:=LP.opn T;obtain⟨a2,I,C⟩:=T;have a1:=C.1;refine G.a b o X.length c i 1 z<|G.lU none b (o+i*1) (.slice qa x.length qc) Y<|G.c call83 (Apw I C (hT x E) (hr x E)) ?_;rintro v2 u2 l2 ⟨P,rfl,H⟩;obtain⟨la,O,rfl⟩:=Ac.opn H;have K:(Cc (x.map Ae)).length=(x.map Ae).length:=Cb _;rw[K]at H⊢;refine G.nF 0 0<|G.B 46 1 24 (.slice none 0 0) [.slice la (x.map Ae).length O] (B5 _ _ _) ?_;intro g3 u3 N Z;refine G.append 46 1 24 (.slice none 0 0) PH.mt es [.slice la (x.map Ae).length O] _ g3 0 1 1 kV rfl rfl oV F Z (B5 _ _ _) rfl oV oV oV ?_;intro v4 m4 n;obtain⟨V,W,rfl⟩:=n.shape;refine G.i i<|G.b (R (i+1,(V,W),es++[.slice la (x.map Ae).length O]) _ _ _ cV ((U.trans l2).trans N) ⟨dV,?_,n⟩ dV);have e5:Cv (X.take (i+1))=Cv (X.take i)++[x.map Ae]:=by rw[L];simp[Cv]
  dsimp only;rw[e5];exact (t.mono (l2.trans N)).snoc1 (r:=x.map Ae) (Ac.mono H N)
 obtain rfl:i=X.length:=oV;refine G.lF X.length X.length ?_;rw[A15]at t;refine G.give _ _ _ kV F (fun g=>.inl rfl) ?_;intro u6 l6 hF;exact G.r (.tuple #[.slice pa es.length pc,.int .i64 0]) ⟨rfl,_,rfl,es,hF,t.mono l6⟩
def Af.split {m0 m:PH}{t:TypeId}(h:Af m0 m v t sz es):∃ sm,m=m0.or sm/\Hp m0 sm/\Af PH.mt sm v t sz es:=by
 obtain⟨z,h⟩:=h;rcases h with ⟨j,n,rfl⟩|⟨g,cap,rest,j,rfl,n,C,E,F⟩
 ·refine⟨PH.mt,?_,fun _=>.inr rfl,z,.inl ⟨j,n,rfl⟩⟩
  funext g;unfold PH.or;cases m g<;>rfl
 refine⟨PH.mt.upd g _,?_,fun k=>?_,z,.inr ⟨g,cap,rest,rfl,rfl,n,C,E,F⟩⟩
 ·funext k
  unfold PH.or;by_cases e:k=g
  ·subst e;rw[j,Ab,Ab]
  rw[Ad _ _ e,Ad _ _ e];cases m0 k<;>rfl
 by_cases e:k=g
 ·subst e;exact .inl j
 exact .inr (Ad _ _ e)
def Ac.dropL {g off n c sz k:Nat}(h:Ac u (.slice (some ⟨g,off,none⟩) n c) sz es)(I:k<=n):Ac u (.slice (some ⟨g,off+k*sz,none⟩) (n-k) (c-k)) sz (es.drop k):=by
 obtain⟨E,F,e,H,C⟩:=h;cases e;refine⟨_,c-k,by rw[A4y],by rw[A4y];omega,fun j e m=>?_⟩;rw[A39]at m;obtain⟨b,o,t,z⟩:=C (k+j) e m;cases t;exact⟨g,off+k*sz,rfl,by rw[show off+k*sz+j*sz=off+(k+j)*sz by rw[A16];omega];exact z⟩
def Vf (k j:Nat):List Rat:=(List.range k).map fun t=>idN j t
def Ahi (k j:Nat):Vf (k+1) j=Vf k j++[idN j k]:=by unfold Vf;rw[A5d,A1i];rfl
def Av1 {A:List (List Rat)}(h:C7 u v (Cv A))(hs:Sq A)(h0:0<A.length)(hT:∀ r∈A,∀ q∈r,Tq q)(hk:Xu A.length (en A))(hX:∀ r∈Pv A.length (Bn A.length 0 [] (Lf A.length A) 1).2.1,∀ x∈r,Tx x) :
 Fn0 prog 65 [v] u fun r W=>∃ lv,r=.tuple #[lv,.int .i64 0]/\C7 W lv (Cv (Pv A.length (Bn A.length 0 [] (Lf A.length A) 1).2.1)):=by
 obtain⟨a0,c0,rfl⟩:=h.opn;rw[A3]at h⊢;have ad:=hs.le;refine Fn0.o func65<|G.c call61 (And h hs) ?_;rintro v1 u1 l1 rfl;refine G.nF 0 0<|G.nF A.length A.length ?_;have h1:=h.mono l1;clear h;refine G.c call138 (Amo (n:=A.length) (w:=A.length) h1 ad hs.row ad hT ad) ?_;rintro v3 u3 l3 rfl;refine G.callO _ _ kV call62 (Ane (h1.mono l3) hs) ?_;rintro v6 u6 m6 l6 ⟨a6,T,ab,rfl,al,X⟩ _;rw[By];have a9:ab.length=A.length:=al.1;obtain⟨go,c2,eo⟩:=X.ptr 0 rfl (by intro e;simp only[oQ,A6c]at e;rw[e]at a9;simp at a9;omega);simp only[oQ,A03,a9,Value.slice.injEq,true_and]at eo;obtain⟨rfl,rfl⟩:=eo;clear h1;have ay:∀ (m:List (Value×List Value)) (i:Nat) (r:Value×List Value) (W m':PH) (k:Nat),m.length=A.length->m[i]?=some r->Bag m' (oQ (.slice (some ⟨go,0,none⟩) A.length T) m::m.map Ej)->AtP QP W r.2 (gM A i++Vf k i)->i<A.length ->
  ∃ P L C,r=(.slice (some ⟨P,0,none⟩) (A.length+k) L,C)/\C.length=A.length+k:=by
  rintro m i ⟨vi,C⟩ W m' k Q I t U hi;have K:C.length=A.length+k:=by rw[U.1,A1d,Ch hi,hs.len hi];simp[Vf]
  obtain⟨P,L,e⟩:=t.ptr (i+1) (x:=Ej (vi,C)) (by simp[I]) (by intro e;simp only[Ej]at e;rw[e]at K;simp at K;omega);simp only[Ej]at e;rw[K]at e;subst e;exact⟨P,L,C,rfl,K⟩
 refine G.l (ι:=Nat×List (Value×List Value)) (fun i=>[(4,iV A.length),(5,iV A.length),(7,sV (some ⟨go,0,none⟩) A.length T),(32,iV A.length),(33,iV i.1)]) (fun _=>[])
  (fun i W m'=>i.1<=A.length/\i.2.length=A.length/\(∀ j r,i.2[j]?=some r->AtP QP W r.2 (gM A j++if j<i.1 then Vf A.length j else []))/\Bag m' (oQ (.slice (some ⟨go,0,none⟩) A.length T) i.2::i.2.map Ej)) (fun i=>A.length-i.1) (0,ab)
  ⟨oV,a9,fun j r F=>by rw[if_neg oV,A1x];exact al.2 j r F,X⟩ ?_
 clear X al a9;rintro J ⟨i,m⟩ hJ u7 m7 l7 ⟨hi,Q,hQ,t⟩;simp only at hi Q hQ t hJ;by_cases R:i<A.length
 ·refine G.lT i A.length<|G.l (ι:=Nat×List (Value×List Value)) (fun k=>[(4,iV A.length),(5,iV A.length),(7,sV (some ⟨go,0,none⟩) A.length T),(32,iV A.length),(33,iV i),(8,iV i),(9,iV k.1)]) (fun _=>[])
   (fun k W m'=>k.1<=A.length/\k.2.length=A.length/\(∀ j r,k.2[j]?=some r->AtP QP W r.2 (gM A j++if j<i then Vf A.length j else if j=i then Vf k.1 j else []))/\Bag m' (oQ (.slice (some ⟨go,0,none⟩) A.length T) k.2::k.2.map Ej)) (fun k=>A.length-k.1) (0,m)
   ⟨oV,Q,fun j r F=>by
    have:=hQ j r F;dsimp only;by_cases e:j<i
    ·rw[if_pos e]at this⊢;exact this
    rw[if_neg e]at this⊢;split
    ·exact this
    exact this,t⟩ ?_
  clear hQ t Q;rintro J2 ⟨k,m⟩ b0 u8 m8 l8 ⟨bo,Q,hQ,t⟩;simp only at bo Q hQ t b0;by_cases c5:k<A.length
  ·refine G.lT k A.length ?_;obtain⟨r,I⟩:∃ r,m[i]?=some r:=⟨_,A01 oV⟩;have U:=hQ i r I;rw[if_neg (Nat.lt_irrefl _),if_pos rfl]at U;obtain⟨P,L,C,rfl,K⟩:=ay m i r u8 m8 k Q I t U R;have bq:(oQ (.slice (some ⟨go,0,none⟩) A.length T) m::m.map Ej)[i+1]?=some (Ej (.slice (some ⟨P,0,none⟩) (A.length+k) L,C)):=by simp[I]
   have bp:ElP m8 go (0+i*1) (.slice (some ⟨P,0,none⟩) (A.length+k) L):=t.el 0 (x:=oQ _ _) rfl rfl (by simp[oQ,I]);refine G.join (ι:=Int) (.bool false) (fun z=>[(4,iV A.length),(5,iV A.length),(7,sV (some ⟨go,0,none⟩) A.length T),(32,iV A.length),(33,iV i),(8,iV i),(9,iV k),(10,iV z)]) (fun _=>[])
    (fun z W m'=>m'=m8/\W=u8/\z=if i=k then 1 else 0) (fun _=>kV) kV ?tail ?way
   case way =>
    intro a8;by_cases b4:i=k
    ·refine G.eT i k<|G.pastI ?_;exact a8 1 _ _ _ kV cV (PH.le_refl _) ⟨rfl,rfl,by rw[if_pos b4]⟩
    refine G.eF i k ?_;exact a8 0 _ _ _ kV cV (PH.le_refl _) ⟨rfl,rfl,by rw[if_neg b4]⟩
   rintro z u9 m9 l9 ⟨rfl,rfl,hz⟩;have bt:((z:Int):Rat)=idN i k:=by
    rw[hz];unfold idN;split<;>rfl
   have c6:0<=z/\z<=1:=by rw[hz];split<;>omega
   refine G.a go 0 A.length T i 1 R<|G.lM none go (0+i*1) _ bp<|G.c call22 (P6 (z:=z) oV oV) ?_;intro cb c8 au ar;rw[bt]at ar;obtain⟨H,rfl⟩:=ar.opQ;refine G.B 69 4 64 zQ [qv H] (Akh H) ?_;intro bh ax a1 bg;obtain⟨mm,ba,b6⟩:=t.focus (i+1) bq;rw[Rg]at ba;refine G.append 69 4 64 zQ mm C [qv H] (.slice (some ⟨P,0,none⟩) (A.length+k) L) bh 0 1 1 kV rfl rfl oV ba bg (Akh H) rfl oV oV oV ?_;intro c1 aw ah;have af:=b6 (Ej (c1,C++[qv H])) aw ah;obtain⟨a2,a3,rfl⟩:=ah.shape;rw[A2j]at af;obtain⟨mo,bd,ap⟩:=af.focus 0 rfl;rw[Al7]at bd;refine G.a go 0 A.length T i 1 R<|G.storeA 1 mo _ go A.length T i (.slice a2 (C++[qv H]).length a3) kV bd gV rfl rfl ?_;intro bf ai;rw[show (m.map (·.1)).set i (Value.slice a2 (C++[qv H]).length a3)=(m.set i (Value.slice a2 (C++[qv H]).length a3,C++[qv H])).map (·.1) by rw[A2g]]at ai;have ag:=ap (oQ (.slice (some ⟨go,0,none⟩) A.length T) (m.set i (Value.slice a2 (C++[qv H]).length a3,C++[qv H]))) bf ai;rw[A2p,<-A2g]at ag;refine G.i k<|G.b (b0 (k+1,m.set i (Value.slice a2 (C++[qv H]).length a3,C++[qv H])) _ _ _ cV ((l8.trans au).trans a1) ⟨dV,by dsimp only;rw[A21];exact Q,?_,ag⟩ dV);intro j r F;dsimp only at F⊢;rw[A1z]at F;by_cases Z:i=j
   ·subst Z;rw[if_pos rfl,if_pos oV]at F;cases F;rw[if_neg (Nat.lt_irrefl _),if_pos rfl,Ahi,<-A2k];exact (U.mono (fun _ _ k=>k.mono (au.trans a1))).snoc (ar.mono a1)
   rw[if_neg Z]at F;have N:=(hQ j r F).mono (fun _ _ k=>k.mono (au.trans a1));by_cases V:j<i
   ·rw[if_pos V]at N⊢;exact N
   rw[if_neg V,if_neg (Ne.symm Z)]at N⊢;exact N
  obtain rfl:k=A.length:=oV;refine G.lF A.length A.length<|G.i i<|G.b (hJ (i+1,m) _ _ _ cV (l7.trans l8) ⟨dV,Q,?_,t⟩ dV);intro j r F;have N:=hQ j r F;dsimp only;by_cases V:j<i
  ·rw[if_pos V]at N;rw[if_pos oV];exact N
  rw[if_neg V]at N;by_cases e:j=i
  ·rw[if_pos e]at N;rw[if_pos oV];exact N
  rw[if_neg e]at N;rw[if_neg oV];exact N
 clear hJ;obtain rfl:i=A.length:=oV;refine G.lF A.length A.length ?_;have am:=Rd (Xs hs);have bk:=Au7 hs hT;have bj:QAt u7 m (Lf A.length A):=⟨by rw[Q,am.1],fun j r F=>by
  have a7:j<A.length:=by
   obtain⟨q1,_⟩:=A05.1 F;omega
  have N:=hQ j r F;rw[if_pos a7]at N;rw[Sp a7];exact N⟩
 clear hQ ay;refine G.A call139 (Apb am oV oV oV bk oV (es1 ad) bj t) ?_;rintro v8 u8 m8 l8 ⟨pa,pc,f,O,rfl,_,ak,an⟩ _;rw[By];have bn:=Y1 (Xs hs) hk;have hE:=Wp A.length 0 [] (Lf A.length A) 1 am;generalize c4:Bn A.length 0 [] (Lf A.length A) 1=E at *
 refine G.lF E.1.length A.length ?_;obtain⟨m9,bb,bm⟩:=an;refine G.drop m9 kV (Ad3 bb) ?_;clear bb;obtain⟨bw,aa,a4⟩:=bm;rw[Al7]at aa;obtain⟨sm,br,bl,be⟩:=aa.split;refine G.giveP (ma:=bw) (sm:=sm) kV br bl (fun g=>.inl rfl) ?_;intro ax a1 b5;have b7:O.length=A.length:=by rw[ak.1,hE.1]
 have b8:∀ j,j<A.length->∃ P L C,O[j]?=some (.slice (some ⟨P,0,none⟩) (A.length+A.length) L,C)/\A.length+A.length<=L/\Ac ax (.slice (some ⟨P,0,none⟩) (A.length+A.length) L) 4 C/\AtP QP ax C (gM E.2.1 j):=fun j F=>by
  obtain⟨⟨vi,C⟩,I⟩:∃ r,O[j]?=some r:=⟨_,A01 oV⟩;have U:=ak.2 j _ I;have K:C.length=A.length+A.length:=by rw[U.1,hE.2 j F]
  obtain⟨P,L,e⟩:=a4.ptr j (x:=Ej (vi,C)) (by simp[I]) (by intro e;simp only[Ej]at e;rw[e]at K;simp at K;omega);simp only[Ej]at e;rw[K]at e;subst e;obtain⟨mf,aq,_⟩:=a4.focus j (x:=Ej (.slice (some ⟨P,0,none⟩) (A.length+A.length) L,C)) (by simp[I]);rw[Rg]at aq;have a5:=aq.cap;exact⟨P,L,C,I,a5,by simpa[K] using aq.list b5,U.mono (fun _ _ k=>k.mono a1)⟩
 clear a4 ak t aa;have b9:∀ (P L:Nat) (C:List Value) (j:Nat) (W:PH),j<A.length->A.length+A.length<=L->Ac W (.slice (some ⟨P,0,none⟩) (A.length+A.length) L) 4 C->AtP QP W C (gM E.2.1 j)->QsP W (.slice (some ⟨P,0+A.length*4,none⟩) (A.length+A.length-A.length) (L-A.length)) (gM (Pv A.length E.2.1) j):=fun P L C j W F hc hL hA=>by
  have b3:(gM (Pv A.length E.2.1) j).length=A.length:=(Lu A.length E.2.1).2 j F;have K:C.length=A.length+A.length:=by rw[hA.1,hE.2 j F]
  have hg:∀ k,k<A.length->gR (gM (Pv A.length E.2.1) j) k=gR (gM E.2.1 j) (A.length+k):=fun k hk=>N6 (f:=fun j k=>en E.2.1 j (A.length+k)) F hk;refine⟨C.drop A.length,hL.dropL oV,by rw[A4y,K,b3];omega,fun k x hx=>?_⟩;obtain⟨hk,bs⟩:=A05.1 hx;rw[b3]at hk;obtain⟨e,h1,h2⟩:=hA.2 (A.length+k) (gR (gM E.2.1 j) (A.length+k)) (by
   have hl:A.length+k<(gM E.2.1 j).length:=by rw[hE.2 j F];omega
   rw[A01 hl,Cu hl])
  refine⟨e,by rw[A39];exact h1,?_⟩;have:x=gR (gM E.2.1 j) (A.length+k):=by rw[<-hg k hk,<-bs,Cu]
  rw[this];exact h2
 refine G.l (ι:=Nat×List Value) (fun i=>[(5,iV A.length),(7,sV (some ⟨go,0,none⟩) A.length T),(67,iV A.length),(68,iV i.1)]) (fun _=>[])
  (fun i W m'=>i.1<=A.length/\i.2.length=A.length/\(∀ j,j<A.length->if j<i.1 then ∃ e,i.2[j]?=some e/\QsP W e (gM (Pv A.length E.2.1) j) else i.2[j]?=(O.map (·.1))[j]?)/\Af PH.mt m' (.slice (some ⟨go,0,none⟩) A.length T) 131 1 i.2) (fun i=>A.length-i.1) (0,O.map (·.1))
  ⟨oV,by rw[A03];exact b7,fun j _=>by rw[if_neg (Nat.not_lt_zero _)],be⟩ ?_
 clear be;rintro J ⟨i,es⟩ hJ bx aw av ⟨hi,Y,ac,hA⟩;simp only at hi Y ac hA hJ;by_cases R:i<A.length
 ·refine G.lT i A.length ?_;obtain⟨P,L,C,I,a5,hL,bi⟩:=b8 i R;have b2:=ac i R;rw[if_neg (Nat.lt_irrefl _),A1a,I]at b2;refine G.a go 0 A.length T i 1 R<|G.lM none go (0+i*1) _ (hA.el b2)<|G.sliceFrom P 0 (A.length+A.length) L A.length 4 kV oV oV<|G.a go 0 A.length T i 1 R<|G.storeA 1 PH.mt _ go A.length T i (.slice (some ⟨P,0+A.length*4,none⟩) (A.length+A.length-A.length) (L-A.length)) kV hA oV rfl rfl ?_;intro bf az;refine G.i i<|G.b (hJ (i+1,es.set i (.slice (some ⟨P,0+A.length*4,none⟩) (A.length+A.length-A.length) (L-A.length))) _ _ _ cV av ⟨dV,by dsimp only;rw[A21];exact Y,?_,az⟩ dV);intro j F;dsimp only;rw[A1z];by_cases Z:i=j
  ·subst Z;rw[if_pos oV,if_pos rfl,if_pos oV];exact⟨_,rfl,b9 P L C i bx R a5 (hL.mono av) (bi.mono (fun _ _ k=>k.mono av))⟩
  rw[if_neg Z];have N:=ac j F;by_cases V:j<i
  ·rw[if_pos V]at N;rw[if_pos oV];exact N
  rw[if_neg V]at N;rw[if_neg oV];exact N
 clear hJ;obtain rfl:i=A.length:=oV;refine G.lF A.length A.length ?_;have c3:Af PH.mt aw (.slice (some ⟨go,0,none⟩) es.length T) 131 1 es:=by rw[Y];exact hA
 refine G.give PH.mt es _ kV hA (fun g=>.inl rfl) ?_;intro bz bu b1;have hM:Aa8 bz (.slice (some ⟨go,0,none⟩) A.length T) (Pv A.length E.2.1):=by
  refine⟨es,b1,by rw[Y,(Lu A.length E.2.1).1],fun j r F=>?_⟩;obtain⟨ao,e⟩:=A05.1 F;have a7:j<A.length:=by rw[(Lu A.length E.2.1).1]at ao;exact ao
  have N:=ac j a7;rw[if_pos a7]at N;obtain⟨x,h1,h2⟩:=N;rw[Ch ao,e]at h2;exact⟨x,h1,QsP.mono h2 bu⟩
 have aj:=Lu A.length E.2.1;refine G.c call63 (Aot hM hX (by rw[aj.1];omega) (fun r hr=>by
  obtain⟨j,F,rfl⟩:=A3d.1 hr;have:=aj.2 j (by have:=aj.1;omega);rw[Ch F]at this;omega)) ?_
 rintro cc ca c7 ⟨lv,rfl,ae⟩;obtain⟨la,lc,rfl⟩:=ae.opn;exact G.r (.tuple #[_,.int .i64 0]) ⟨rfl,_,rfl,ae⟩
end
section
section
variable {u:PH} {T:List (List UInt8×Nat)} {R:List Br} {F:List Al} {lab:Int} {ss:List (List UInt8)} {L:List Dm} {P:List Par}
def A00 (ok:Bl u T R F lab)(C:Bw T ss)(E:G4 F lab ss=true){i:Nat}{a m:Nat}(hi:F[i]?=some (a,2,m))(c:List UInt8):(cfT F lab ss).s ((i:Int),c)=if ss.getD a []=c then 1 else 0:=by
 have z:=C.len;rw[Acn ok.feat C ok.l1 (fun l e=>by have:=Iz ok l e;omega) E (by show (0:Int)<=(i:Int);omega)];have n:=(A05.1 hi).1;by_cases e:ss.getD a []=c
 ·rw[if_pos e];refine Kh (Nb F ss F.length (A08 _)) (F9.2 ⟨i,_,n,hi,?_⟩);unfold Jf;rw[if_pos rfl,e]
 rw[if_neg e];refine Na fun H=>?_;obtain⟨x,I,g⟩:=A1b.1 H;obtain⟨k,f,_,t,h⟩:=F9.1 I;have j:=Ow h;rw[g]at j;obtain rfl:k=i:=by have j:(i:Int)=(k:Int):=j;omega
 rw[hi]at t;cases t;unfold Jf at h;rw[if_pos rfl]at h;cases h;cases g;exact e rfl
def Awu (ok:Bl u T R F lab)(j:Bw T ss)(m:G4 F lab ss=false):Ag0 (cfT F lab ss):=by
 have g:=j.len;rcases Pf ok.feat j ok.l1 (fun l e=>by have:=Iz ok l e;omega) with ⟨h,_⟩|⟨_,h⟩
 ·rw[m]at h;cases h
 exact h
def Apr (ok:Bl u T R F lab)(j:Bw T ss)(m:G4 F lab ss=true):Qi (cfT F lab ss):=by
 have g:=j.len;rcases Pf ok.feat j ok.l1 (fun l e=>by have:=Iz ok l e;omega) with ⟨_,h⟩|⟨h,_⟩
 ·exact h
 rw[m]at h;cases h
end
end
section
variable {H:CF}{X:List (List Rat)}{b:List Rat}{c s:Rat}
section
variable {u:PH} {T:List (List UInt8×Nat)} {R:List Br} {F:List Al} {lab:Int} {L:List Dm} {xv cv:Value} {P:List Par} {K:Nat}
def Atw (ok:Bl u T R F lab)(z:T.length<=8)(hT:∀ y∈L,Bw T y.1/\y.2.1<=7)(g:L.length<=10):CFD 16 (10^75) (Cf F lab L):=by
 obtain⟨d,_⟩:=Alz ok hT;refine d.to oV ?_;have e:12^(16-2*T.length)=144^(8-T.length):=by
  rw[show 16-2*T.length=2*(8-T.length) by omega,Nat.pow_mul]
 have j:144^(8-T.length)<=1374926400^(8-T.length):=Nat.pow_le_pow_left oV _;have m:1374926400^T.length*1374926400^(8-T.length)=1374926400^8:=by rw[<-A4k];congr 1;omega
 have n:1374926400^8*70<=10^75:=jV
 rw[e];have h:L.length*(1374926400^T.length*7)*144^(8-T.length)<=10*(1374926400^T.length*7)*1374926400^(8-T.length):=A25 (A13 _ g) j;have t:10*(1374926400^T.length*7)*1374926400^(8-T.length)=(1374926400^T.length*1374926400^(8-T.length))*70:=by
  generalize 1374926400^T.length=a;generalize 1374926400^(8-T.length)=b;rw[A19 10,A17 a 7 10,A17 a b 70,A17 a (7*10) b,A19 (7*10) b]
 rw[t,m]at h;exact A04 h n
def Ajm (I:H5 u xv T R F lab)(ok:Bl u T R F lab)(m:T.length<=8)(hT:∀ y∈L,Bw T y.1/\y.2.1<=7)(g:L.length<=10)(t:No u cv (Cf F lab L) K)(z:K<=10000)(E:Nn F (Cf F lab L) P)(j:P.length<=24)(e:0<=lab) :
 ∃ k,Te u xv cv T R F lab (Cf F lab L) K k P:=by
 obtain⟨k,J,N⟩:=Arb ok.feat ok.l1 (Iz ok) hT;obtain⟨O,n⟩:=Aee ok m hT oV;have h:=L0 ok ok.l1 (Iz ok) hT;exact⟨k,I,ok,t,O,n,z,Avj,Avn h oV n J oV,E,j,e,Atw ok m hT g⟩
end
section
variable {u:PH} {v cv:Value} {T:List (List UInt8×Nat)} {R:List Br} {F:List Al} {lab:Int} {C:CF} {K k:Nat} {P:List Par}
def Te.w (h:Te u v cv T R F lab C K k P):Aam u v cv T R F lab C K k :=
 ⟨h.sch,h.ok,h.cof,h.sC,h.vC,h.K,h.bel,h.mom,fun g e=>by rw[<-h.prm.eq e];exact h.p24,h.lab0⟩
structure Ug (P:List Par)(C:CF):Prop where
 cd:∃ N,N<=33000000000/\In N C
 pos:0<C.c
 psd:∀ z,0<=Dh z P C
structure Td (F:List Al)(P:List Par)(q:Rat):Prop where
 srt:Hb Bk P
 le:P.length<=11
 par:∀ p∈P,0<=p.1
 pen:Fd q
def H9.okF {q:Rat}(h:H9 P C q X b s c)(hp:Td F P q)(e:Ug P C):Ah3 P X b s c:=by
 obtain⟨N,j,g⟩:=e.cd;exact h.ok g j hp.pen (hp.srt.nodup Et) e.pos e.psd hp.le
def H9.light {q:Rat}{X:List (List Rat)}{b:List Rat}{s c:Rat}(h:H9 P C q X b s c)(hp:Td F P q)(e:Ug P C)(j:P.length<=5):∃ L,Y5 X L 86:=by
 obtain⟨N,m,g⟩:=e.cd;exact h.inv.light g m hp.pen (hp.srt.nodup Et) e.pos e.psd j
def H9.stepF {w q:Rat}(h:H9 P C q X b s c)(hp:Td F P q)(o:Qi H)(e:Ug P (C.add (H.scale w))) :
 byN (P.length+1) (en X) (Fg P H.s) w≠0/\H9 P (C.add (H.scale w)) q (Nj (P.length+1) X (Fg P H.s) w) (Pq P b H.s w (H.s B7)) (s+w*H.s B7*H.s B7) (c+w) :=
 h.step o (hp.srt.nodup Et) e.pos hp.pen.pos e.psd
def Axc:Value:=.agg #[.slice none 0 0,.slice none 0 0,.slice none 0 0,.string (mkS []),.string (mkS []),.string (mkS [])]
def Ma (u:PH)(v:Value)(P:List Par)(X:List (List Rat))(b:List Rat)(s c q:Rat):Prop :=
 ∃ (pa:Option Addr) (pc:Nat) (xa:Option Addr) (xc:Nat) (ra:Option Addr) (rc:Nat),v=.agg #[.slice pa P.length pc,.slice xa X.length xc,.slice ra b.length rc,.string (mkS (Ae s)),.string (mkS (Ae c)),.string (mkS (Ae q))] /\
  Ac u (.slice pa P.length pc) 2 (P.map Ap)/\C7 u (.slice xa X.length xc) (Cv X)/\Cj u (.slice ra b.length rc) (b.map Ae)
def Ma.mono {u j:PH}{v:Value}{X:List (List Rat)}{b:List Rat}{s c q:Rat}(h:Ma u v P X b s c q)(g:PH.le u j):Ma j v P X b s c q:=by
 obtain⟨pa,pc,xa,xc,ra,rc,e,m,n,t⟩:=h;exact⟨pa,pc,xa,xc,ra,rc,e,m.mono g,n.mono g,Ac.mono t g⟩
end
section
variable {u:PH} {T:List (List UInt8×Nat)} {R:List Br} {F:List Al} {lab:Int} {L:List Dm} {C:CF} {P:List Par} {q:Rat}
theorem Vx (ok:Bl u T R F lab)(hT:∀ y∈L,Bw T y.1/\y.2.1<=7)(h13:L.length<=13)(hc:0<(Cf F lab L).c):Ug P (Cf F lab L) :=
 ⟨⟨_,oV,L0 ok ok.l1 (Iz ok) hT⟩,hc,fun z=>Af3 ok.feat ok.l1 (Iz ok) z P fun y hy=>(hT y hy).1⟩
def Al6 (g:Nn F C P)(h:Fd q)(e:P.length<=11):Td F P q :=
 ⟨g.1,e,fun p hp=>by
  rcases (g.2 p).1 hp with ⟨i,f,rfl,_⟩|⟨_,i,f,j,_⟩
  ·show 0<=(i:Int);omega
  omega,h⟩
theorem Als (h:Ag0 H)(w:Rat):C.add (H.scale w)=C:=by
 cases C;simp only[CF.add,CF.scale,h.c]
 congr 1
 ·grind
 ·funext p;rw[h.s];grind
 funext p;rw[h.t];grind
end
end
section
variable {cs:Array Value}{k n:Nat}{ts:List (List UInt8)}{v:Value}
def K6 (ts:List (List UInt8))(n k:Nat):List (List UInt8):=ts.take k++List.replicate (n-k) []
def Aop {t:List UInt8}(h:ts.length=n)(e:ts[k]?=some t):(K6 ts n k).set k t=K6 ts n (k+1):=by
 obtain⟨g,_⟩:=A05.1 e;unfold K6;rw[A4t _ _ (by rw[A1e];omega),A1e,show k-min k ts.length=0 by omega,show n-k=(n-(k+1))+1 by omega,A68,A2p,A1n,e,A2k];rfl
def An1 (g:ts.length=n)(e:k<=n):(K6 ts n k).length=n:=by unfold K6;rw[A1d,A1e,A3k];omega
def Acd {u:PH}{f n:Nat}{cap:List Value}{X:List (List Rat)}(ht:Hx u)(L:Rec n n X)(hn:n<=1000)(hT:∀ r∈X,∀ x∈r,Tx x)(O:∀ args w,(callFunc f args).run prog w=.ok (.enter f args) w)
 (hf:∀ i k,i<n->k<n->∀ U,PH.le u U->Fn0 prog f (.int .i64 i::.int .i64 k::cap) U fun r ag=>Bg ag r (en X i k)) :
 Fn0 prog 123 [.int .i64 n,.int .i64 n,.func (.func f) #[] cap.toArray] u fun r U=>∃ lv,r=.tuple #[lv,.int .i64 0]/\C7 U lv (Cv X):=by
 have ae:∀ i k,i<n->k<n->Tx (en X i k):=fun i k hi hk=>by
  have H:i<X.length:=by rw[L.1];exact hi
  have W:=L.2 i hi;rw[Ch H]at W;have Y:k<X[i].length:=oV;unfold en;rw[Ch H,Cu Y];exact hT _ (A09 H) _ (A09 Y)
 have m:∀ i,i<n->((gM X i).map Ae).length=n:=fun i hi=>by rw[A03];exact L.2 i hi
 have a1:∀ i k,i<n->k<n->((gM X i).map Ae)[k]?=some (Ae (en X i k)):=fun i k hi hk=>by
  have Y:k<(gM X i).length:=by rw[L.2 i hi];exact hk
  rw[A1a,A01 Y];unfold en;rw[Cu Y];rfl
 refine Fn0.o func123<|G.make 46 1 24 (.slice none 0 0) n kV rfl rfl oV oV oV ?_;rintro v1 m1 I ⟨aO,rfl⟩;obtain⟨go,rfl,_⟩:=I.some';refine G.l (ι:=Nat×List Value) (fun i=>[(1,iV n),(2,.v (.func (.func f) #[] cap.toArray)),(8,sV (some ⟨go,0,none⟩) n n),(16,iV n),(17,iV i.1)]) (fun _=>[])
  (fun i U V=>i.1<=n/\i.2.length=n/\(∀ j,j<i.1->∃ a c,i.2[j]?=some (.slice a n c)/\Cj U (.slice a n c) ((gM X j).map Ae))/\Bag V [⟨.slice (some ⟨go,0,none⟩) n n,46,1,i.2⟩]) (fun i=>n-i.1) (0,List.replicate n (.slice none 0 0))
  ⟨oV,mV,fun j hj=>absurd hj (Nat.not_lt_zero _),PH.mt,I,trivial⟩ ?_
 clear I;rintro J ⟨i,es⟩ hJ u2 m2 l2 ⟨hi,P,Q,Z⟩;simp only at hi P Q Z hJ;by_cases g:i<n
 ·refine G.lT i n<|G.make 34 1 16 (.string (mkS [])) n kV rfl rfl oV oV oV ?_;rintro v3 m3 K ⟨aR,rfl⟩;obtain⟨h,rfl,_⟩:=K.some';have a0:Bag m3 [⟨.slice (some ⟨h,0,none⟩) n n,34,1,Cc (K6 ((gM X i).map Ae) n 0)⟩,⟨.slice (some ⟨go,0,none⟩) n n,46,1,es⟩]:=⟨m2,by
   have:Cc (K6 ((gM X i).map Ae) n 0)=List.replicate n (.string (mkS [])):=by unfold K6 Cc;simp
   rw[this];exact K,Z⟩
  obtain⟨mo,E,z⟩:=a0.focus 1 rfl;refine G.a go 0 n n i 1 g<|G.storeA 1 mo es go n n i (.slice (some ⟨h,0,none⟩) n n) kV E oV rfl rfl ?_;intro m4 a8;have C:=z ⟨.slice (some ⟨go,0,none⟩) n n,46,1,es.set i (.slice (some ⟨h,0,none⟩) n n)⟩ m4 a8;rw[A2j,A2p]at C;have a5:(es.set i (.slice (some ⟨h,0,none⟩) n n))[i]?=some (.slice (some ⟨h,0,none⟩) n n):=by rw[A1z,if_pos rfl,if_pos oV]
  have a4:∀ {V:PH} {rs:List Value},Bag V [⟨.slice (some ⟨h,0,none⟩) n n,34,1,rs⟩,⟨.slice (some ⟨go,0,none⟩) n n,46,1,es.set i (.slice (some ⟨h,0,none⟩) n n)⟩]->ElP V go (0+i*1) (.slice (some ⟨h,0,none⟩) n n):=fun hb=>hb.el 1 rfl rfl a5;refine G.a go 0 n n i 1 g<|G.lM none go (0+i*1) _ (a4 C) ?_;clear z E a8 a0 K;refine G.l (ι:=Nat) (fun k=>[(1,iV n),(2,.v (.func (.func f) #[] cap.toArray)),(8,sV (some ⟨go,0,none⟩) n n),(9,iV i),(16,iV n),(17,iV i),(29,iV n),(30,iV k)]) (fun _=>[])
   (fun k U V=>k<=n/\Bag V [⟨.slice (some ⟨h,0,none⟩) n n,34,1,Cc (K6 ((gM X i).map Ae) n k)⟩,⟨.slice (some ⟨go,0,none⟩) n n,46,1,es.set i (.slice (some ⟨h,0,none⟩) n n)⟩]) (fun k=>n-k) 0 ⟨oV,C⟩ ?_
  clear C;rintro J2 k a9 u5 m5 l5 ⟨hk,N⟩;by_cases t:k<n
  ·refine G.lT k n<|G.call0 f (.int .i64 i::.int .i64 k::cap) kV O (hf i k g t u5 (l2.trans l5)) ?_;intro v6 u6 l6 k6;obtain⟨b6,a6,n6,c6,ai,ah,al,aj,rfl⟩:=k6.opn;refine G.c call71 (Uf (ht.mono ((l2.trans l5).trans l6)) k6 (ae i k g t)) ?_;rintro v7 u7 l7 rfl;refine G.nF 0 0<|G.a go 0 n n i 1 g<|G.lM none go (0+i*1) _ (a4 N)<|G.a h 0 n n k 1 t ?_;obtain⟨mr,F,T⟩:=N.focus 0 rfl;refine G.storeA 1 mr _ h n n k (.string (mkS (Ae (en X i k)))) kV F (by rw[Cb,An1 (m i g) hk];exact t) rfl rfl ?_;intro m8 af;have e8:(Cc (K6 ((gM X i).map Ae) n k)).set k (.string (mkS (Ae (en X i k))))=Cc (K6 ((gM X i).map Ae) n (k+1)):=by
    rw[<-Aop (m i g) (a1 i k g t)];unfold Cc;rw[A2g]
   have ac:=T ⟨.slice (some ⟨h,0,none⟩) n n,34,1,Cc (K6 ((gM X i).map Ae) n (k+1))⟩ m8 (by rw[<-e8];exact af);exact G.i k<|G.b (a9 (k+1) _ _ _ cV ((l5.trans l6).trans l7) ⟨oV,ac⟩ oV)
  obtain rfl:k=n:=oV;refine G.lF k k ?_;obtain⟨mo,F,mq,E,ak⟩:=N;have e9:K6 ((gM X i).map Ae) k k=(gM X i).map Ae:=by unfold K6;rw[A4i,A42,A1x,A1j (by rw[m i g];omega)]
  rw[e9]at F;refine G.give mo _ _ kV F (fun _=>.inl rfl) ?_;intro u6 l6 ab;refine G.i i<|G.b (hJ (i+1,es.set i (.slice (some ⟨h,0,none⟩) k k)) _ _ _ cV ((l2.trans l5).trans l6) ⟨dV,by dsimp only;rw[A21];exact P,?_,mq,E,trivial⟩ dV);intro j hj;dsimp only;by_cases a2:i=j
  ·subst a2;exact⟨_,_,a5,ab⟩
  obtain⟨a,c,H,W⟩:=Q j oV;exact⟨a,c,by rw[A1z,if_neg a2];exact H,Ac.mono W (l5.trans l6)⟩
 obtain rfl:i=n:=oV;refine G.lF i i ?_;obtain⟨mb,Z,_⟩:=Z;refine G.give mb es _ kV Z (fun _=>.inl rfl) ?_;intro u3 l3 aa;refine G.drop PH.mt kV (PH.mt_le _)<|G.r (.tuple #[.slice (some ⟨go,0,none⟩) i i,.int .i64 0]) ⟨rfl,_,rfl,es,aa,by rw[P,A3,L.1],fun j r hj=>?_⟩;obtain⟨a3,e⟩:=A05.1 hj;have R:j<i:=by rw[A3,L.1]at a3;exact a3
 obtain⟨a,c,H,W⟩:=Q j R;have hr:r=(gM X j).map Ae:=by
  rw[<-e];have ad:j<X.length:=by rw[L.1];exact R
  simp only[Cv,A3v];rw[Ch ad]
 have a7:r.length=i:=by rw[hr,m j R]
 exact⟨a,c,by rw[a7];exact H,by rw[a7,hr];exact Ac.mono W l3⟩
def Po {u:PH}{g off:Nat}{t:TypeId}{fr:Nat×Nat}(h:u g=some (.cells cs t fr))(e:∀ i y,v.cells[i]?=some y->cs[off+i]?=some y):ElP u g off v:=fun i y j=>⟨cs,t,fr,h,e i y j⟩
def G2 (h:v.cells = #[v])(g:cs[k]?=some v):∀ i y,v.cells[i]?=some y->cs[k+i]?=some y:=fun i y e=>by
 rw[h]at e
 match i,e with
 |0,e=>simp at e;subst e;exact g
def Awo {u:PH}{t W T n c0 g pn pc on oc i k D:Nat}{H a0 pa ao:Option Addr}{fv F:N3}{a2:Bool}{S:List (List Int)}{z:Int}
 (hr:u t=some (.cells #[.slice H n g,.slice pa pn pc,.bool fv.b,.slice fv.a fv.n fv.c,.bool a2] 192 (0,0))) (ha:u W=some (.cells #[.slice a0 n c0] 45 (0,0)))
 (hg:u T=some (.cells #[.bool F.b,.slice F.a F.n F.c,.slice ao on oc] 187 (0,0))) (hS:Nl u (.slice H n g) S) (L:E8 n (n+n) S) (hV:Bi u (nv fv) z) (hD:Bi u (nv F) (D:Int))
 (h1:nl (enZ S i (n+k)).natAbs<=1000000000) (h2:nl z.natAbs<=1000000000) (h3:nl D<=2) (hz:z≠0) (hi:i<n) (hk:k<n) (hn:n<=1000) :
 Fn0 prog 124 [.int .i64 i,.int .i64 k,.pointer (some ⟨t,0,none⟩),.pointer (some ⟨W,0,none⟩),.pointer (some ⟨T,0,none⟩)] u fun r u'=>Bg u' r (Rat.divInt (enZ S i (n+k)*(D:Int)) z):=by
 have C:i<S.length:=by rw[L.1];exact hi
 have Z:S[i]?=some S[i]:=A01 C;have Y:S[i].length=n+n:=by have:=L.2 i hi;rwa[Xj C]at this
 obtain⟨h,E,a4,rfl,K,m⟩:=LP.at hS Z;obtain⟨a3,U,rfl⟩:=LP.opn m;rw[Y]at m K;obtain⟨I,R,a5,rfl,X,J⟩:=LP.at m (j:=n+k) (x:=enZ S i (n+k)) (by
  unfold enZ;rw[Xj C,Ol oV];exact A01 oV)
 obtain⟨V,rfl⟩:=J.opN;have O:nl ((D:Int)).natAbs<=2:=h3;refine Fn0.o func124<|G.f 192 t 0 0 0<|G.lU none t (0+0) (.slice (some ⟨h,E,none⟩) n g) (Po hr (G2 rfl rfl))<|G.a h E n g i 1 hi<|G.lU none h (E+i*1) _ K<|G.lU none W 0 (.slice a0 n c0) (Po ha (G2 rfl rfl))<|G.p n k (n+k:Nat)<|G.a I R (n+n) U (n+k) 2 oV<|G.lU (some 2) I (R+(n+k)*2) (nv V) X<|G.f 187 T 0 0 0<|G.lU (some 2) T (0+0) (nv F) (Po hg fun j y e=>by
  match j,e with
  |0,e=>simpa[nv,Value.cells] using e
  |1,e=>simpa[nv,Value.cells] using e) ?_
 refine G.f 192 t 0 2 2<|G.lU (some 2) t (0+2) (nv fv) ((Po hr fun j y e=>by
  match j,e with
  |0,e=>simpa[nv,Value.cells] using e
  |1,e=>simpa[nv,Value.cells] using e:ElP u t (0+2) (nv fv))) ?_
 refine G.c call126 (Ea J hD (A04 h1 oV) (A04 O oV)) ?_;intro aa a8 a1 P;obtain⟨a6,rfl⟩:=P.opN;have N:nl (enZ S i (n+k)*(D:Int)).natAbs<=2*1000000000:=Bx h1 (A04 O oV);refine G.c call125 (Q6 P (hV.mono a1) (A04 N oV) (A04 h2 oV) hz) ?_;intro ab a9 a7 Q;obtain⟨x1,x2,x3,x4,x5,x6,x7,x8,rfl⟩:=Q.opn;exact G.r (.agg #[.bool x1,.slice x2 x3 x4,.bool x5,.slice x6 x7 x8]) ⟨rfl,Q⟩
end
section
variable {A:List (List Rat)}{D i:Nat}
def P3 (k i:Nat):List Int:=(List.range k).map fun t=>if i=t then 1 else 0
def Ahb (k i:Nat):P3 (k+1) i=P3 k i++[if i=k then 1 else 0]:=by unfold P3;rw[A5d,A1i];rfl
def Oq (D:Nat)(A:List (List Rat))(i k:Nat):Int:=gZ (Bp D (gM A i)) k
def Axn {l:List Int}{n:Nat}(h:l.length=n):(List.range n).map (gZ l)=l:=by
 refine A5l (by simp[h]) fun i g e=>?_;rw[A3v,List.getElem_range,Ol e]
def Aud (h:Sq A)(D:Nat)(hi:i<A.length):gMZ (Iu A.length (Oq D A)) i=Bp D (gM A i)++P3 A.length i:=by
 rw[Sm hi,List.range_add,A1i]
 congr 1
 ·rw[A41 (g:=gZ (Bp D (gM A i))) fun k e=>by rw[if_pos (A6q.1 e)];rfl];exact Axn (by unfold Bp;rw[A03,Ch hi,h.len hi])
 unfold P3;rw[A9h];refine A41 fun k e=>?_;show (if A.length+k<A.length then _ else _)=_;rw[if_neg oV,show A.length+k-A.length=k by omega]
def Ak4 (j:Sq A)(g:∀ r∈A,∀ q∈r,q.den ∣ D){i k:Nat}(hi:i<A.length)(h:k<A.length):en A i k*(D:Rat)=Oq D A i k:=by
 have e:k<(gM A i).length:=by rw[Ch hi,j.len hi];exact h
 unfold Oq;rw[Wf e];unfold en;exact (Aem (g _ (Abw hi) _ (Xr e))).symm
def Avg (z:Sq A)(hT:∀ r∈A,∀ q∈r,Th q)(t:D ∣ 21600):SzZ (Iu A.length (Oq D A)) 2:=fun i j=>by
 refine nlM ?_;have key:∀ a b,a<A.length->b<A.length->(Oq D A a b).natAbs<=3000000000000*21600:=fun a b g u=>by
  have h:b<(gM A a).length:=by rw[Ch g,z.len g];exact u
  unfold Oq;rw[Wf h,A26,A1s];have m:D/(gR (gM A a) b).den<=21600:=A04 (A3u _ _) (A48 oV t);exact A25 (hT _ (Abw g) _ (Xr h)).num m
 by_cases hi:i<A.length
 ·have:=Ald (n:=A.length) (Z:=Oq D A) (M:=3000000000000*21600) key oV i hi j;omega
 have:enZ (Iu A.length (Oq D A)) i j=0:=by
  unfold enZ;have e:gMZ (Iu A.length (Oq D A)) i = []:=by unfold gMZ;rw[A02,A1v (by simp[Iu];omega)];rfl
  rw[e];rfl
 rw[this];omega
def Auu (n D:Nat)(s:BZ):List (List Rat):=sqL n fun j k=>Rat.divInt (enZ s.X j (n+k)*(D:Int)) s.v
def Atl {u:PH}{v:Value}{A:List (List Rat)}(ht:Hx u)(h:C7 u v (Cv A))(hs:Sq A)(h0:0<A.length)(hT:∀ r∈A,∀ q∈r,Th q)(hk:Xu A.length (en A))
 (hX:∀ X,Rec A.length A.length X->Fe A.length (en A) (en X)->∀ r∈X,∀ x∈r,Tx x) :
 Fn0 prog 53 [v] u fun r u'=>∃ X lv,r=.tuple #[lv,.int .i64 0]/\Rec A.length A.length X/\Fe A.length (en A) (en X)/\C7 u' lv (Cv X):=by
 have bx:=fun (v:Value) (hv:C7 u v (Cv A))=>Awb hv hs;have b3:∀ r∈A,∀ q∈r,Tx q:=fun r hr q hq=>(hT r hr q hq).tx;have V:=Asd hT;have a3:=hs.le;have ay:∀ r∈A,r.length<=12:=fun r hr=>by rw[hs.row r hr];exact a3
 obtain⟨a0,c0,rfl⟩:=h.opn;rw[A3]at h⊢;refine Fn0.o func53<|G.c call118 (bx _ h) ?_;rintro v1 u1 l1 rfl;refine G.nF 0 0<|G.c call119 (Aie (N:=12) (K:=17) (ht.mono l1) (h.mono l1) b3 a3 ay oV oV oV V.den V.pos V.nl V.dig) ?_;rintro v3 u3 l3 rfl;have be:=l1.trans l3;refine G.callO _ _ kV call120 (Akc (h.mono be) b3 oV (fun r hr=>by have:=ay r hr;omega) V.den V.pos V.nl) ?_;rintro v6 u6 m6 l6 ⟨D,F,a6,c6,ac,bi,b0,bj,rfl,bk,aq,W⟩ _;rw[By];have c3:=be.trans l6;have ar:=Vu (n:=A.length) (Z:=Oq D A);have T:ac.length=A.length:=by rw[aq.1];simp
 obtain⟨go,co,eo⟩:=W.ptr 0 rfl (by intro e;simp only[oN,A6c]at e;rw[e]at T;simp at T;omega);simp only[oN,A03,T,Value.slice.injEq,true_and]at eo;obtain⟨rfl,rfl⟩:=eo;have bp:∀ i,i<A.length->gMZ (A.map (Bp D)) i=Bp D (gM A i):=fun i hi=>by rw[Xj (by simpa using hi),A3v,Ch hi]
 have bq:∀ i,i<A.length->(Bp D (gM A i)).length=A.length:=fun i hi=>by unfold Bp;rw[A03,Ch hi,hs.len hi]
 have az:∀ (m:List (Value×List Value)) (i:Nat) (r:Value×List Value) (u' m':PH) (k:Nat),m.length=A.length->m[i]?=some r->Bag m' (oN (.slice (some ⟨go,0,none⟩) A.length c6) m::m.map C3)->AtP Bi u' r.2 (Bp D (gM A i)++P3 k i)->i<A.length ->
  ∃ gi ci I,r=(.slice (some ⟨gi,0,none⟩) (A.length+k) ci,I)/\I.length=A.length+k:=by
  rintro m i ⟨vi,I⟩ u' m' k ay a4 t a8 hi;have a9:I.length=A.length+k:=by rw[a8.1,A1d,bq i hi];simp[P3]
  obtain⟨gi,ci,e⟩:=t.ptr (i+1) (x:=C3 (vi,I)) (by simp[a4]) (by intro e;simp only[C3]at e;rw[e]at a9;simp at a9;omega);simp only[C3]at e;rw[a9]at e;subst e;exact⟨gi,ci,I,rfl,a9⟩
 refine G.l (ι:=Nat×List (Value×List Value)) (fun i=>[(1,.p 0 0),(5,.p 6002 0),(21,iV A.length),(22,iV i.1)])
  (fun _=>[(0,⟨45,[sV a0 A.length c0]⟩),(6002,⟨187,[bV F.b,sV F.a F.n F.c,sV (some ⟨go,0,none⟩) A.length c6]⟩)])
  (fun i u' m'=>i.1<=A.length/\i.2.length=A.length/\(∀ j r,i.2[j]?=some r->AtP Bi u' r.2 (Bp D (gM A j)++if j<i.1 then P3 A.length j else []))/\Bag m' (oN (.slice (some ⟨go,0,none⟩) A.length c6) i.2::i.2.map C3)) (fun i=>A.length-i.1) (0,ac)
  ⟨oV,T,fun j r H=>by
   dsimp only at H;have ad:j<A.length:=by
    obtain⟨q1,_⟩:=A05.1 H;omega
   rw[if_neg oV,A1x,<-bp j ad];exact aq.2 j r H,W⟩ ?_
 clear W aq T;rintro J ⟨i,m⟩ hJ u7 m7 l7 ⟨hi,a1,hQ,t⟩;simp only at hi a1 hQ t hJ;by_cases av:i<A.length
 ·refine G.lT i A.length<|G.l (ι:=Nat×List (Value×List Value)) (fun k=>[(1,.p 0 0),(5,.p 6002 0),(6,iV i),(21,iV A.length),(22,iV i),(26,iV A.length),(27,iV k.1)])
   (fun _=>[(0,⟨45,[sV a0 A.length c0]⟩),(6002,⟨187,[bV F.b,sV F.a F.n F.c,sV (some ⟨go,0,none⟩) A.length c6]⟩)])
   (fun k u' m'=>k.1<=A.length/\k.2.length=A.length/\(∀ j r,k.2[j]?=some r->AtP Bi u' r.2 (Bp D (gM A j)++if j<i then P3 A.length j else if j=i then P3 k.1 j else []))/\Bag m' (oN (.slice (some ⟨go,0,none⟩) A.length c6) k.2::k.2.map C3)) (fun k=>A.length-k.1) (0,m)
   ⟨oV,a1,fun j r H=>by
    have:=hQ j r H;dsimp only;by_cases e:j<i
    ·rw[if_pos e]at this⊢;exact this
    rw[if_neg e]at this⊢;split
    ·exact this
    exact this,t⟩ ?_
  clear hQ t a1;rintro J2 ⟨k,m⟩ b1 u8 m8 l8 ⟨br,a2,hQ,t⟩;simp only at br a2 hQ t b1;by_cases ce:k<A.length
  ·refine G.lT k A.length ?_;obtain⟨r,a4⟩:∃ r,m[i]?=some r:=⟨_,A01 oV⟩;have a8:=hQ i r a4;rw[if_neg (Nat.lt_irrefl _),if_pos rfl]at a8;obtain⟨gi,ci,I,rfl,a9⟩:=az m i r u8 m8 k a2 a4 t a8 av;have bu:(oN (.slice (some ⟨go,0,none⟩) A.length c6) m::m.map C3)[i+1]?=some (C3 (.slice (some ⟨gi,0,none⟩) (A.length+k) ci,I)):=by simp[a4]
   have bt:ElP m8 go (0+i*1) (.slice (some ⟨gi,0,none⟩) (A.length+k) ci):=t.el 0 (x:=oN _ _) rfl rfl (by show (m.map (·.1))[i]?=_;rw[A1a,a4];rfl);refine G.c call121 (Kf (z:=0) oV oV) ?_;intro v9 u9 l9 k9;obtain⟨f9,rfl⟩:=k9.opN;refine G.join (ι:=N3) (.bool false) (fun f=>[(1,.p 0 0),(5,.p 6002 0),(6,iV i),(8,.p 13001 0),(21,iV A.length),(22,iV i),(26,iV A.length),(27,iV k)])
    (fun f=>[(0,⟨45,[sV a0 A.length c0]⟩),(6002,⟨187,[bV F.b,sV F.a F.n F.c,sV (some ⟨go,0,none⟩) A.length c6]⟩),(13001,⟨141,[bV f.b,sV f.a f.n f.c]⟩)])
    (fun f u' m'=>m'=m8/\Bi u' (nv f) (if i=k then 1 else 0)) (fun _=>kV) kV ?tail ?way
   case way =>
    intro ab;by_cases b4:i=k
    ·refine G.eT i k<|G.c call121 (Kf (z:=1) oV oV) ?_;intro cl bf U a5;obtain⟨C,rfl⟩:=a5.opN;exact ab C _ _ _ kV cV U ⟨rfl,by rw[if_pos b4];exact a5⟩
    refine G.eF i k ?_;exact ab f9 _ _ _ kV cV (PH.le_refl _) ⟨rfl,by rw[if_neg b4];exact k9⟩
   rintro C bf ch U ⟨rfl,a5⟩;refine G.a go 0 A.length c6 i 1 av<|G.lM none go (0+i*1) _ bt<|G.B 141 2 32 (.agg #[.bool false,.slice none 0 0]) [nv C] (a5.ok) ?_;intro bh c7 a7 bg;obtain⟨mm,b9,b6⟩:=t.focus (i+1) bu;rw[Ack]at b9;refine G.append 141 2 32 (.agg #[.bool false,.slice none 0 0]) mm I [nv C] (.slice (some ⟨gi,0,none⟩) (A.length+k) ci) bh 0 1 1 kV rfl rfl oV b9 bg (a5.ok) rfl oV oV oV ?_;intro c8 c4 al;have ah:=b6 (C3 (c8,I++[nv C])) c4 al;obtain⟨L,O,rfl⟩:=al.shape;rw[A2j]at ah;obtain⟨mo,ba,aw⟩:=ah.focus 0 rfl;rw[Akm]at ba;refine G.a go 0 A.length c6 i 1 av<|G.storeA 1 mo _ go A.length c6 i (.slice L (I++[nv C]).length O) kV ba gV rfl rfl ?_;intro c5 am;rw[show (m.map (·.1)).set i (Value.slice L (I++[nv C]).length O)=(m.set i (Value.slice L (I++[nv C]).length O,I++[nv C])).map (·.1) by rw[A2g]]at am;have ai:=aw (oN (.slice (some ⟨go,0,none⟩) A.length c6) (m.set i (Value.slice L (I++[nv C]).length O,I++[nv C]))) c5 am;rw[A2p,<-A2g]at ai;refine G.i k<|G.b (b1 (k+1,m.set i (Value.slice L (I++[nv C]).length O,I++[nv C])) _ _ _ cV (((l8.trans l9).trans U).trans a7) ⟨dV,by dsimp only;rw[A21];exact a2,?_,ai⟩ dV);have ao:=(l9.trans U).trans a7;intro j r H;dsimp only at H⊢;rw[A1z]at H;by_cases au:i=j
   ·subst au;rw[if_pos rfl,if_pos oV]at H;cases H;rw[if_neg (Nat.lt_irrefl _),if_pos rfl,Ahb,<-A2k];exact (a8.mono (fun _ _ k=>k.mono ao)).snoc (a5.mono a7)
   rw[if_neg au]at H;have Q:=(hQ j r H).mono (fun _ _ k=>k.mono ao);by_cases aa:j<i
   ·rw[if_pos aa]at Q⊢;exact Q
   rw[if_neg aa,if_neg (Ne.symm au)]at Q⊢;exact Q
  obtain rfl:k=A.length:=oV;refine G.lF A.length A.length<|G.i i<|G.b (hJ (i+1,m) _ _ _ cV (l7.trans l8) ⟨dV,a2,?_,t⟩ dV);intro j r H;have Q:=hQ j r H;dsimp only;by_cases aa:j<i
  ·rw[if_pos aa]at Q;rw[if_pos oV];exact Q
  rw[if_neg aa]at Q;by_cases e:j=i
  ·rw[if_pos e]at Q;rw[if_pos oV];exact Q
  rw[if_neg e]at Q;rw[if_neg oV];exact Q
 clear hJ;obtain rfl:i=A.length:=oV;refine G.lF A.length A.length ?_;have bm:NAt u7 m (Iu A.length (Oq D A)):=⟨by rw[a1,ar.1],fun j r H=>by
  have ad:j<A.length:=by
   obtain⟨q1,_⟩:=A05.1 H;omega
  have Q:=hQ j r H;rw[if_pos ad]at Q;rw[Aud hs D ad];exact Q⟩
 clear hQ az;refine G.giveP (ma:=m7) (sm:=PH.mt) kV (by funext g;unfold PH.or;cases m7 g<;>rfl) (fun g=>.inr rfl) (fun g=>.inl rfl) ?_
 intro bf U b5;have b2:=Am1 t (bm.mono U) b5;have b8:=Avg (D:=D) hs hT b0;refine G.c call122 (Avp b2 ar oV oV h0 oV b8 oV (Az1 a3)) ?_;rintro cm c7 a7 ⟨L,O,pa,pc,fv,rfl,hS,hV⟩;obtain⟨bl,bn,c2,bo⟩:=Au4 (Z:=Oq D A) hk bi fun i k hi hk=>Ak4 hs bj hi hk;obtain⟨bb,bd⟩:=Aow (n:=A.length) (w:=A.length+A.length) (E:=2) A.length 0 ⟨Iu A.length (Oq D A),[],1,false⟩ b8 (A04 (nl1 (n:=1) oV) (by show 1<=2;omega)) ar (A1t _);rw[A2w]at bb bd;clear a3;have a3:=hs.le;generalize Fm A.length A.length 0 ⟨Iu A.length (Oq D A),[],1,false⟩=s at *
 refine G.lF' s.P.length A.length (by rw[bl];omega) ?_;have an:=Az1 a3;have bs:nl D<=2:=nlM (by have:=A48 oV b0;omega);have ap:=(bk.mono l7).mono (U.trans a7);refine G.pub 0 45 [.slice a0 A.length c0] kV kV ?_;intro ga ca cb;refine G.pub 6002 187 [.bool F.b,.slice F.a F.n F.c,.slice (some ⟨go,0,none⟩) A.length c6] kV kV ?_;intro gt cd aj;refine G.pub 19005 192 [.slice L A.length O,.slice pa s.P.length pc,.bool fv.b,.slice fv.a fv.n fv.c,.bool s.odd] kV kV ?_;intro gr cc Y;generalize ae:((PH.mt.upd ga _).upd gt _).upd gr _=mm;have bz:gt≠ga:=fun e=>by subst e;rw[Ab]at aj;cases aj
 have b7:gr≠gt:=fun e=>by subst e;rw[Ab]at Y;cases Y
 have bw:gr≠ga:=fun e=>by subst e;rw[Ad _ _ b7,Ab]at Y;cases Y
 have e1:mm gr=some (.cells #[.slice L A.length O,.slice pa s.P.length pc,.bool fv.b,.slice fv.a fv.n fv.c,.bool s.odd] 192 (0,0)):=by rw[<-ae,Ab]
 have e2:mm gt=some (.cells #[.bool F.b,.slice F.a F.n F.c,.slice (some ⟨go,0,none⟩) A.length c6] 187 (0,0)):=by rw[<-ae,Ad _ _ (Ne.symm b7),Ab]
 have e3:mm ga=some (.cells #[.slice a0 A.length c0] 45 (0,0)):=by rw[<-ae,Ad _ _ (Ne.symm bw),Ad _ _ (Ne.symm bz),Ab]
 clear ae;refine G.giveP (ma:=mm) (sm:=PH.mt) kV (by funext g;unfold PH.or;cases mm g<;>rfl) (fun g=>.inr rfl) (fun g=>.inl rfl) ?_
 intro cj af R;have ak:Fe A.length (en A) (en (Auu A.length D s)):=fun i k hi hk=>by
  rw[<-bo i k hi hk];exact Ah fun j H=>by
   unfold Auu;rw[N6 H hk,A37,A3c,A2r]
 have ax:=Rh A.length fun j k=>Rat.divInt (enZ s.X j (A.length+k)*(D:Int)) s.v;have c1:=(((ht.mono c3).mono l7).mono (U.trans a7)).mono af;refine G.lU none ga 0 (.slice a0 A.length c0) (Po (R _ _ e3) (G2 rfl rfl))<|G.lU none ga 0 (.slice a0 A.length c0) (Po (R _ _ e3) (G2 rfl rfl))<|G.c call123 (Acd (f:=124) (cap:=[.pointer (some ⟨gr,0,none⟩),.pointer (some ⟨ga,0,none⟩),.pointer (some ⟨gt,0,none⟩)]) (X:=Auu A.length D s) c1 ax oV (hX _ ax ak) call124 (fun i k hi hk u' hl=>by
  have Q:=Awo (u:=u') (i:=i) (k:=k) (hl _ _ (R _ _ e1)) (hl _ _ (R _ _ e3)) (hl _ _ (R _ _ e2)) (Nl.mono hS (af.trans hl)) bn (hV.mono (af.trans hl)) (ap.mono (af.trans hl)) (A04 (bb i (A.length+k)) an) (A04 bd an) bs c2 hi hk oV;have e9:en (Auu A.length D s) i k=Rat.divInt (enZ s.X i (A.length+k)*(D:Int)) s.v:=N6 hi hk;rw[e9];exact Q)) ?_
 rintro cn ck cg ⟨lv,rfl,ag⟩;obtain⟨la,lc,rfl⟩:=ag.opn;exact G.r (.tuple #[_,.int .i64 0]) ⟨rfl,_,_,rfl,ax,ak,ag⟩
end
section
section
variable {u:PH} {v:Value} {P:List Par} {C:CF} {q:Rat} {N:Nat}
def Aa5 (h:In N C)(J:N<=28873454400)(t:Fd q)(j:P.Nodup)(H:0<C.c)(e:∀ z,0<=Dh z P C)(g:P.length<=11):Sq (Eh C P q)/\(Eh C P q).length=P.length+1/\(∀ r∈Eh C P q,∀ x∈r,Th x)/\Xu (Eh C P q).length (en (Eh C P q)) /\
 ∀ X,Rec (Eh C P q).length (Eh C P q).length X->Fe (Eh C P q).length (en (Eh C P q)) (en X)->H6 P C q X/\∀ r∈X,∀ x∈r,Tx x:=by
 have n:=Rx (P:=P) (C:=C) (q:=q);have m:=Azc (P:=P) h J t.sixty;refine⟨At1 m g,n.1,m,by rw[n.1];exact Xx j H t.pos e,fun X I hi=>?_⟩;rw[n.1]at I hi;have E:=H6.of_right I hi;exact⟨E,E.txs h oV t j H e g⟩
def Avf (W:Hx u)(h:C7 u v (Cv (Eh C P q)))(m:In N C)(Q:N<=28873454400)(V:Fd q)(n:P.Nodup)(U:0<C.c)(e:∀ z,0<=Dh z P C)(j:P.length<=11) :
 Fn0 prog 53 [v] u fun r H=>∃ X g,r=.tuple #[g,.int .i64 0]/\H6 P C q X/\C7 H g (Cv X):=by
 obtain⟨I,Y,J,L,E⟩:=Aa5 m Q V n U e j;refine Fn0.weak (Atl W h I oV J L fun X t hi=>(E X t hi).2) ?_;rintro r H ⟨X,g,rfl,t,hi,O⟩;exact⟨X,g,rfl,(E X t hi).1,O⟩
def Atq (h:C7 u v (Cv (Eh C P q)))(n:In N C)(Q:N<=28873454400)(V:Fd q)(t:P.Nodup)(U:0<C.c)(e:∀ z,0<=Dh z P C)(m:P.length<=11) :
 Fn0 prog 65 [v] u fun r J=>∃ X j,r=.tuple #[j,.int .i64 0]/\H6 P C q X/\C7 J j (Cv X):=by
 obtain⟨E,Y,L,H,I⟩:=Aa5 n Q V t U e m;have g:=Lu (Eh C P q).length (Bn (Eh C P q).length 0 [] (Lf (Eh C P q).length (Eh C P q)) 1).2.1;have hi:=Am6 (Xs E) H;refine Fn0.weak (Av1 h E oV (fun r g x W=>(L r g x W).tq) H (I _ g hi).2) ?_;rintro r J ⟨j,rfl,O⟩;exact⟨_,j,rfl,(I _ g hi).1,O⟩
end
section
variable {u:PH} {v cv:Value} {T:List (List UInt8×Nat)} {R:List Br} {F:List Al} {lab:Int} {C:CF} {K k N:Nat} {P:List Par} {q:Rat}
def Afc (P:List Par)(C:CF)(k:Nat)(q:Rat)(r:Value)(u:PH):Prop :=
 (∃ e:Int,(k=0/\e=12\/e=3/\k≠0/\11<P.length)/\r=.tuple #[Axc,.int .i64 e]) \/
  (k≠0/\P.length<=11/\∃ sv X b s c,r=.tuple #[sv,.int .i64 0]/\Ma u sv P X b s c q/\H9 P C q X b s c)
def Aaz (ht:Hx u)(h:Te u v cv T R F lab C K k P)(hq:Fd q)(Y:In N C)(hN:N<=28873454400)(Q:∀ z,0<=Dh z P C) :
 Fn0 prog 13 [v,cv,.string (mkS (Ae q))] u fun r u'=>Afc P C k q r u':=by
 have a5:=(Ahm ht h.w hq.w).giveAll;have O:=h.mom;have hK:=h.K;have a4:=fun (u':PH) (l:PH.le u u')=>Afd B7 B7 (h.cof.mono l) oV;obtain⟨xa,xc,xb,xd,xe,xf,rfl,_⟩:=id h.sch;obtain⟨a1,n1,c1,a2,n2,c2,rfl⟩:=id h.cof.opn;refine Fn0.o func13<|G.c call52 a5 ?_;rintro v1 u1 l1 ⟨u0,a7,a0,J,⟨e,rfl,he⟩|⟨hk,P',pa,pc,ya,yc,ra,rc,a6,H,g,rfl,hL,m,j⟩⟩
 ·refine G.nT' e 0 (by rcases he with ⟨h,_⟩|⟨h,_⟩<;>omega) ?_
  exact G.r (.tuple #[Axc,.int .i64 e]) ⟨rfl,.inl ⟨e,by
   rcases he with ⟨V,W⟩|⟨V,W,P',h3,h4⟩
   ·exact .inl ⟨W,V⟩
   refine .inr ⟨V,W,?_⟩;rw[h.prm.eq h3];exact h4,rfl⟩⟩
 cases h.prm.eq H;refine G.nF 0 0 ?_;have hM:C7 u1 (.slice ya (P.length+1) yc) (Cv (Eh C P q)):=V9 (v:=.bool true) j m J;obtain⟨m0,U,_⟩:=j.focus 0 rfl;rw[D6]at U;have hR:Cj u1 (.slice ra (P.length+1) rc) ((Yz C P).map Ae):=by
  unfold Cj Yz;rw[<-J7];exact U.list J
 have Z:=O.cpos hk;have a3:=H.1.nodup Et;refine G.c call53 (Avf (ht.mono l1) hM Y hN hq a3 Z Q g) ?_;rintro v2 u2 l2 ⟨X,lv,rfl,hS,E⟩;obtain⟨la,lc,L⟩:=id E.opn;rw[A3]at L;subst L;refine G.nF 0 0<|G.c call55 Aq2 ?_;rintro v3 u3 l3 rfl;refine G.c call55 Aq2 ?_;rintro v4 u4 l4 rfl;refine G.c call54 (a4 u4 (((l1.trans l2).trans l3).trans l4)) ?_;rintro v5 u5 l5 rfl;have n:=(l3.trans l4).trans l5;have I:(Yz C P).length=P.length+1:=Ag3;exact G.r (.tuple #[.agg #[.slice pa P.length pc,.slice la X.length lc,.slice ra (P.length+1) rc,.string (mkS (Ae (C.t (Ay B7 B7)))),.string (mkS (Ae C.c)),.string (mkS (Ae q))],.int .i64 0])
  ⟨rfl,.inr ⟨hk,g,_,X,Yz C P,C.t (Ay B7 B7),C.c,rfl,⟨pa,pc,la,lc,ra,rc,by rw[I],hL.mono (a0.trans (l2.trans n)),E.mono n,by rw[I];exact Ac.mono hR (l2.trans n)⟩,⟨hS,rfl,rfl,rfl⟩⟩⟩
def Aoj (h:Te u v cv T R F lab C K k P)(V:Fd q)(H:In N C)(Y:N<=28873454400)(E:∀ z,0<=Dh z P C) :
 Fn0 prog 21 [v,cv,.string (mkS (Ae q))] u fun r U=>Afc P C k q r U:=by
 have O:=Ae1 h V;have n:=h.mom;have hK:=h.K;have L:=fun (U:PH) (l:PH.le u U)=>U2 B7 B7 (h.cof.mono l) oV;obtain⟨xa,xc,xb,xd,xe,xf,rfl,_⟩:=id h.sch;obtain⟨a1,n1,c1,a2,n2,c2,rfl⟩:=id h.cof.opn;refine Fn0.o func21<|G.c call16 O ?_;rintro v1 u1 l1 (⟨e,he,hwhy,rfl⟩|⟨hk,hP11,pa,pc,ya,yc,ra,rc,rfl,hPL,hM,hR⟩)
 ·exact G.nT' e 0 he<|G.r (.tuple #[Axc,.int .i64 e]) ⟨rfl,.inl ⟨e,hwhy,rfl⟩⟩
 refine G.nF 0 0 ?_;have I:=n.cpos hk;have J:=h.prm.1.nodup Et;refine G.c call65 (Atq hM H Y V J I E hP11) ?_;rintro v2 u2 l2 ⟨X,lv,rfl,Z,g⟩;obtain⟨la,W,m⟩:=id g.opn;rw[A3]at m;subst m;refine G.nF 0 0<|G.c call66 (L u2 (l1.trans l2)) ?_;rintro v5 u5 Q rfl;have j:(Yz C P).length=P.length+1:=Ag3;exact G.r (.tuple #[.agg #[.slice pa P.length pc,.slice la X.length W,.slice ra (P.length+1) rc,.string (mkS (Ae (C.t (Ay B7 B7)))),.string (mkS (Ae C.c)),.string (mkS (Ae q))],.int .i64 0])
  ⟨rfl,.inr ⟨hk,hP11,_,X,Yz C P,C.t (Ay B7 B7),C.c,rfl,⟨pa,pc,la,W,ra,rc,by rw[j],hPL.mono (l2.trans Q),g.mono Q,by rw[j];exact Ac.mono hR (l2.trans Q)⟩,⟨Z,rfl,rfl,rfl⟩⟩⟩
end
end
end Go.Proofs.YtemmheaocgmebaaGreatDoor
