/- Parts of one proof, joined by a program. -/
import Derived.Test.YtemmheaocgmebaaGreatDoorS14
import Derived.Test.YtemmheaocgmebaaGreatDoorCards
import Derived.WalkKit
import Derived.ProofKit
import Derived.OpenShut
import Derived.Deep.DeepHandedRow
import Derived.Deep.DeepWitnessRowRef
import Derived.Lib.LaidTab
import Derived.Stop.LaidErr
set_option linter.defProp false
set_option linter.unusedVariables false
set_option linter.unusedSimpArgs false
set_option linter.unusedSectionVars false
set_option maxHeartbeats 16000000
namespace Go.Proofs.YtemmheaocgmebaaGreatDoor
open Go.Proofs.Tryz
open Go.RowKit Go.MapKept
section
section
variable {u:PH} {v cv:Value} {T:zC} {R:List Br} {F:List Al} {lab:Int} {C:CF} {K k N:Nat} {P:List Par} {q s c:Rat} {X:zM} {b:zR}
def H9.sol (h:H9 P C q X b s c)(E:Sq (Eh C P q)){y:Nat->Rat}(J:Bgd (Eh C P q).length (Xz (Eh C P q) (Yz C P)) y):∀ i,i<P.length+1->y i=Fy (P.length+1) (en X) (gR b) i:=fun i hi=>by
 have m:=Rx (P:=P) (C:=C) (q:=q);refine Bgb h.inv.inv (fun j H=>?_) hi;have e:j<(Eh C P q).length:=by rw[m.1];exact H
 have t:=J j e;rw[Bge E e]at t;rw[h.rt,show (An P).map (Bh C)=Yz C P from rfl,<-t,m.1];exact Ah fun k I=>by rw[Bfl E e (by rw[m.1];exact I)]
def H9.mods (h:H9 P C q X b s c)(hp:Td F P q)(e:Ug P C):∀ x∈Be7 (P.length+1) X b,Tx x:=fun x t=>by
 obtain⟨N,m,j⟩:=e.cd;obtain⟨i,hi,rfl⟩:=A1b.1 t;exact (h.mod j m hp.pen (hp.srt.nodup Et) e.pos e.psd hp.le i (A6q.1 hi)).tx oV oV oV oV
def Bgj (u:PH)(mv:Value)(P:List Par)(qs:zR):Prop:=∃ m0 rs,qs=m0::rs/\Bfe u mv m0 (P.zip rs)
def Bfn (h:Te u v cv T R F lab C K k P)(H:In N C)(hN:N<=28873454400)(hp:Td F P q)(Y:Ug P C)(Z:H9 P C q X b s c) :
 zF 41 [v,cv,zS (Ae q)] u fun r u'=>∃ mv,r=.tuple #[mv,zO]/\Bgj u' mv P (Be7 (P.length+1) X b):=by
 have hq:=hp.pen;have a5:=Ae1 h hq;have Q:=h.prm.1;have t:=h.mom;have a6:k≠0:=fun e=>by
  have E:=Y.pos;rw[t.c,e]at E;exact absurd E jV
 obtain⟨xa,xc,xb,xd,xe,xf,rfl,_⟩:=id h.sch;obtain⟨a1,n1,c1,a2,n2,c2,rfl⟩:=id h.cof.opn;refine Fn0.o func41<|G.c call16 a5 ?_;rintro v1 u1 l1 (⟨e,he,hwhy,rfl⟩|⟨hk,hP11,pa,pc,ya,yc,ra,rc,rfl,hPL,hM,hR⟩)
 ·have:=hp.le;omega
 refine G.nF 0 0 ?_;have W:=Rx (P:=P) (C:=C) (q:=q);have a3:=Q.nodup Et;have U:=Azc (P:=P) H hN hq.sixty;have m:=At1 U hP11;have j:=Z.mods hp Y;refine G.c call95 (Bf1 (A:=Eh C P q) (b:=Yz C P) hM hR m (by rw[Ag3,W.1]) (by rw[W.1];omega) (fun r hr x V=>(U r hr x V).tq) (fun x V=>(Bf9 (P:=P) H hN x V).tq) (fun y hy i hi=>by
  have I:i<P.length+1:=by rw[<-W.1];exact hi
  rw[Z.sol m hy i I];exact j _ (A1b.2 ⟨i,A6q.2 I,rfl⟩))) ?_
 rintro v2 u2 l2 (⟨e,he,hsh,rfl⟩|⟨qs,lv,rfl,hql,hsol,hS⟩)
 ·exact absurd hsh (Bfq m (Aum a3 (t.cpos hk) hq.pos Y.psd))
 rw[W.1]at hql;have a4:qs=Be7 (P.length+1) X b:=by
  refine A5l (by rw[hql,Pw]) fun i E h2=>?_;have hi:i<P.length+1:=by rw[<-hql];exact E
  rw[<-Cu E,<-Cu h2,Bfo hi];exact Z.sol m hsol i hi
 rw[<-a4]at j⊢;cases qs with
 |nil=>simp at hql
 |cons m0 qs =>
  have J:qs.length=P.length:=by simpa using hql
  obtain⟨la,lc,a0⟩:=Ac.opn hS;subst a0;refine G.nF 0 0<|G.c call96 (Bfi (hPL.mono l2) hS Q J oV (j m0 mV) (fun x V=>j x (by simp[V]))) ?_;rintro v3 u3 l3 ⟨mv,rfl,L⟩;obtain⟨ma,mc,rfl,_⟩:=id L.val;exact G.r (.tuple #[.agg #[zS (Ae m0),.slice ma (P.zip qs).length mc],zO]) ⟨rfl,_,rfl,m0,qs,rfl,L⟩
end
end
section
section
variable {u:PH} {av bv sv:Value} {X:zM} {b:zR} {n:Nat}
def Bfr {g:Nat}(h:C7 u av (Cv X))(E:Sq X)(j:ElP u g (0+0*1) av):zF 162 [zG g 1 1] u fun r _=>r=zO:=by
 obtain⟨a,c,rfl⟩:=h.opn;rw[A3]at h j;refine Fn0.o func162<|G.l (ι:=Nat) (fun i=>[(8,sV (zA g) 1 1),(9,iV 1),(10,iV i)]) (fun _=>[])
  (fun i K H=>i<=1/\H=PH.mt) (fun i=>1-i) 0 ⟨oV,rfl⟩ ?_
 rintro J i m L I e ⟨hi,rfl⟩;by_cases t:i<1
 ·obtain rfl:i=0:=oV;refine G.lT (0:Nat) 1<|G.n 1 1 (j.mono e)<|G.c call186 (Adf (h.mono e) E) ?_;rintro R Q l2 rfl;exact G.nF 0 0<|G.p (0:Nat) 1 (1:Nat)<|G.b (m 1 _ _ _ cV (e.trans l2) ⟨oV,rfl⟩ oV)
 obtain rfl:i=1:=oV;exact G.lF (1:Nat) 1<|G.z zO
def Bfw (h:C7 u av (Cv X))(e:Sq X):zF 163 [av] u fun r _=>r=zI X.length:=by
 obtain⟨a,c,rfl⟩:=h.opn;rw[A3]at h⊢;refine Fn0.o func163<|G.c call186 (Adf h e) ?_;rintro m j l2 rfl;exact G.z (zI X.length)
def Bfz (ht:Hx u)(h:C7 u av (Cv X))(hs:Sq X)(hn:X.length=n)(hx:Cj u bv (b.map Ae))(ah:b.length=n)(a4:∀ x∈b,Tx x)(hT:∀ x∈Be7 n X b,Tx x) :
 zF 93 [av,bv] u fun r u'=>∃ lv,r=.tuple #[lv,zO]/\Cj u' lv ((Be7 n X b).map Ae):=by
 have b6:=hs.le;have hX:Rec n n X:=by rw[<-hn];exact Xs hs
 have ag:∀ i k,i<n->k<n->Tx (en X i k):=fun i k hi hk=>by
  have R:i<X.length:=oV;have h2:=hX.2 i hi;rw[Ch R]at h2;have h3:k<X[i].length:=oV;unfold en;rw[Ch R,Cu h3];exact hs.tx _ (A09 R) _ (A09 h3)
 obtain⟨a,c,rfl⟩:=h.opn;obtain⟨xa,xc,rfl⟩:=Ac.opn hx;rw[A3,hn]at h⊢;rw[show (Cc (b.map Ae)).length=n by rw[Cb,A03,ah]]at hx⊢;refine Fn0.o func93<|G.B 45 1 24 zN [.slice a n c] (B5 _ _ _) ?_;intro g1 u1 l1 e1;refine G.c call162 (Bfr (h.mono l1) hs (e1 0 _ rfl)) ?_;rintro v2 u2 l2 rfl;refine G.nF 0 0 ?_;have ac:=l1.trans l2;refine G.c call163 (Bfw (h.mono ac) hs) ?_;rintro v3 u3 l3 rfl;rw[hn];refine G.nF n n<|G.c call164 (Apy (Ac.mono hx (ac.trans l3)) a4 oV) ?_;rintro v4 u4 l4 rfl;have ap:=(ac.trans l3).trans l4;refine G.c call141 (T0 (Ac.mono hx ap) a4 oV) ?_;intro v5 u5 l5 k5;have aq:=ap.trans l5;obtain⟨a5,c5,rfl⟩:=k5.lp.opn;rw[ah]at k5⊢;refine G.make 143 4 64 Cw n kV rfl rfl oV oV oV ?_;rintro v6 m6 a3 ⟨aO,rfl⟩;obtain⟨go,rfl,_⟩:=a3.some';refine G.l (ι:=Nat×zV) (fun i=>[(6,sV a5 n c5),(7,sV (zA go) n n),(35,sV a n c),(36,iV n),(37,iV i.1)]) (fun _=>[])
  (fun i u' m'=>i.1<=n/\i.2.length=n/\(∀ j,j<i.1->∃ e,i.2[j]?=some e/\Bg u' e (gR (Be7 n X b) j))/\Af PH.mt m' (zG go n n) 143 4 i.2) (fun i=>n-i.1) (0,List.replicate n Cw)
  ⟨oV,mV,fun j U=>absurd U (Nat.not_lt_zero _),a3⟩ ?_
 clear a3;rintro J ⟨i,es1⟩ hJ u7 m7 l7 ⟨hi,H,I,T⟩;simp only at hi H I T hJ;by_cases m:i<n
 ·refine G.lT i n ?_;have a6:i<X.length:=oV;have ay:X[i].length=n:=by have:=hX.2 i m;rwa[Ch a6]at this
  obtain⟨b1,o1,a2,c2,rfl,ea,Y⟩:=(h.mono (aq.trans l7)).row (Dw (A01 a6));rw[A03,ay]at ea Y;refine G.N n c m ea<|G.c call128 (Wa (z:=0) oV oV) ?_;intro v8 u8 l8 k8;rw[show ((0:Int):Rat)=0 from rfl]at k8;obtain⟨f8,rfl⟩:=k8.opF;refine G.a go 0 n n i 4 m<|G.storeA 4 PH.mt es1 go n n i (fv f8) kV T oV rfl rfl ?_;intro m9 ae;refine G.l (ι:=Nat×zV) (fun k=>[(6,sV a5 n c5),(7,sV (zA go) n n),(35,sV (some ⟨b1,o1,none⟩) n c),(36,iV n),(37,iV i),(8,iV i),(46,sV a2 n c2),(47,iV n),(48,iV k.1)]) (fun _=>[])
   (fun k u' m'=>k.1<=n/\k.2.length=n/\(∀ j,j<i->∃ e,k.2[j]?=some e/\Bg u' e (gR (Be7 n X b) j))/\(∃ f,k.2[i]?=some (fv f)/\Bg u' (fv f) (Bb k.1 fun t=>en X i t*gR b t))/\Sz (Bb k.1 fun t=>en X i t*gR b t) (1+k.1*801)/\Af PH.mt m' (zG go n n) 143 4 k.2) (fun k=>n-k.1) (0,es1.set i (fv f8))
   ⟨oV,by dsimp only;rw[A21];exact H,fun j U=>by
    obtain⟨e,R,h2⟩:=I j U;exact⟨e,by dsimp only;rw[A1z,if_neg oV];exact R,h2.mono l8⟩,⟨f8,by dsimp only;rw[A1z,if_pos rfl,if_pos oV],k8⟩,Q3.mono oV,ae⟩ ?_
  clear I T ae H;rintro J2 ⟨k,a0⟩ af ba b8 aa ⟨hk,K,L,W,a9,E⟩;simp only at hk K L W a9 E af;have Z:=(l7.trans l8).trans aa;obtain⟨fq,ai,aj⟩:=W;by_cases V:k<n
  ·refine G.lT k n ?_;have ak:k<b.length:=oV;have a8:k<X[i].length:=oV;have b7:(X[i].map Ae)[k]?=some (Ae X[i][k]):=by rw[A1a,A01 a8];rfl
   have aw:en X i k=X[i][k]:=by unfold en;rw[Ch a6,Cu a8]
   obtain⟨b2,o2,rfl,e2⟩:=Ac.at' (Ac.mono Y (l8.trans aa)) (j:=k) (e:=zS (Ae (en X i k))) (by rw[aw];simp[Cc,a8]);obtain⟨b3,o3,f3,rfl,e3,k3⟩:=(k5.mono Z).cellG (j:=k) oV;have s1:=(ag i k m V).sz;have az:=a4 _ (A09 ak);have s2:Sz (gR b k) 400:=by rw[Cu ak];exact az.sz
   have sm:=Fx s1 s2;refine G.N n c2 V e2<|G.O n n m (E.el ai)<|G.N n c5 V e3<|G.c call133 (Gs (ag i k m V)) ?_;intro bf bb ab al;obtain⟨b4,rfl⟩:=al.opF;refine G.c call130 (Ga al (k3.mono ab) (s1.mono oV) (s2.mono oV)) ?_;intro bg bd ao am;obtain⟨b5,rfl⟩:=am.opF;refine G.c call129 (Lq (aj.mono (ab.trans ao)) am (a9.mono oV) (sm.mono oV)) ?_;intro bh be b0 an;obtain⟨a1,rfl⟩:=an.opF;refine G.a go 0 n n i 4 m<|G.storeA 4 PH.mt a0 go n n i (fv a1) kV E oV rfl rfl ?_;intro b9 ad;have Q:=(ab.trans ao).trans b0;refine G.i k<|G.b (af (k+1,a0.set i (fv a1)) _ _ _ cV (aa.trans Q) ⟨dV,by dsimp only;rw[A21];exact K,?_,?_,?_,ad⟩ dV)
   ·intro j U;obtain⟨e,R,h2⟩:=L j U;exact⟨e,by dsimp only;rw[A1z,if_neg oV];exact R,h2.mono Q⟩
   ·exact⟨a1,by dsimp only;rw[A1z,if_pos rfl,if_pos oV],by dsimp only;rw[Ds];exact an⟩
   dsimp only;rw[Ds];exact (R5 a9 sm).mono oV
  obtain rfl:k=n:=oV;refine G.lF k k<|G.i i<|G.b (hJ (i+1,a0) _ _ _ cV Z ⟨dV,K,?_,E⟩ dV);intro j U;dsimp only at U⊢;by_cases ax:j=i
  ·subst ax;rw[Bfo m];exact⟨_,ai,aj⟩
  exact L j oV
 obtain rfl:i=n:=oV;refine G.lF i i<|G.give PH.mt es1 _ kV T (fun _=>.inl rfl) ?_;intro u8 l8 au;have ar:F6 u8 (zG go i i) (Be7 i X b):=by
  refine⟨es1,au,by rw[H,Pw],fun j q U=>?_⟩;obtain⟨a7,e⟩:=A05.1 U;obtain⟨x1,R,h2⟩:=I j (by rw[Pw]at a7;exact a7);refine⟨x1,R,?_⟩;rw[<-e,<-Cu a7];exact h2.mono l8
 refine G.c call165 (Bfj (ht.mono ((aq.trans l7).trans l8)) ar hT (by rw[Pw];omega)) ?_;rintro v9 u9 l9 ⟨lv,rfl,hS⟩;obtain⟨la,lc,rfl⟩:=Ac.opn hS;exact G.r (.tuple #[.slice la (Cc ((Be7 i X b).map Ae)).length lc,zO]) ⟨rfl,_,rfl,hS⟩
end
section
variable {u:PH} {sv:Value} {F:List Al} {P:List Par} {X:zM} {b:zR} {s c q:Rat} {C:CF}
def Bft (V:Hx u)(R:Ma u sv P X b s c q)(L:H9 P C q X b s c)(hp:Td F P q)(J:Ug P C) :
 zF 40 [sv] u fun r Z=>∃ I,r=.tuple #[I,zO]/\Bgj Z I P (Be7 (P.length+1) X b):=by
 have t:=L.okF hp J;have e:=L.mods hp J;have U:=hp.le;obtain⟨pa,pc,xa,xc,ra,rc,rfl,E,T,Q⟩:=id R;have H:=Bfz V T t.sq t.n Q t.bn t.bt e;refine Fn0.o func40<|G.c call93 H ?_;rintro v1 u1 Y ⟨lv,rfl,K⟩;obtain⟨la,lc,rfl⟩:=Ac.opn K;have j:=Pw (P.length+1) X b;generalize Be7 (P.length+1) X b=ms at *
 refine G.nF 0 0 ?_;cases ms with
 |nil=>simp at j
 |cons m0 rs =>
  have h:rs.length=P.length:=by simpa using j
  refine G.c call94 (Bf0 (E.mono Y) K hp.srt h oV (e m0 mV) (fun x W=>e x (by simp[W]))) ?_;rintro v2 u2 l2 ⟨I,rfl,m⟩;obtain⟨ma,mc,rfl,_⟩:=id m.val;exact G.r (.tuple #[.agg #[zS (Ae m0),.slice ma (P.zip rs).length mc],zO]) ⟨rfl,_,rfl,m0,rs,rfl,m⟩
end
end
def Bfs {u:PH}{v j:Value}{m0:Rat}{M:List (Par×Rat)}(h:Bfe u v m0 M)(m:Bfe u j m0 M)(C:M.length<=1000000) :
 zF 42 [v,j] u fun r _=>r=zT:=by
 obtain⟨a,c,rfl,t⟩:=h.val;obtain⟨E,F,rfl,e⟩:=m.val;refine Fn0.o func42<|G.q (Ae m0) (Ae m0) rfl<|G.c call97 (Bfp t e C) ?_;rintro J I H rfl;exact G.z zT
def Bfb {P:List Par}{k:Nat}{e:Int}(h:k=0/\e=12\/e=3/\k≠0/\11<P.length):e≠6:=by
 rcases h with ⟨_,rfl⟩|⟨rfl,_⟩<;>decide
def Bf8 {u:PH}{v:Value}{ts:List Int}(ht:Hx u)(hv:Ac u v 1 (Fc ts))(cd:∀ t∈ts,-9223372036854775808<=t)(c7:∀ t∈ts,t<=9223372036854775807) :
 zF 7 [v] u fun v' _=>v'=zT:=by
 obtain⟨a,c,rfl⟩:=hv.opn;rw[Cq]at hv⊢;refine Fn0.o func7 ?_;by_cases ct:400<ts.length
 ·refine G.gT ts.length 400<|G.c call8 (Ahv ht) ?_;rintro v1 u1 l1 rfl;exact G.z zT
 refine G.gF ts.length 400<|G.callO _ _ kV call9 (As9 hv oV cd c7) ?_;rintro v1 u1 m1 l1 ⟨s,rfl,rfl,hs⟩ _;rw[By];refine G.A call10 (Aul hs (A1t _)) ?_;rintro v2 u2 m2 l2 ⟨T,R,F,lab,L,xv,lv,k2,rfl,w,ca,rfl⟩ _;rw[By];have V:=ht.mono (l1.trans l2);have cz:=w.l6;have hT:=w.wok.tup;have bg:∀ y∈L,Bw T y.1/\1<=y.2.1:=fun y E=>by
  obtain⟨_,q1,q2,_⟩:=w.wok y E;exact⟨q1,q2⟩
 obtain⟨l,rfl⟩:∃ l:Nat,lab=(l:Int):=⟨lab.toNat,by have:=w.lab0;omega⟩;obtain⟨xa,xc,xb,xd,xe,xf,rfl,_⟩:=id w.sch;refine G.A call35 (Ajh (most:=3) (hs.mono l2) ca w.sch w.ok oV) ?_;rintro v3 u3 m3 l3 ⟨I,k3,ae,cy,ah,bs,cb,rfl⟩ _;rw[By];have J:=w.rows.mono l3;obtain⟨lb,ld,rfl⟩:=ae.opn;rw[A03]at ae⊢;obtain⟨la,lc,rfl⟩:=J.opn;rw[A03]at J⊢;have an:∀ y∈I,Bw T y.1/\y.2.1<=7:=fun y E=>by
  obtain⟨_,q1,_,q2⟩:=ah y E;exact⟨q1,q2⟩
 have aa:∀ y∈L++I,Bw T y.1/\y.2.1<=7:=fun y E=>(A1h.1 E).elim (hT y) (an y);have bh:∀ y∈L++I,Bw T y.1/\1<=y.2.1:=fun y E=>(A1h.1 E).elim (bg y) fun h=>by
  obtain⟨_,q1,q2,_⟩:=ah y h;exact⟨q1,q2⟩
 refine G.A call12 (Afm (hs.mono (l2.trans l3)) cb) ?_;rintro v9 u9 m9 l9 ⟨q,k9,rfl,hq,cx,rfl⟩ _;rw[By];refine G.drop PH.mt kV (fun g o ho=>by cases ho) ?_;have b9:=l3.trans l9;refine G.c call11 (Ld (w.sch.mono b9) (w.ok.mono b9) w.t8 (J.mono l9) (w.wok.mono b9) oV) ?_;rintro v4 u4 l4 ⟨x4,rfl,k4⟩;have al:=l9.trans l4;have a7:=l3.trans al;obtain⟨P,hP⟩:=A0s k4 w.ok.feat;have bk:P.length<=24:=by
  have:=Atb w.ok.feat (fun y E=>(hT y E).1) w.w9.c9 hP;have:=w.f4;omega
 obtain⟨k,be⟩:=Ajm (w.sch.mono a7) (w.ok.mono a7) w.t8 hT oV k4 oV hP bk w.lab0;have bx:=L0 w.ok w.ok.l1 (Iz w.ok) hT;have bl:=fun z=>Af3 (L:=L) w.ok.feat w.ok.l1 (Iz w.ok) z P fun y E=>(hT y E).1;obtain⟨a1,n1,c1,a2,n2,c2,rfl⟩:=id k4.opn;refine G.appendL 53 2 32 (.agg #[zN,zO]) PH.mt [] (L.map F3) zN la L.length lc kV rfl rfl oV (Af.nil _ _ _) (J.mono al) (Asa L) gV gV ?_;intro v5 m5 av;rw[A3q]at av;obtain⟨a5,c5,rfl⟩:=av.shape;refine G.appendL 53 2 32 (.agg #[zN,zO]) PH.mt (L.map F3) (I.map F3) (.slice a5 (L.map F3).length c5) lb I.length ld kV rfl rfl oV av (ae.mono al) (Asa I) gV gV ?_;intro v6 m6 ac;rw[<-A1i]at ac;obtain⟨a6,c6,rfl⟩:=ac.shape;have cc:((L++I).map F3).length=(L++I).length:=A03 ..;rw[cc]at ac⊢;have d0:(L++I).length<=9:=by rw[A1d];omega
 have bw:WOK u4 T (L++I):=fun y E=>(A1h.1 E).elim (fun h=>(w.wok.mono a7) y h) fun h=>(ah.mono al) y h;refine G.callJ (R:=fun r u'=>Azl u' r (Cf F (l:Int) (L++I)) (255*(L++I).length)) _ _ kV call11 (fun hu hm=>Ld (w.sch.mono (a7.trans hu)) (w.ok.mono (a7.trans hu)) w.t8 (ac.list hm) (bw.mono hu) oV) ?_;rintro v7 u7 l7 ⟨x7,rfl,k7⟩;obtain⟨p1,o1,d1,p2,o2,d2,rfl⟩:=id k7.opn;refine G.giveP (ma:=m6) (sm:=PH.mt) kV (Ari m6).symm (fun g=>.inr rfl) (fun g=>.inl rfl) ?_;intro u8 l8 ce;have k8:=k7.mono (PH.or_le ce l8);have ba:=l7.trans l8;have b8:=a7.trans ba;obtain⟨P',Z⟩:=A0s k8 w.ok.feat;have b0:P'.length<=24:=by
  have:=Atb w.ok.feat (fun y E=>(aa y E).1) (fun y E=>(A1h.1 E).elim (w.w9.c9 y) (bs.c9 y)) Z;have:=w.f4;omega
 obtain⟨k',a8⟩:=Ajm (w.sch.mono b8) (w.ok.mono b8) w.t8 aa oV k8 oV Z b0 w.lab0;have ao:=L0 w.ok w.ok.l1 (Iz w.ok) aa;have b2:=fun z=>Af3 (L:=L++I) w.ok.feat w.ok.l1 (Iz w.ok) z P' fun y E=>(aa y E).1;have m:=be.mono ba;refine G.c call37 (Aif m.sch m.ok m.cof m.sC m.vC m.K m.bel) ?_;intro df d7 bn b1;obtain⟨ps,P1,rfl,af,_,bu⟩:=b1.resolve_left fun⟨_,I,h1,a9⟩=>by have:=congrArg List.length (hP.eq a9);omega
 cases hP.eq bu;obtain⟨ea,ec,rfl⟩:=af.opn;rw[show (P.map Ap).length=P.length from A03 ..]at af⊢;have j:=a8.mono bn;refine G.c call37 (Aif j.sch j.ok j.cof j.sC j.vC j.K j.bel) ?_;intro dg d8 b5 b1;obtain⟨ps,P2,rfl,ag,_,a9⟩:=b1.resolve_left fun⟨_,I,h1,a9⟩=>by have:=congrArg List.length (Z.eq a9);omega
 cases Z.eq a9;obtain⟨qa,qc,rfl⟩:=ag.opn;rw[show (P'.map Ap).length=P'.length from A03 ..]at ag⊢;have Y:=bn.trans b5;have ab:=b8.trans Y;refine G.c call13 (Aaz (V.mono ab) (m.mono Y) hq bx oV bl) ?_;intro cp cl Q hO;have ax:∃ (e:Int) (y:Value),cp=.tuple #[y,zI e]/\e≠6/\(∃ z1 z2 z3 z4 z5 z6 z7 z8 z9 t1 t2 t3,y=.agg #[.slice z1 z2 z3,.slice z4 z5 z6,.slice z7 z8 z9,.string t1,.string t2,.string t3])/\(e≠0\/e=0/\k≠0/\P.length<=11/\∃ X b s0 c0,Ma cl y P X b s0 c0 q/\H9 P (Cf F (l:Int) L) q X b s0 c0):=by
  rcases hO with ⟨e,he,rfl⟩|⟨h0,au,sv,X,b,s0,c0,rfl,kS,kN⟩
  ·exact⟨e,Axc,rfl,Bfb he,⟨_,_,_,_,_,_,_,_,_,_,_,_,rfl⟩,.inl (Anp he)⟩
  refine⟨0,sv,rfl,fV,?_,.inr ⟨rfl,h0,au,X,b,s0,c0,kS,kN⟩⟩;obtain⟨_,_,_,_,_,_,rfl,_⟩:=kS;exact⟨_,_,_,_,_,_,_,_,_,_,_,_,rfl⟩
 obtain⟨e,yv,rfl,c3,⟨z1,z2,z3,z4,z5,z6,z7,z8,z9,t1,t2,t3,rfl⟩,hO⟩:=ax;refine G.c call13 (Aaz (V.mono (ab.trans Q)) (a8.mono (Y.trans Q)) hq ao oV b2) ?_;intro cq cm W aw;have ax:∃ (e:Int) (y:Value),cq=.tuple #[y,zI e]/\e≠6/\(∃ z1 z2 z3 z4 z5 z6 z7 z8 z9 t1 t2 t3,y=.agg #[.slice z1 z2 z3,.slice z4 z5 z6,.slice z7 z8 z9,.string t1,.string t2,.string t3])/\(e≠0\/e=0/\k'≠0/\P'.length<=11/\∃ X b s0 c0,Ma cm y P' X b s0 c0 q/\H9 P' (Cf F (l:Int) (L++I)) q X b s0 c0):=by
  rcases aw with ⟨e,he,rfl⟩|⟨h0,au,sv,X,b,s0,c0,rfl,kS,kN⟩
  ·exact⟨e,Axc,rfl,Bfb he,⟨_,_,_,_,_,_,_,_,_,_,_,_,rfl⟩,.inl (Anp he)⟩
  refine⟨0,sv,rfl,fV,?_,.inr ⟨rfl,h0,au,X,b,s0,c0,kS,kN⟩⟩;obtain⟨_,_,_,_,_,_,rfl,_⟩:=kS;exact⟨_,_,_,_,_,_,_,_,_,_,_,_,rfl⟩
 obtain⟨e',dm,rfl,ap,⟨y1,y2,y3,y4,y5,y6,y7,y8,y9,s1,s2,s3,rfl⟩,aw⟩:=ax;have H:=(ab.trans Q).trans W;have b3:=Ahv (V.mono H);rcases hO with bz|⟨rfl,c8,bf,X,b,s0,c0,kS,kN⟩
 ·refine G.nT' e 0 bz<|G.nT' e 6 c3<|G.nT' e' 6 ap<|G.c call8 b3 ?_;rintro bd bb C rfl;exact G.z zT
 refine G.nF 0 0 ?_;rcases aw with bi|⟨rfl,cu,ay,X',b',d6,cv,cj,bm⟩
 ·refine G.nT' e' 0 bi<|G.nT 0 6<|G.nT' e' 6 ap<|G.c call8 b3 ?_;rintro bd bb C rfl;exact G.z zT
 refine G.nF 0 0 ?_;by_cases cw:5<P.length
 ·refine G.gT P.length 5<|G.c call8 b3 ?_;rintro bd bb C rfl;exact G.z zT
 refine G.gF P.length 5 ?_;have ai:0<(Cf F (l:Int) L).c:=by
  rw[be.mom.c]
  exact_mod_cast Nat.pos_of_ne_zero c8
 have hp:Td F P q:=Al6 hP hq bf;have aj:Td F P' q:=Al6 Z hq ay;have ch:=Axy w.ok bg w.f0 (by intro e;rw[e]at ai;exact absurd ai jV) hP;have bt:∀ n,n<=I.length->Ug P (Oo F (l:Int) (Cf F (l:Int) L) (I.take n)):=fun n hn=>by
  rw[Ano];exact Apu w.ok (fun y E=>(A1h.1 E).elim (hT y) fun h=>an y (A27 h)) (by rw[A1d,A1e];omega) ai
 have ad:Ug P' (Cf F (l:Int) (L++I)):=Apu w.ok aa oV ai;have ar:=(l4.trans ba).trans ((Y.trans Q).trans W);refine G.c call34 (Bf2 (V.mono H) (w.sch.mono H) (w.ok.mono H) (ae.mono (l9.trans ar)) (ah.mono (l9.trans ar)) (kS.mono W) kN hp ch bt oV oV) ?_;rintro bd bb C (⟨hcs,sv4,X4,b4,s4,c4,rfl,kS4,kN4⟩|⟨⟨y,E,hcy⟩,rfl⟩)
 ·have az:P'=P:=Z.eq (Bf4 w.ok bh hcs hP);subst az;rw[Ano]at kN4;obtain⟨f1,f2,f3,f4,f5,f6,rfl,_⟩:=id kS4;have a0:=((b5.trans Q).trans W).trans C;refine G.c call38 (Ad9 (af.mono a0) (ag.mono ((Q.trans W).trans C)) oV oV) ?_;rintro cr cn a4 rfl;rw[decide_eq_true rfl];have bq:=(H.trans C).trans a4;refine G.c call40 (Bft (V.mono bq) (kS4.mono a4) kN4 aj ad) ?_;rintro cs co b7 ⟨mv,rfl,cg⟩;have d3:=Pw (P'.length+1) X4 b4;obtain⟨eX,eb,_,_⟩:=kN4.uniq bm;obtain⟨m0,rs,br,bj⟩:=id cg;obtain⟨ma,mc,rfl,_⟩:=id bj.val;have b6:=(C.trans a4).trans b7;refine G.c call41 (Bfn (a8.mono (((Y.trans Q).trans W).trans b6)) ao oV aj ad kN4) ?_;rintro dh d9 bo ⟨nv,rfl,ci⟩;obtain⟨m1,d5,am,aq⟩:=id ci;rw[br]at am;cases am;obtain⟨na,nc,rfl,_⟩:=id aq.val;have U:=(a4.trans b7).trans bo;refine G.eT' 0 0 rfl<|G.c call20 (T9 (kS4.mono U) (cj.mono (C.trans U)) kN4 bm aj ad) ?_;rintro di da ak rfl;refine G.eT' 0 0 rfl<|G.eT' 0 0 rfl<|G.c call42 (Bfs (bj.mono (bo.trans ak)) (aq.mono ak) (by rw[Bgl];omega)) ?_;rintro dj db bp rfl;have a3:=((H.trans (C.trans U)).trans ak).trans bp;refine G.c call43 (Anl (V.mono a3) (w.sch.mono a3) (w.ok.mono a3) (kS4.mono ((U.trans ak).trans bp)) kN4 aj ad oV) ?_;rintro dk dc ck rfl;refine G.c call8 (Ahv (V.mono (a3.trans ck))) ?_;rintro dl dd d4 rfl;exact G.z zT
 have az:P≠P':=fun e=>hcy (by
  subst e;exact Ala w.ok bh Z (A6v _ E))
 have a0:=((b5.trans Q).trans W).trans C;refine G.c call38 (Ad9 (af.mono a0) (ag.mono ((Q.trans W).trans C)) oV oV) ?_;rintro cr cn a4 rfl;rw[decide_eq_false az];refine G.eT' 16 16 rfl<|G.c call8 (Ahv (V.mono ((H.trans C).trans a4))) ?_;rintro cs co b7 rfl;exact G.z zT
end Go.Proofs.YtemmheaocgmebaaGreatDoor
section
namespace Go.Proofs.YtemmheaocgmebaaGreatDoor.refreshsteps
open Go.ChangeShapes Go.WideShapes Go.ChangeAt Go.RowKit
theorem j0:(Rows.refreshStepsRow.wf (OpenSpec.ofChange (OpenSpec.ofChange Rows.refreshStepsSpec).bare)&&laidOutB Tryz.pinned.checked.prog&&mapsRowed Tryz.pinned.checked.prog&&Tryz.f7.params.all (Tryz.pinned.checked.prog.readableRec ·)&&namedTie Tryz.pinned.checked.prog Rows.refreshStepsRow.named (OpenSpec.ofChange Rows.refreshStepsSpec).bare.vars&&(Rows.refreshStepsRow.stops == [])&&(Tryz.pinned.checked.prog.stops == [])&&(Rows.refreshStepsRow.knobs == [])&&(Tryz.pinned.checked.prog.stopKnobs == []))=true:=by kernel_rfl
theorem j1:(Rows.refreshStepsRow.inPlace==Tryz.pinned.checked.prog.inPlace 7)=true:=by kernel_rfl
theorem j2:(Rows.refreshStepsRow.unfollowed==Tryz.pinned.checked.prog.unfollowed 7)=true:=by kernel_rfl
theorem j3:(Rows.refreshStepsRow.recurses==Tryz.pinned.checked.prog.recurses 7)=true:=by kernel_rfl
theorem j4:(Rows.refreshStepsRow.named==Tryz.pinned.checked.prog.varsNamed 7)=true:=by kernel_rfl
theorem j5:Tryz.pinned.checked.prog.mayEnter=true:=by kernel_rfl
theorem closed:joinedFacts Tryz.pinned.checked.prog 7 Tryz.f7 (OpenSpec.ofChange Rows.refreshStepsSpec).bare Rows.refreshStepsRow=true:=by
 unfold joinedFacts;rw[j0,j1,j2,j3,j4,j5]
 kernel_rfl
end Go.Proofs.YtemmheaocgmebaaGreatDoor.refreshsteps
end
namespace Go.Proofs.YtemmheaocgmebaaGreatDoor
open Go.Proofs.Tryz
open Go.RowKit Go.MapKept
end Go.Proofs.YtemmheaocgmebaaGreatDoor
