/- Parts of one proof, joined by a program. -/
import Derived.Test.YtijchbjkdllolaaGreatDoorP14
set_option linter.defProp false
set_option linter.unusedVariables false
set_option linter.unusedSimpArgs false
set_option linter.unusedSectionVars false
set_option maxHeartbeats 16000000
namespace Go.Proofs.YtijchbjkdllolaaGreatDoor
open Go.Proofs.Tryz
open Go.RowKit Go.MapKept
section
section
variable {P:List Par} {C:CF} {b:Option Par->Rat}
def sqI (b:Option Par->Rat)(C:CF)(e:Option Par)(l:List (Option Par)):Rat:=Ao (fun f=>b e*b f*Ar C e f) l
def sqT (b:Option Par->Rat)(P:List Par)(C:CF)(i:Nat):Rat:=C.t (A2 B7 B7)+Ao (fun e=>sqI b C e (Ah P)-b e*Au C e*2) ((Ah P).take i)
def Bcz {i:Nat}{e:Option Par}(h:(Ah P)[i]?=some e):sqT b P C (i+1)=sqT b P C i-b e*Au C e*2+sqI b C e (Ah P):=by
 unfold sqT;rw[Da h,Fs];grind
def Bc7:sqT b P C (P.length+1)=sqC b P C:=by
 have h:∀ e∈Ah P,sqI b C e (Ah P)-b e*Au C e*2=Ao (fun f=>b e*Ar C e f*b f) (Ah P)+(-2)*(b e*Au C e):=fun e _=>by
  unfold sqI;rw[A7 (g:=fun f=>b e*Ar C e f*b f) fun f _=>by grind];grind
 unfold sqT sqC Ba9;rw[<-Bk P,Azj,A7 h,Ea,Dp];grind
def Bco (g:∀ e,Sz (b e) 400)(h:∀ e f,Sz (Ar C e f) 400)(e:Option Par){l:List (Option Par)}(j:l.length<=12):Sz (sqI b C e l) 15000 :=
 (P7 (s:=1200) (k:=12) (Kr fun f _=>Di (Di (g e) (g f)) (h e f)) j).mono oV
def Bb8:Sz (2:Rat) 1:=Awi (z:=2) fV
def Bdo (g:∀ e,Sz (b e) 400)(j:∀ e f,Sz (Ar C e f) 400)(m:∀ e,Sz (Au C e) 400)(n:Sz (C.t (A2 B7 B7)) 400)(h:P.length<=11)(i:Nat):Sz (sqT b P C i) 300000 :=
 (Gy n (P7 (s:=15802) (k:=12) (Kr fun e _=>(Uh (Bco g j e (by rw[Bk];omega)) (Di (Di (g e) (m e)) Bb8)).mono oV) (by rw[Ay1,Bk];omega))).mono oV
end
section
variable {u:PH} {v cv mv:Value} {T:List (List UInt8×Nat)} {R:List Bu} {F:List Am} {lab:Int} {C:CF} {K k:Nat} {P:List Par} {q m0:Rat} {M:List (Par×Rat)} {b:Option Par->Rat}
def Bbx {pv:Value}{xa ra fa:Option Addr}{xc rc fc:Nat}{es:List Value}(hp:∃ a n c,pv=.slice a n c)(hM:J9 u (.slice xa (P.length+1) xc) (K6 (Ud C P)))(hR:Dc u (.slice ra (P.length+1) rc) (((Ah P).map (Au C)).map Ae))
 (hx:Ac u (.slice fa (P.length+1) fc) 4 es) (am:AtP QP u es ((Ah P).map b)) (hC:Nu u cv C K) (hK:K<=1000000) (O:∀ e,Sz (b e) 400) (hc:∀ e f,Tx (Ar C e f)) (hr:∀ e,Tx (Au C e)) (ht:Tx (C.t (A2 B7 B7))) (aj:P.length<=11) :
 Fn0 prog 158 [.agg #[pv,.slice xa (P.length+1) xc,.slice ra (P.length+1) rc],cv,.slice fa (P.length+1) fc] u fun r m=>QP m r (sqC b P C):=by
 obtain⟨pa,pn,pc,rfl⟩:=hp;obtain⟨a1,n1,c1,a2,n2,c2,rfl⟩:=id hC.opn;have al:=fun (m:PH) (l:PH.le u m)=>Bbk B7 B7 (hC.mono l) hK;have ak:=Bk P;have aa:=Bdo O (fun e f=>(hc e f).sz) (fun e=>(hr e).sz) ht.sz aj;have hA:=Wo C P;have V:∀ (m:PH) (l:PH.le u m) i e,(Ah P)[i]?=some e->∃ E of f,fa=some ⟨E,of,none⟩/\ElP m E (of+i*4) (qv f)/\QP m (qv f) (b e):=fun m l i e H=>by
  obtain⟨x,h1,h2⟩:=am.2 i (b e) (by rw[Ayy,H];rfl);obtain⟨f,rfl⟩:=h2.opQ;obtain⟨E,of,e1,e2⟩:=Ac.at' (hx.mono l) h1;exact⟨E,of,f,e1,e2,h2.mono l⟩
 have ag:∀ (m:PH) (l:PH.le u m) i k e f,(Ah P)[i]?=some e->(Ah P)[k]?=some f->∃ Q o1 U o2 c2,xa=some ⟨Q,o1,none⟩/\ElP m Q (o1+i*1) (.slice (some ⟨U,o2,none⟩) (P.length+1) c2)/\ElP m U (o2+k*1) (.string (mkS (Ae (Ar C e f)))):=fun m l i k e f H hf=>by
  have hi:=(Ayu.1 H).1;have hk:=(Ayu.1 hf).1;have X:i<(Ud C P).length:=by rw[hA.1];omega
  have a8:(Ud C P)[i].length=P.length+1:=by have:=hA.2 i oV;rwa[Jx X]at this
  obtain⟨Q,o1,U,o2,c2,e0,e1,e2⟩:=(hM.mono l).cell X (j:=k) oV;rw[a8]at e1;have ec:(Ud C P)[i][k]=Ar C e f:=by
   have h:=Aj8 C P (i:=i) (j:=k) oV oV;unfold en at h;rw[Jx X,M3 oV,Ays,Ays,H,hf]at h;exact h
  rw[ec]at e2;exact⟨Q,o1,U,o2,c2,e0,e1,e2⟩
 refine Fn0.o func158<|G.c call213 (al u (PH.le_refl _)) ?_;rintro v1 u1 l1 rfl;refine G.c call19 (F0 ht) ?_;intro v2 u2 l2 k2;obtain⟨y2,rfl,k2⟩:=k2.fv6;have ap:=l1.trans l2;refine G.l (ι:=Nat×FV) (fun i=>[(2,sV fa (P.length+1) fc),(3,.p 0 0),(6,.p 2 0),(8,.p 2005 0),(17,sV fa (P.length+1) fc),(18,iV (P.length+1:Nat)),(19,iV i.1)])
  (fun i=>[(0,⟨88,[sV pa pn pc,sV xa (P.length+1) xc,sV ra (P.length+1) rc]⟩),(2,⟨52,[bV false,sV none 0 0,bV false,sV none 0 0]⟩),(2005,⟨52,[bV i.2.1,sV i.2.2.1.1 i.2.2.1.2.1 i.2.2.1.2.2,bV false,sV i.2.2.2.1 i.2.2.2.2.1 i.2.2.2.2.2]⟩)])
  (fun i m m'=>i.1<=P.length+1/\QP m (fvV i.2) (sqT b P C i.1)/\m'=PH.mt) (fun i=>P.length+1-i.1) (0,y2)
  ⟨Azh _,by show QP _ _ (C.t (A2 B7 B7)+0);rw[show C.t (A2 B7 B7)+0=C.t (A2 B7 B7) by grind];exact k2,rfl⟩ ?_
 rintro J ⟨i,z⟩ hJ u3 m3 l3 ⟨hi,hz,rfl⟩;simp only at hi hz hJ;have a4:=ap.trans l3;by_cases I:i<P.length+1
 ·refine G.lT i (P.length+1:Nat) ?_;obtain⟨e,H⟩:∃ e,(Ah P)[i]?=some e:=⟨_,Ayr oV⟩;obtain⟨E,of,f,rfl,ef,kf⟩:=V u3 a4 i e H;refine G.a E of (P.length+1) fc i 4 I<|G.lU (some 4) E (of+i*4) (qv f) ef ?_;obtain⟨rb,ro,rfl,er⟩:=Ac.at' (hR.mono a4) (j:=i) (e:=.string (mkS (Ae (Au C e)))) (by simp[D6,H]);refine G.a rb ro (P.length+1) rc i 1 I<|G.lU none rb (ro+i*1) (.string (mkS (Ae (Au C e)))) er<|G.c call19 (F0 (hr e)) ?_;intro v4 u4 l4 k4;obtain⟨y4,rfl,k4⟩:=k4.fv6;refine G.c call22 (E2 (kf.mono l4) k4 ((O e).mono oV) ((hr e).sz.mono oV)) ?_;intro v5 u5 l5 k5;obtain⟨y5,rfl,k5⟩:=k5.fv6;refine G.c call15 (Sp (z:=2) oV oV) ?_;intro v6 u6 l6 k6;obtain⟨y6,rfl,k6⟩:=k6.fv6;rw[show ((2:Int):Rat)=2 from by decide +kernel]at k6;have s5:=Di (O e) (hr e).sz;refine G.c call22 (E2 (k5.mono l6) k6 (s5.mono oV) (Bb8.mono oV)) ?_;intro v7 u7 l7 k7;obtain⟨y7,rfl,k7⟩:=k7.fv6;have s7:=Di s5 Bb8;have ac:=((l4.trans l5).trans l6).trans l7;refine G.c call20 (Aie (hz.mono ac) k7 ((aa i).mono oV) (s7.mono oV)) ?_;intro v8 u8 l8 k8;obtain⟨y8,rfl,k8⟩:=k8.fv6;have s8:=Uh (aa i) s7;have ad:=ac.trans l8;obtain⟨W,hW⟩:∃ W,sqT b P C i-b e*Au C e*2=W:=⟨_,rfl⟩;rw[hW]at k8 s8;have a9:=Bcz (b:=b) (C:=C) H;rw[hW]at a9;refine G.l (ι:=Nat×FV) (fun j=>[(2,sV (some ⟨E,of,none⟩) (P.length+1) fc),(3,.p 0 0),(6,.p 2 0),(8,.p 2005 0),(9,iV i),(17,sV (some ⟨E,of,none⟩) (P.length+1) fc),(18,iV (P.length+1:Nat)),(19,iV i),(37,sV (some ⟨E,of,none⟩) (P.length+1) fc),(38,iV (P.length+1:Nat)),(39,iV j.1)])
   (fun j=>[(0,⟨88,[sV pa pn pc,sV xa (P.length+1) xc,sV (some ⟨rb,ro,none⟩) (P.length+1) rc]⟩),(2,⟨52,[bV false,sV none 0 0,bV false,sV none 0 0]⟩),(2005,⟨52,[bV j.2.1,sV j.2.2.1.1 j.2.2.1.2.1 j.2.2.1.2.2,bV false,sV j.2.2.2.1 j.2.2.2.2.1 j.2.2.2.2.2]⟩)])
   (fun j m m'=>j.1<=P.length+1/\QP m (fvV j.2) (W+sqI b C e ((Ah P).take j.1))/\m'=PH.mt) (fun j=>P.length+1-j.1) (0,y8)
   ⟨Azh _,by show QP _ _ (W+0);rw[show W+0=W by grind];exact k8,rfl⟩ ?_
  rintro J2 ⟨j,z2⟩ a6 u9 m9 l9 ⟨hj,L,rfl⟩;simp only at hj L a6;have a5:=(a4.trans ad).trans l9;have s9:=Gy s8 (Bco O (fun e f=>(hc e f).sz) e (l:=(Ah P).take j) (by rw[Ay1];omega));by_cases a7:j<P.length+1
  ·refine G.lT j (P.length+1:Nat) ?_;obtain⟨g,hg⟩:∃ g,(Ah P)[j]?=some g:=⟨_,Ayr oV⟩;have Y:W+sqI b C e ((Ah P).take (j+1))=W+sqI b C e ((Ah P).take j)+b e*b g*Ar C e g:=by
    unfold sqI;rw[Da hg,Fs];grind
   obtain⟨_,_,f',e0,ah,an⟩:=V u9 a5 i e H;cases e0;refine G.a E of (P.length+1) fc i 4 I<|G.lU (some 4) E (of+i*4) (qv f') ah ?_;obtain⟨_,_,f2,e0,ai,ao⟩:=V u9 a5 j g hg;cases e0;refine G.a E of (P.length+1) fc j 4 a7<|G.lU (some 4) E (of+j*4) (qv f2) ai ?_;obtain⟨Q,o1,U,o2,af,rfl,e1,e2⟩:=ag u9 a5 i j e g H hg;refine G.a Q o1 (P.length+1) xc i 1 I<|G.lU none Q (o1+i*1) _ e1<|G.a U o2 (P.length+1) af j 1 a7<|G.lU none U (o2+j*1) _ e2<|G.c call22 (E2 an ao ((O e).mono oV) ((O g).mono oV)) ?_;intro b0 aw aq Z;obtain⟨b6,rfl,Z⟩:=Z.fv6;refine G.c call19 (F0 (hc e g)) ?_;intro b3 ax ab a0;obtain⟨b7,rfl,a0⟩:=a0.fv6;have ae:=Di (O e) (O g);refine G.c call22 (E2 (Z.mono ab) a0 (ae.mono oV) ((hc e g).sz.mono oV)) ?_;intro b4 ay ar a3;obtain⟨b8,rfl,a3⟩:=a3.fv6;have lz:=(aq.trans ab).trans ar;refine G.c call21 (Ks (L.mono lz) a3 (s9.mono oV) ((Di ae (hc e g).sz).mono oV)) ?_;intro b5 az au N;obtain⟨av,rfl,N⟩:=N.fv6;rw[<-Y]at N;exact G.i j<|G.b (a6 (j+1,av) _ _ _ cV (l9.trans (lz.trans au)) ⟨dV,N,rfl⟩ dV)
  obtain rfl:j=P.length+1:=oV
  refine G.lF (P.length+1:Nat) (P.length+1:Nat) ?_;rw[<-ak,Azj,<-a9]at L;exact G.i i<|G.b (hJ (i+1,z2) _ _ _ cV ((l3.trans ad).trans l9) ⟨dV,L,rfl⟩ dV)
 obtain rfl:i=P.length+1:=oV
 refine G.lF (P.length+1:Nat) (P.length+1:Nat) ?_;rw[Bc7]at hz;exact G.r (fvV z) ⟨rfl,hz⟩
end
end
section
section
variable {u:PH} {v cv mv:Value} {T:List (List UInt8×Nat)} {R:List Bu} {F:List Am} {lab:Int} {C:CF} {K k:Nat} {P:List Par} {q m0:Rat} {M:List (Par×Rat)}
def Bbw (h:Bbs u v cv T R F lab C K k P)(hq:G6 q)(h0:k≠0)(I:M5 u mv m0 M)(hm:H7 P m0 M)(ac:P.length<=11) :
 Fn0 prog 157 [v,cv,mv,.string (mkS (Ae q))] u fun r n=>∃ (pa:Option Addr) (pc:Nat) (U:Option Addr) (V:Nat) (O:Option Addr) (Q:Nat) (fa:Option Addr) (fc:Nat) (es:List Value),
  r=.tuple #[.agg #[.slice pa P.length pc,.slice U (P.length+1) V,.slice O (P.length+1) Q],.slice fa (P.length+1) fc,.int .i64 0]/\J9 n (.slice U (P.length+1) V) (K6 (Ud C P))/\Dc n (.slice O (P.length+1) Q) (((Ah P).map (Au C)).map Ae) /\
  Ac n (.slice fa (P.length+1) fc) 4 es/\AtP QP n es ((Ah P).map (cfE m0 M)):=by
 have a7:=(Bb2 h).giveAll;have a0:=fun (n:PH) (l:PH.le u n)=>Bb5 (h.mono l) hq;have a9:=fun (n:PH) (l:PH.le u n)=>Bca (h.sch.mono l) (h.ok.mono l) (I.mono l) hm oV (Aam h.prm h.vC);have hP:=h.prm.1;have H:=Bk P;have a3:=Aqm hm;obtain⟨ad,ae,xb,xd,xe,xf,rfl,_⟩:=id h.sch;obtain⟨a1,n1,c1,a2,n2,c2,rfl⟩:=id h.cof.opn;obtain⟨na,nc,rfl,_⟩:=id I.val;refine Fn0.o func157<|G.c call210 a7 ?_;rintro v1 u1 l1 ⟨u0,m0',a6,X,pa,pc,U,V,O,Q,ab,rfl,hL,L,E⟩;have hM:J9 u1 (.slice U (P.length+1) V) (K6 (Ud C P)):=Ask (v:=.bool true) E L X;obtain⟨mx,Y,_⟩:=E.focus 0 rfl;rw[Om]at Y;have hR:Dc u1 (.slice O (P.length+1) Q) (((Ah P).map (Au C)).map Ae):=by
  unfold Dc;rw[<-Adq];exact Y.list X
 refine G.nF 0 0<|G.c call211 (a0 u1 l1) ?_;rintro v2 u2 l2 rfl;rw[if_neg h0];refine G.nF 0 0<|G.c call32 (Zs (hL.mono (a6.trans l2)) hP oV (I.mono (l1.trans l2)) hm) ?_;rintro v3 u3 l3 ⟨lv,rfl,t⟩;obtain⟨la,lc,rfl⟩:=Ac.opn t;unfold Dc at t;rw[Cr,Ayt,Ayt,H]at t⊢;refine G.c call212 (a9 u3 ((l1.trans l2).trans l3)) ?_;rintro v4 u4 l4 rfl;refine G.nF 0 0<|G.gF (P.length+1:Nat) 12 ?_;have aa:=(l2.trans l3).trans l4;refine G.l (ι:=Nat×(Option Addr×Nat)×List Value) (fun i=>[(8,.p 3 0),(11,.p 1006 0),(15,sV i.2.1.1 i.1 i.2.1.2),(56,sV la (P.length+1) lc),(57,iV (P.length+1:Nat)),(58,iV i.1)])
  (fun _=>[(3,⟨88,[sV none 0 0,sV none 0 0,sV none 0 0]⟩),(1006,⟨88,[sV pa P.length pc,sV U (P.length+1) V,sV O (P.length+1) Q]⟩)])
  (fun i n m'=>i.1<=P.length+1/\AtP QP n i.2.2 (((Ah P).map (cfE m0 M)).take i.1)/\Af PH.mt m' (.slice i.2.1.1 i.1 i.2.1.2) 52 4 i.2.2)
  (fun i=>P.length+1-i.1) (0,(none,0),[]) ⟨Azh _,AtP.nil,Af.nil _ _ _⟩ ?_
 rintro J ⟨i,⟨a,c⟩,es⟩ hJ u5 m5 l5 ⟨hi,m,hA⟩;simp only at hi m hA hJ;have a4:es.length=i:=by rw[m.1,Ay1,Ayt,H];omega
 by_cases a5:i<P.length+1
 ·refine G.lT i (P.length+1:Nat) ?_;obtain⟨e,he⟩:∃ e,(Ah P)[i]?=some e:=⟨_,Ayr oV⟩;obtain⟨lb,lo,rfl,el⟩:=Ac.at' (Ac.mono t (l4.trans l5)) (j:=i) (e:=.string (mkS (Ae (cfE m0 M e)))) (by simp[D6,he]);refine G.a lb lo (P.length+1) lc i 1 a5<|G.lU none lb (lo+i*1) _ el<|G.c call19 (F0 (a3 e)) ?_;intro v6 u6 l6 k6;obtain⟨W,rfl⟩:=k6.opQ;refine G.B 52 4 64 zQ [qv W] (Bcj W) ?_;intro g7 u7 l7 e7;refine G.append 52 4 64 zQ PH.mt es [qv W] (.slice a i c) g7 0 1 1 kV rfl rfl oV hA e7 (Bcj W) rfl oV oV oV ?_;intro v8 m8 N;obtain⟨a8,c8,rfl⟩:=N.shape;have el:(es++[qv W]).length=i+1:=by simp[a4]
  rw[el]at N⊢;refine G.i i<|G.b (hJ (i+1,(a8,c8),es++[qv W]) _ _ _ cV ((l5.trans l6).trans l7) ⟨dV,?_,N⟩ dV);dsimp only;rw[Da (x:=cfE m0 M e) (by rw[Ayy,he];rfl)];exact (m.mono (fun _ _ k=>k.mono (l6.trans l7))).snoc (k6.mono l7)
 obtain rfl:i=P.length+1:=oV
 refine G.lF (P.length+1:Nat) (P.length+1:Nat) ?_;rw[Ay6 (by rw[Ayt,H];omega)]at m;refine G.give PH.mt _ _ kV hA (fun g=>.inl rfl) ?_;intro u6 l6 hS;have Z:=(aa.trans l5).trans l6;exact G.r (.tuple #[.agg #[.slice pa P.length pc,.slice U (P.length+1) V,.slice O (P.length+1) Q],.slice a (P.length+1) c,.int .i64 0]) ⟨rfl,pa,pc,U,V,O,Q,a,c,es,rfl,hM.mono Z,Ac.mono hR Z,hS,m.mono (fun _ _ k=>k.mono l6)⟩
def Bcm (h:Bbs u v cv T R F lab C K k P)(hq:G6 q)(h0:k≠0)(W:M5 u mv m0 M)(hm:H7 P m0 M)(I:P.length<=11)(hc:∀ e f,Tx (Ar C e f))(hr:∀ e,Tx (Au C e))(ht:Tx (C.t (A2 B7 B7)))(hT:Tx (Dk q (cfE m0 M) P C)) :
 Fn0 prog 87 [v,cv,mv,.string (mkS (Ae q))] u fun r _=>r=.tuple #[.string (mkS (Ae (Dk q (cfE m0 M) P C))),.int .i64 0]:=by
 have a5:=Bbw h hq h0 W hm I;have O:=h.cof;have hK:=h.K;have a4:=Aqm hm;have L:∀ e,Sz (cfE m0 M e) 400:=fun e=>(a4 e).sz;have a3:=Bk P;obtain⟨aa,ab,xb,xd,xe,xf,rfl,_⟩:=id h.sch;obtain⟨a1,n1,c1,a2,n2,c2,rfl⟩:=id h.cof.opn;obtain⟨na,nc,rfl,_⟩:=id W.val;refine Fn0.o func87<|G.c call157 a5 ?_;rintro v1 u1 l1 ⟨pa,pc,xa,xc,ra,rc,fa,fc,es,rfl,hM,hR,hx,n⟩;refine G.nF 0 0<|G.c call158 (Bbx (pv:=.slice pa P.length pc) ⟨_,_,_,rfl⟩ hM hR hx n (O.mono l1) oV L hc hr ht I) ?_;intro v2 u2 l2 k2;obtain⟨y2,rfl,k2⟩:=k2.fv6;have H:∀ (E:PH) (l:PH.le u1 E) i e,(Ah P)[i]?=some e->∃ g of f,fa=some ⟨g,of,none⟩/\ElP E g (of+i*4) (qv f)/\QP E (qv f) (cfE m0 M e):=fun E l i e he=>by
  obtain⟨x,h1,h2⟩:=n.2 i (cfE m0 M e) (by rw[Ayy,he];rfl);obtain⟨f,rfl⟩:=h2.opQ;obtain⟨g,of,e1,e2⟩:=Ac.at' (hx.mono l) h1;exact⟨g,of,f,e1,e2,h2.mono l⟩
 obtain⟨g,of,_,rfl,_⟩:=H u1 (PH.le_refl _) 0 none rfl;have Q:es.length=P.length+1:=by rw[n.1,Ayt,a3]
 have N:P.length+1<=fc:=by rw[<-Q];exact hx.cap
 have Y:=h.mom.qok hm;have j:Sz q 1000:=hq.tx.sz.mono oV;generalize cfE m0 M=b at *
 refine G.sliceFromG (some ⟨g,of,none⟩) (P.length+1) fc 1 4 kV oV N ?_;obtain⟨sa,a8,a7⟩:∃ sa:Option Addr,(if fc=1 then some (⟨g,of,none⟩:Addr) else (some (⟨g,of,none⟩:Addr)).map (·.add (1*4)))=sa/\(P.length≠0->sa=some ⟨g,of+1*4,none⟩):=by
  refine⟨_,rfl,fun hn=>?_⟩;rw[if_neg oV];rfl
 rw[a8,show P.length+1-1=P.length from rfl];refine G.l (ι:=Nat×FV) (fun i=>[(3,tV (Ae q)),(13,.p 4004 0),(33,sV sa P.length (fc-1)),(34,iV P.length),(35,iV i.1)])
  (fun i=>[(4004,⟨52,[bV i.2.1,sV i.2.2.1.1 i.2.2.1.2.1 i.2.2.1.2.2,bV false,sV i.2.2.2.1 i.2.2.2.2.1 i.2.2.2.2.2]⟩)])
  (fun i E m'=>i.1<=P.length/\QP E (fvV i.2) (Qq q b P C i.1)/\m'=PH.mt) (fun i=>P.length-i.1) (0,y2)
  ⟨Azh _,by rw[Ahv];exact k2,rfl⟩ ?_
 rintro J ⟨i,f⟩ hJ u4 m4 l4 ⟨hi,hf,rfl⟩;simp only at hi hf hJ;have a6:=Aqt (P:=P) Y oV j i;by_cases V:i<P.length
 ·refine G.lT i P.length ?_;obtain⟨p,X⟩:∃ p,P[i]?=some p:=⟨_,Ayr V⟩;have m:=Agn (q:=q) (b:=b) (C:=C) X;obtain rfl:=a7 oV;obtain⟨_,_,fx,e0,ef,U⟩:=H u4 (l2.trans l4) (i+1) (some p) (by unfold Ah;rw[A2k,Ayy,X];rfl);cases e0;refine G.a g (of+1*4) P.length (fc-1) i 4 V ?_;have a0:ElP u4 g (of+1*4+i*4) (qv fx):=by rw[show of+1*4+i*4=of+(i+1)*4 by omega];exact ef
  refine G.lU (some 4) g (of+1*4+i*4) (qv fx) a0<|G.c call19 (F0 hq.tx) ?_;intro v5 u5 l5 k5;obtain⟨f5,rfl,k5⟩:=k5.fv6;refine G.c call22 (E2 k5 (U.mono l5) (j.mono oV) ((L _).mono oV)) ?_;intro v6 u6 l6 k6;obtain⟨f6,rfl,k6⟩:=k6.fv6;have Z:=Di j (L (some p));refine G.c call22 (E2 k6 (U.mono (l5.trans l6)) (Z.mono oV) ((L _).mono oV)) ?_;intro v7 u7 l7 k7;obtain⟨f7,rfl,k7⟩:=k7.fv6;have a9:=Di Z (L (some p));refine G.c call21 (Ks (hf.mono ((l5.trans l6).trans l7)) k7 (a6.mono oV) (a9.mono oV)) ?_;intro v8 u8 l8 k8;obtain⟨f8,rfl,k8⟩:=k8.fv6;rw[<-m]at k8;exact G.i i<|G.b (hJ (i+1,f8) _ _ _ cV ((((l4.trans l5).trans l6).trans l7).trans l8) ⟨dV,k8,rfl⟩ dV)
 obtain rfl:i=P.length:=oV
 refine G.lF P.length P.length ?_;rw[Alj]at hf;refine G.c call23 (Ln hf hT) ?_;rintro v5 u5 l5 rfl;exact G.r (.tuple #[.string (mkS (Ae (Dk q b P C))),.int .i64 0]) ⟨rfl,rfl⟩
def Bds (e:∀ x∈M,Sz x.2 400)(h:M.length<=60)(i:Nat):Sz (Ao (fun x:Par×Rat=>x.2*x.2) (M.take i)) 1000000 :=
 (P7 (s:=800) (k:=60) (Kr fun x g=>Di (e x (A0o g)) (e x (A0o g))) (by rw[Ay1];omega)).mono oV
def Bbj (X:P.Nodup)(W:M5 u mv m0 M)(N:H7 P m0 M)(hP:P.length<=60) :
 Fn0 prog 38 [mv] u fun r u'=>QP u' r (Eu P (cfE m0 M)):=by
 obtain⟨oa,oc,rfl,V⟩:=id W.val;have E:∀ x∈M,Sz x.2 400:=fun x hx=>(N.t x hx).sz;have a0:=N.len;refine Fn0.o func38<|G.c call15 (Sp (z:=0) oV oV) ?_;intro v1 u1 l1 O;obtain⟨y1,rfl,O⟩:=O.fv6;rw[show ((0:Int):Rat)=0 from rfl]at O;refine G.l (ι:=Nat×FV) (fun i=>[(1,.p 0 0),(2,.p 1 0),(3,.p 1001 0),(9,sV oa M.length oc),(10,iV M.length),(11,iV i.1)])
  (fun i=>[(0,⟨44,[tV (Ae m0),sV oa M.length oc]⟩),(1,⟨52,[bV false,sV none 0 0,bV false,sV none 0 0]⟩),(1001,⟨52,[bV i.2.1,sV i.2.2.1.1 i.2.2.1.2.1 i.2.2.1.2.2,bV false,sV i.2.2.2.1 i.2.2.2.2.1 i.2.2.2.2.2]⟩)])
  (fun i u' m'=>i.1<=M.length/\QP u' (fvV i.2) (Ao (fun x:Par×Rat=>x.2*x.2) (M.take i.1))/\m'=PH.mt) (fun i=>M.length-i.1) (0,y1) ⟨Azh _,O,rfl⟩ ?_
 rintro J ⟨i,z⟩ hJ u2 m2 l2 ⟨hi,L,rfl⟩;simp only at hi L hJ;have Y:=Bds E oV i;by_cases H:i<M.length
 ·refine G.lT i M.length ?_;obtain⟨x,h⟩:∃ x,M[i]?=some x:=⟨_,Ayr H⟩;have I:=N.t x (Ay9 h);have m:=E x (Ay9 h);have n:Ao (fun x:Par×Rat=>x.2*x.2) (M.take (i+1))=Ao (fun x:Par×Rat=>x.2*x.2) (M.take i)+x.2*x.2:=by rw[Da h,Fs]
  obtain⟨ba,ob,rfl,ea⟩:=Ac.at' (V.mono (l1.trans l2)) (j:=i) (e:=As x) (by simp[h]);refine G.a ba ob M.length oc i 3 H<|G.lU (some 3) ba (ob+i*3) (.agg #[.int .i64 x.1.1,.string (mkS x.1.2),.string (mkS (Ae x.2))]) ea<|G.c call18 (D1 I) ?_;rintro v3 u3 l3 rfl;refine G.c call19 (F0 I) ?_;intro v4 u4 l4 Q;obtain⟨y4,rfl,Q⟩:=Q.fv6;refine G.c call22 (E2 Q Q (m.mono oV) (m.mono oV)) ?_;intro v5 u5 l5 Z;obtain⟨y5,rfl,Z⟩:=Z.fv6;have lz:=(l3.trans l4).trans l5;refine G.c call21 (Ks (L.mono lz) Z (Y.mono oV) ((Di m m).mono oV)) ?_;intro v6 u6 l6 U;obtain⟨y6,rfl,U⟩:=U.fv6;rw[<-n]at U;exact G.i i<|G.b (hJ (i+1,y6) _ _ _ cV (l2.trans (lz.trans l6)) ⟨dV,U,rfl⟩ dV)
 obtain rfl:i=M.length:=oV
 refine G.lF M.length M.length ?_;rw[Azj]at L;have e:=Atv X N 1;rw[Rat.one_mul,A7 (g:=fun x:Par×Rat=>x.2*x.2) fun x _=>Rat.mul_one _]at e;rw[<-e]at L;exact G.r (fvV z) ⟨rfl,L⟩
def Bck (h:Bbs u v cv T R F lab C K k P)(h0:k≠0)(g:M5 u mv m0 M)(j:H7 P m0 M)(n:P.length<=11)(Q:∀ e f,Tx (Ar C e f))(U:∀ e,Tx (Au C e))(V:Tx (C.t (A2 B7 B7)))(hT:Tx (Dk 1 (cfE m0 M) P C)) :
 Fn0 prog 40 [v,cv,mv] u fun r N=>QP N r (sqC (cfE m0 M) P C):=by
 have O:=Bcm h Abw h0 g j n Q U V hT;rw[W7]at O;have E:=h.prm.1.nodup Dl;have H:=fun (N:PH) (l:PH.le u N)=>Bbj E (g.mono l) j oV;have I:Sz (Eu P (cfE m0 M)) 1000000:=by
  unfold Eu;exact (P7 (s:=800) (k:=60) (Kr fun p _=>Di (Aqm j (some p)).sz (Aqm j (some p)).sz) oV).mono oV
 obtain⟨Z,a0,xb,xd,xe,xf,rfl,_⟩:=id h.sch;obtain⟨a1,n1,c1,a2,n2,c2,rfl⟩:=id h.cof.opn;obtain⟨na,nc,rfl,_⟩:=id g.val;refine Fn0.o func40<|G.c call87 O ?_;rintro v1 u1 W rfl;refine G.nF 0 0<|G.c call19 (F0 hT) ?_;intro v2 Y l2 J;obtain⟨y2,rfl,J⟩:=J.fv6;refine G.c call38 (H Y (W.trans l2)) ?_;intro v3 u3 X L;obtain⟨y3,rfl,L⟩:=L.fv6;refine G.c call20 (Aie (J.mono X) L (hT.sz.mono oV) (I.mono oV)) ?_;intro v4 u4 l4 m;obtain⟨y4,rfl,m⟩:=m.fv6;rw[show Dk 1 (cfE m0 M) P C-Eu P (cfE m0 M)=sqC (cfE m0 M) P C by unfold Dk;grind]at m;exact G.r (fvV y4) ⟨rfl,m⟩
end
end
section
variable {j:Nat}
def Bba (a:Nat->Nat->Rat):Nat->Nat->Nat->Rat
 |0,i,k=>a i k
 |j+1,i,k=>Bba a j i k-Bba a j i j/Bba a j j j*(Bba a j k j/Bba a j j j)*Bba a j j j
section
variable {n:Nat} {a:Nat->Nat->Rat}
def Bbh (e:∀ i k,i<n->k<n->a i k=a k i):∀ j i k,i<n->k<n->Bba a j i k=Bba a j k i
 |0,i,k,hi,hk=>e i k hi hk
 |j+1,i,k,hi,hk=>by
  have:=Bbh e j i k hi hk;unfold Bba;rw[this];grind
def frm (n:Nat)(S:Nat->Nat->Rat)(x:Nat->Rat):Rat:=Ey n fun i=>x i*Ey n fun k=>S i k*x k
def Bb3 (e:j<n)(c:Rat)(g:Nat->Rat):Ey n (fun k=>(if k=j then c else 0)*g k)=c*g j:=by
 induction n with
 |zero=>omega
 |succ n ih =>
  rw[Hf];by_cases h:j<n
  ·rw[ih h,if_neg oV];grind
  obtain rfl:j=n:=oV;rw[if_pos rfl,Jm (g:=fun _=>(0:Rat)*0) fun k m=>by rw[if_neg oV];grind,Rv];grind
def Bb1 {S:Nat->Nat->Rat}(e:j<n)(t:∀ i k,i<n->k<n->S i k=S k i)(x:Nat->Rat)(c:Rat) :
 frm n S (fun i=>x i+if i=j then c else 0)=frm n S x+2*c*Ey n (fun k=>S j k*x k)+c*c*S j j:=by
 have h:∀ i,i<n->Ey n (fun k=>S i k*(x k+if k=j then c else 0))=Ey n (fun k=>S i k*x k)+c*S i j:=fun i _=>by
  rw[Jm (g:=fun k=>S i k*x k+(if k=j then c else 0)*S i k) fun k _=>by grind,Vf,Bb3 e]
 have m:Ey n (fun i=>x i*S i j)=Ey n fun k=>S j k*x k:=Jm fun i hi=>by rw[t i j hi e];grind
 unfold frm;rw[Jm (g:=fun i=>x i*Ey n (fun k=>S i k*x k)+(c*(x i*S i j)+(if i=j then c else 0)*(Ey n (fun k=>S i k*x k)+c*S i j))) fun i hi=>by rw[h i hi];grind,
  Vf,Vf,Rv,Bb3 e,m]
 grind
def Bcr (t:j<n)(F:∀ i k,i<n->k<n->a i k=a k i)(hp:Bba a j j j≠0)(x:Nat->Rat) :
 frm n (Bba a (j+1)) x=frm n (Bba a j) x-Ey n (fun k=>Bba a j j k*x k)*Ey n (fun k=>Bba a j j k*x k)/Bba a j j j:=by
 obtain⟨p,e⟩:∃ p,Bba a j j j=p:=⟨_,rfl⟩;obtain⟨R,m⟩:∃ R,Ey n (fun k=>Bba a j j k*x k)=R:=⟨_,rfl⟩;have h:=Bbh F j;have u:∀ i,i<n->Ey n (fun k=>Bba a (j+1) i k*x k)=Ey n (fun k=>Bba a j i k*x k)-Bba a j i j/p*R:=fun i hi=>by
  rw[Jm (g:=fun k=>Bba a j i k*x k-Bba a j i j/p*(Bba a j j k*x k)) fun k E=>by
   show (Bba a j i k-Bba a j i j/Bba a j j j*(Bba a j k j/Bba a j j j)*Bba a j j j)*x k=_;rw[h k j E t,e]at *
   grind,Ac4,Rv,m]
 have C:Ey n (fun i=>x i*Bba a j i j)=R:=by rw[<-m];exact Jm fun i hi=>by rw[h i j hi t];grind
 rw[m,e];unfold frm;rw[Jm (g:=fun i=>x i*Ey n (fun k=>Bba a j i k*x k)-R/p*(x i*Bba a j i j)) fun i hi=>by rw[u i hi];grind,Ac4,Rv,C];grind
def Bc3 (u:∀ i k,i<n->k<n->a i k=a k i)(hp:∀ x,(∃ i,i<n/\x i≠0)->0<frm n a x):∀ j,j<=n->∀ x:Nat->Rat,(∀ i,i<j->x i=0)->(∃ i,i<n/\x i≠0)->0<frm n (Bba a j) x
 |0,_,x,_,hx=>hp x hx
 |j+1,hj,x,h0,⟨i,hi,hxi⟩=>by
  have m:j<n:=oV
  have E:=Bc3 u hp j oV;have h:0<Bba a j j j:=by
   have C:=E (fun i=>0+if i=j then 1 else 0) (fun i t=>by rw[if_neg oV];grind) ⟨j,m,by rw[if_pos rfl];decide +kernel⟩;rw[Bb1 m (Bbh u j) (fun _=>0) 1]at C;have F:frm n (Bba a j) (fun _=>0)=0:=by
    unfold frm;rw[Jm (g:=fun _=>(0:Rat)*0) fun i _=>by grind,Rv];grind
   have H:Ey n (fun k=>Bba a j j k*(0:Rat))=0:=by
    rw[Jm (g:=fun _=>(0:Rat)*0) fun i _=>by grind,Rv];grind
   rw[F,H]at C;grind
  rw[Bcr m u (fun e=>by rw[e]at h;exact absurd h jV) x];have t:i≠j:=fun e=>hxi (h0 i oV);have I:=E (fun i=>x i+if i=j then -(Ey n (fun k=>Bba a j j k*x k)/Bba a j j j) else 0) (fun i t=>by rw[if_neg oV,h0 i oV];grind) ⟨i,hi,by rw[if_neg t];grind⟩;rw[Bb1 m (Bbh u j)]at I;generalize Ey n (fun k=>Bba a j j k*x k)=R at *
  generalize Bba a j j j=p at *
  have J:p≠0:=fun e=>by rw[e]at h;exact absurd h jV
  have e:2 * -(R/p)*R + -(R/p) * -(R/p)*p = -(R*R/p):=by grind
  grind
def Bc5 (m:∀ i k,i<n->k<n->a i k=a k i)(hp:∀ x,(∃ i,i<n/\x i≠0)->0<frm n a x)(h:j<n):0<Bba a j j j:=by
 have e:=Bc3 m hp j oV (fun i=>0+if i=j then 1 else 0) (fun i C=>by rw[if_neg oV];grind) ⟨j,h,by rw[if_pos rfl];decide +kernel⟩;rw[Bb1 h (Bbh m j) (fun _=>0) 1]at e;have t:frm n (Bba a j) (fun _=>0)=0:=by
  unfold frm;rw[Jm (g:=fun _=>(0:Rat)*0) fun i _=>by grind,Rv];grind
 have u:Ey n (fun k=>Bba a j j k*(0:Rat))=0:=by
  rw[Jm (g:=fun _=>(0:Rat)*0) fun i _=>by grind,Rv];grind
 rw[t,u]at e;grind
def Bbi (M:Nat->Nat->Int):Nat->Nat->Nat->Int
 |0,i,k=>M i k
 |j+1,i,k=>Bbi M j i k*Bbi M j j j-Bbi M j i j*Bbi M j k j
def Bbp (M:Nat->Nat->Int)(d:Int):Nat->Int
 |0=>d
 |j+1=>Bbp M d j*Bbi M j j j
def Bcc {M:Nat->Nat->Int}{d:Int}(E:d≠0)(C:∀ i k,i<n->k<n->a i k*(d:Rat)=M i k):∀ j,j<=n->(∀ t,t<j->Bba a t t t≠0)->Bbp M d j≠0/\∀ i k,i<n->k<n->Bba a j i k*(Bbp M d j:Rat)=Bbi M j i k
 |0,_,_=>⟨E,C⟩
 |j+1,hj,h0=>by
  obtain⟨u,m⟩:=Bcc E C j oV fun t N=>h0 t oV;have g:=m j j oV oV;have hp:=h0 j oV;have L:(Bbp M d j:Rat)≠0:=fun e=>u (Rat.intCast_inj.1 (by rw[e];rfl));have K:Bbi M j j j≠0:=fun e=>by
   rw[e]at g;rcases A2w.1 g with h|h
   ·exact hp h
   exact L h
  refine⟨A9x u K,fun i k hi F=>?_⟩;have H:=m i k hi F;have I:=m i j hi oV;have J:=m k j F oV;show (Bba a j i k-Bba a j i j/Bba a j j j*(Bba a j k j/Bba a j j j)*Bba a j j j)*((Bbp M d j*Bbi M j j j:Int):Rat)=((Bbi M j i k*Bbi M j j j-Bbi M j i j*Bbi M j k j:Int):Rat);rw[A72,A0v,A0v,A0v,<-H,<-I,<-J,<-g];generalize Bba a j j j=p at *
  generalize (Bbp M d j:Rat)=q at *
  grind
def Bcx {M:Nat->Nat->Int}{d:Int}{K:Nat}(h:nl d.natAbs<=K)(g:∀ i k,i<n->k<n->nl (M i k).natAbs<=K):∀ j,j<=n->nl (Bbp M d j).natAbs<=zs K j/\∀ i k,i<n->k<n->nl (Bbi M j i k).natAbs<=zs K j
 |0,_=>⟨h,g⟩
 |j+1,hj=>by
  obtain⟨t,e⟩:=Bcx h g j oV;refine⟨Ayv (B5 t (e j j oV oV)) (by show _<=2*zs K j+2;omega),fun i k hi m=>?_⟩;exact Ayv (Aby (B5 (e i k hi m) (e j j oV oV)) (B5 (e i j hi oV) (e k j m oV))) (by show _<=2*zs K j+2;omega)
def Bdn {M:Nat->Nat->Int}{d:Int}{K:Nat}(Q:d≠0)(P:∀ i k,i<n->k<n->a i k*(d:Rat)=M i k)(m:nl d.natAbs<=K)(g:∀ i k,i<n->k<n->nl (M i k).natAbs<=K)(F:j<=n)(h0:∀ t,t<j->Bba a t t t≠0){i k:Nat}(hi:i<n)(H:k<n):Sz (Bba a j i k) (zs K j):=by
 obtain⟨R,L⟩:=Bcc Q P j F h0;obtain⟨N,O⟩:=Bcx (n:=n) m g j F;have e:=L i k hi H;obtain⟨s,u,C⟩:∃ s:Int,s.natAbs=1/\Bbp M d j*s=((Bbp M d j).natAbs:Int):=by
  rcases A3z (Bbp M d j) 0 with h|h
  ·exact⟨-1,rfl,oV⟩
  exact⟨1,rfl,oV⟩
 have I:Bba a j i k*(((Bbp M d j).natAbs:Nat):Rat)=((Bbi M j i k*s:Int):Rat):=by
  rw[<-Az2,<-C,A0v,A0v,<-e];grind
 obtain⟨J,E⟩:=Acs I oV;rw[A15,u,A38]at E;exact⟨Ayv (Cs E) (O i k hi H),Ayv (Cs (A3f oV J)) N⟩
end
end
section
variable {A:List (List Rat)}{i n:Nat}{m u:PH}{r:Value×List Value}{v:Value}
def Bcq (h:J9 u v (K6 A))(F:Sq A)(hy:Bde A):Fn0 prog 154 [v] u fun v' _=>v'=.bool true:=by
 obtain⟨a,c,rfl⟩:=h.opn;rw[C9]at h⊢;have a1:=F.le;refine Fn0.o func154<|G.c call153 (Bbr h F) ?_;rintro v1 u1 Y rfl;refine G.nF 0 0<|G.nF A.length A.length<|G.l (ι:=Nat) (fun i=>[(0,sV a A.length c),(22,iV A.length),(23,iV i)]) (fun _=>[])
  (fun i u' U=>i<=A.length/\U=PH.mt) (fun i=>A.length-i) 0 ⟨oV,rfl⟩ ?_
 rintro J i hJ u2 m2 l2 ⟨hi,rfl⟩;by_cases e:i<A.length
 ·refine G.lT i A.length ?_;have R:=h.mono (Y.trans l2);have I:0<A[i].length:=by rw[F.len e];omega
  obtain⟨g,E,b2,o2,c2,rfl,W,e2⟩:=R.cell e I;refine G.a g E A.length c i 1 oV<|G.lU none g (E+i*1) _ W ?_;rw[F.len e]at W⊢;refine G.l (ι:=Nat) (fun k=>[(0,sV (some ⟨g,E,none⟩) A.length c),(22,iV A.length),(23,iV i),(6,iV i),(30,iV A.length),(31,iV k)]) (fun _=>[])
   (fun k u' U=>k<=A.length/\U=PH.mt) (fun k=>A.length-k) 0 ⟨oV,rfl⟩ ?_
  rintro J2 k Q u3 m3 T ⟨hk,rfl⟩;by_cases C:k<A.length
  ·refine G.lT k A.length ?_;have t:k<A[i].length:=by rw[F.len e];omega
   have j:i<A[k].length:=by rw[F.len C];omega
   have X:=h.mono (Y.trans (l2.trans T));obtain⟨a0,a2,H,K,L,N,O,P⟩:=X.cell e t;cases N;refine G.a g E A.length c i 1 oV<|G.lU none g (E+i*1) _ O<|G.a H K A[i].length L k 1 t<|G.lU none H (K+k*1) _ P ?_;obtain⟨b3,o3,V,Z,c4,N,e3,e4⟩:=X.cell C j;cases N;exact G.a g E A.length c k 1 oV<|G.lU none g (E+k*1) _ e3<|G.a V Z A[k].length c4 i 1 j<|G.lU none V (Z+i*1) _ e4<|G.y (Ae A[i][k]) (Ae A[k][i]) (by rw[hy i k e C t j])<|G.i k<|G.b (Q (k+1) _ _ _ cV T ⟨oV,rfl⟩ oV)
  exact G.lF k A.length<|G.i i<|G.b (hJ (i+1) _ _ _ cV (l2.trans T) ⟨oV,rfl⟩ oV)
 exact G.lF i A.length<|G.r (.bool true) ⟨rfl,rfl⟩
def idL (n:Nat):List (List Rat):=(List.range n).map fun i=>(List.range n).map fun k=>if k=i then 1 else 0
section
variable {x y:Arr} {rows:List (Value×List Value)} {rest:List Arr}
def Bc0 (h:rows[i]?=some r):(x::y::(rows.map Bbb++rest))[i+2]?=some (Bbb r):=by
 obtain⟨e,g⟩:=Ayu.1 h;simp only[A2k];rw[Azi (by simpa using e),Ayy,h];rfl
def Bdb (h:i<rows.length):(x::y::(rows.map Bbb++rest)).set (i+2) (Bbb r)=x::y::((rows.set i r).map Bbb++rest):=by
 simp only[A0i];rw[A6t _ _ (by simpa using h),A1d]
def Bdw {k:Nat}{z:Arr}(h:rest[k]?=some z):(x::y::(rows.map Bbb++rest))[rows.length+k+2]?=some z:=by
 simp only[A2k];rw[Azy mV,Ayt,Nat.add_sub_cancel_left,h]
end
def Bdx {y:Arr}{rest:List Arr}{g n c w i:Nat}{rows:List (Value×List Value)}{X:List (List Rat)}(C:Bag m (oQ (.slice (some ⟨g,0,none⟩) n c) rows::y::(rows.map Bbb++rest)))(O:QAt u rows X)(L:Rec n w X)(hi:i<n)(T:0<w) :
 ∃ H J F,rows[i]?=some (.slice (some ⟨H,0,none⟩) w J,F)/\F.length=w/\AtP QP u F (gM X i)/\ElP m g (0+i*1) (.slice (some ⟨H,0,none⟩) w J)/\∀ j,j<w->∃ f,F[j]?=some (qv f)/\QP u (qv f) (gR (gM X i) j)/\ElP m H (0+j*4) (qv f):=by
 have R:rows.length=n:=by rw[O.1,L.1]
 have h:rows[i]?=some rows[i]:=Ayr oV;have t:=O.2 i _ h;obtain⟨⟨U,F⟩,P⟩:∃ x,rows[i]=x:=⟨_,rfl⟩;rw[P]at h t;simp only at t;have E:F.length=w:=by rw[t.1,L.2 i hi]
 obtain⟨H,J,e⟩:=C.ptr (i+2) (Bc0 h) (by intro e;simp only[Bbb]at e;rw[e]at E;simp at E;omega);simp only[Bbb]at e;rw[E]at e;subst e;refine⟨H,J,F,h,E,t,C.el 0 (x:=oQ _ rows) rfl rfl (by show (rows.map (·.1))[i]?=_;rw[Ayy,h];rfl),fun j Q=>?_⟩;have I:j<(gM X i).length:=by rw[L.2 i hi];exact Q
 obtain⟨e,N,K⟩:=t.at I;obtain⟨f,rfl⟩:=K.opQ;rw[<-M3 I]at K;exact⟨f,N,K,C.el (i+2) (x:=Bbb _) (Bc0 h) rfl N⟩
def Bdt {x y:Arr}{g n c i j:Nat}{rows h:List (Value×List Value)}(t:Bag m (x::y::(rows.map Bbb++(oQ (.slice (some ⟨g,0,none⟩) n c) h::h.map Bbb))))(P:QAt u h A)(N:Rec n n A)(hi:i<n)(T:j<n) :
 ∃ J K f,ElP m g (0+i*1) (.slice (some ⟨J,0,none⟩) n K)/\QP u (qv f) (gR (gM A i) j)/\ElP m J (0+j*4) (qv f):=by
 have U:h.length=n:=by rw[P.1,N.1]
 have E:h[i]?=some h[i]:=Ayr oV;have C:=P.2 i _ E;obtain⟨⟨V,O⟩,R⟩:∃ x,h[i]=x:=⟨_,rfl⟩;rw[R]at E C;simp only at C;have F:O.length=n:=by rw[C.1,N.2 i hi]
 have H:(x::y::(rows.map Bbb++(oQ (.slice (some ⟨g,0,none⟩) n c) h::h.map Bbb)))[rows.length+(i+1)+2]?=some (Bbb (V,O)):=Bdw (by rw[A2k,Ayy,E];rfl);obtain⟨J,K,e⟩:=t.ptr _ H (by intro e;simp only[Bbb]at e;rw[e]at F;simp at F;omega);simp only[Bbb]at e;rw[F]at e;subst e;have I:j<(gM A i).length:=by rw[N.2 i hi];exact T
 obtain⟨e,Q,L⟩:=C.at I;obtain⟨f,rfl⟩:=L.opQ;rw[<-M3 I]at L;exact⟨J,K,f,t.el _ (x:=oQ _ h) (Bdw (k:=0) rfl) rfl (by show (h.map (·.1))[i]?=_;rw[Ayy,E];rfl),L,t.el _ (x:=Bbb _) H rfl Q⟩
def Bc2 (hi:i<n):gM (idL n) i=(List.range n).map fun k=>if k=i then 1 else 0:=by
 unfold idL gM;rw[Ays,Ayy,A4g hi];rfl
def Bce (n:Nat):Rec n n (idL n):=⟨by simp[idL],fun i hi=>by rw[Bc2 hi];simp⟩
def Bag.nilsQ {l:List Arr}{m:PH}(h:Bag m l):∀ n,Bag m ((List.replicate n Bbe).map Bbb++l)
 |0=>h
 |n+1=>⟨m,Af.nil _ _ _,Bag.nilsQ h n⟩
def lvA (A:List (List Rat))(p q:Nat):Rat:=Bba (en A) q p q/Bba (en A) q q q
def Bcb {q:Rat}(h:0<q):q≠0:=fun e=>by rw[e]at h;exact absurd h jV
def Bc9 (u:PH)(es:List Value)(A:List (List Rat))(i:Nat):Prop:=∀ j,j<i->∃ f,es[j]?=some (qv f)/\QP u (qv f) (Bba (en A) j j j)
def Bc9.mono {u u':PH}{es:List Value}{A:List (List Rat)}{i:Nat}(h:Bc9 u es A i)(hl:PH.le u u'):Bc9 u' es A i:=fun j hj=>by
 obtain⟨f,h1,h2⟩:=h j hj;exact⟨f,h1,h2.mono hl⟩
structure FS where
 i:Nat
 rows:List (Value×List Value)
 L:List (List Rat)
 es:List Value
structure FK where
 k:Nat
 rows:List (Value×List Value)
 L:List (List Rat)
def Bcv {rows:List (Value×List Value)}(h:rows[i]?=some r):(oQ v rows).es[i]?=some r.1:=by
 show (rows.map (·.1))[i]?=_;rw[Ayy,h];rfl
def Bb9 {u m:PH}{a:Option Addr}{U:Nat}{C:List (Value×List Value)}{A:List (List Rat)}{n B:Nat}(hA:Rec n n A)(hn:n<=12)(hB:B<=1000000)(aj:∀ j,j<n->0<Bba (en A) j j j)(a7:∀ j i k,j<=n->i<n->k<n->Sz (Bba (en A) j i k) B)
 (ba:QAt u C A) (ae:Bag m (oQ (.slice a n U) C::C.map Bbb)) :
 Ag prog 84 [.slice a n U] u m fun v u' m'=>m'=PH.mt/\∃ l d,v=.tuple #[l,d,.int .i64 n]:=by
 refine Ag.o func84<|G.make 157 1 24 (.slice none 0 0) n kV rfl rfl oV oV oV ?_;rintro v1 m1 b9 ⟨⟨H,oL,sL⟩,rfl⟩;obtain⟨ce,cb,b4⟩:∃ b c,Value.slice (some ⟨H,oL,sL⟩) n n=.slice (some ⟨b,0,none⟩) n c:=by
  rcases b9.2 with ⟨e,_⟩|⟨g,c,_,_,_,e,_⟩
  ·simp at e
  rw[A1a]at e;exact⟨g,c,e⟩
 simp only[Value.slice.injEq,Ayz,Addr.mk.injEq,true_and]at b4;obtain⟨⟨rfl,rfl,rfl⟩,rfl⟩:=b4;refine G.make 52 4 64 zQ n kV rfl rfl oV oV oV ?_;rintro v2 m2 b7 ⟨⟨K,oD,sD⟩,rfl⟩;obtain⟨cd,c9,b3⟩:∃ b c,Value.slice (some ⟨K,oD,sD⟩) n n=.slice (some ⟨b,0,none⟩) n c:=by
  rcases b7.2 with ⟨e,_⟩|⟨g,c,_,_,_,e,_⟩
  ·simp at e
  rw[A1a]at e;exact⟨g,c,e⟩
 simp only[Value.slice.injEq,Ayz,Addr.mk.injEq,true_and]at b3;obtain⟨⟨rfl,rfl,rfl⟩,rfl⟩:=b3;have bo:Bag m2 (oQ (.slice (some ⟨H,0,none⟩) n n) (List.replicate n Bbe)::Bbb (.slice (some ⟨K,0,none⟩) n n,List.replicate n zQ)::((List.replicate n Bbe).map Bbb++(oQ (.slice a n U) C::C.map Bbb))):=by
  have h0:=ae.nilsQ n;have h1:Bag m1 (oQ (.slice (some ⟨H,0,none⟩) n n) (List.replicate n Bbe)::((List.replicate n Bbe).map Bbb++(oQ (.slice a n U) C::C.map Bbb))):=⟨m,by rw[Bcf,A4v];exact b9,h0⟩;have h2:Bag m2 (Bbb (.slice (some ⟨K,0,none⟩) n n,List.replicate n zQ)::oQ (.slice (some ⟨H,0,none⟩) n n) (List.replicate n Bbe)::((List.replicate n Bbe).map Bbb++(oQ (.slice a n U) C::C.map Bbb))):=⟨m1,b7,h1⟩;exact Bag.perm (List.Perm.swap _ _ _) h2
 refine G.l (ι:=Nat×List (Value×List Value)) (fun i=>[(0,sV a n U),(5,iV n),(6,sV (some ⟨H,0,none⟩) n n),(7,sV (some ⟨K,0,none⟩) n n),(23,iV n),(24,iV i.1)]) (fun _=>[])
  (fun i u' m'=>i.1<=n/\i.2.length=n/\(∀ j r,i.2[j]?=some r->if j<i.1 then AtP QP u' r.2 (gM (idL n) j) else r=Bbe)/\Bag m' (oQ (.slice (some ⟨H,0,none⟩) n n) i.2::Bbb (.slice (some ⟨K,0,none⟩) n n,List.replicate n zQ)::(i.2.map Bbb++(oQ (.slice a n U) C::C.map Bbb))))
  (fun i=>n-i.1) (0,List.replicate n Bbe)
  ⟨Azh _,mV,fun j r P=>by rw[if_neg (Nat.not_lt_zero _)];exact A5k (Ay9 P),bo⟩ ?_
 rintro J ⟨i,rows⟩ hJ u3 m3 l3 ⟨hi,ad,a3,O⟩;simp only at hi ad a3 O hJ;by_cases E:i<n
 ·refine G.lT i n<|G.make 52 4 64 zQ n kV rfl rfl oV oV oV ?_;rintro v4 m4 b5 ⟨⟨I,o4,s4⟩,rfl⟩;obtain⟨cc,c8,b2⟩:∃ b c,Value.slice (some ⟨I,o4,s4⟩) n n=.slice (some ⟨b,0,none⟩) n c:=by
   rcases b5.2 with ⟨e,_⟩|⟨g,c,_,_,_,e,_⟩
   ·simp at e
   rw[A1a]at e;exact⟨g,c,e⟩
  simp only[Value.slice.injEq,Ayz,Addr.mk.injEq,true_and]at b2;obtain⟨⟨rfl,rfl,rfl⟩,rfl⟩:=b2;have ak:rows[i]?=some Bbe:=by
   have hx:=a3 i rows[i] (Ayr oV);rw[if_neg oV]at hx;rw[Ayr oV,hx]
  obtain⟨m0,c3,bk⟩:=O.focus (i+2) (Bc0 ak);have bx:m0=m3:=by
   rcases c3.2 with ⟨_,_,e⟩|⟨_,_,_,_,_,e,_⟩
   ·exact e.symm
   simp[Bbb,Bbe]at e
  subst bx;have F:=bk (Bbb (.slice (some ⟨I,0,none⟩) n n,List.replicate n zQ)) _ b5;rw[Bdb oV]at F;obtain⟨m0',bn,b0⟩:=F.focus 0 rfl;rw[Bcf]at bn;refine G.a H 0 n n i 1 E<|G.storeA 1 m0' _ H n n i (.slice (some ⟨I,0,none⟩) n n) kV bn (by simp[ad,E]) rfl rfl ?_;intro m5 c4;have af:=b0 (oQ (.slice (some ⟨H,0,none⟩) n n) (rows.set i (.slice (some ⟨I,0,none⟩) n n,List.replicate n zQ))) m5 (by
   rw[Bcf,A1d];exact c4)
  obtain⟨rs,ch⟩:∃ rs,rs=rows.set i (Value.slice (some ⟨I,0,none⟩) n n,List.replicate n zQ):=⟨_,rfl⟩;have br:ElP m5 H (0+i*1) (.slice (some ⟨I,0,none⟩) n n):=af.el 0 (x:=oQ _ _) rfl rfl (Bcv (A12 oV));refine G.a H 0 n n i 1 E<|G.lM none H (0+i*1) _ br ?_;have c1:∀ e:List Value,(rows.set i (Value.slice (some ⟨I,0,none⟩) n n,List.replicate n zQ)).set i (Value.slice (some ⟨I,0,none⟩) n n,e)=rows.set i (Value.slice (some ⟨I,0,none⟩) n n,e):=fun e=>A7o _;refine G.l (ι:=Nat×List Value) (fun k=>[(0,sV a n U),(5,iV n),(6,sV (some ⟨H,0,none⟩) n n),(7,sV (some ⟨K,0,none⟩) n n),(23,iV n),(24,iV i),(8,iV i),(36,iV n),(37,iV k.1)]) (fun _=>[])
   (fun k u' m'=>k.1<=n/\k.2.length=n/\(∀ j,j<k.1->∃ f,k.2[j]?=some (qv f)/\QP u' (qv f) 0)/\Bag m' (oQ (.slice (some ⟨H,0,none⟩) n n) (rows.set i (.slice (some ⟨I,0,none⟩) n n,k.2))::Bbb (.slice (some ⟨K,0,none⟩) n n,List.replicate n zQ)::((rows.set i (.slice (some ⟨I,0,none⟩) n n,k.2)).map Bbb++(oQ (.slice a n U) C::C.map Bbb))))
   (fun k=>n-k.1) (0,List.replicate n zQ)
   ⟨Azh _,mV,fun j P=>absurd P (Nat.not_lt_zero _),af⟩ ?_
  rintro J2 ⟨k,e⟩ aa u6 m6 W ⟨hk,ay,he,a4⟩;simp only at hk ay he a4 aa;have ai:i<(rows.set i (Value.slice (some ⟨I,0,none⟩) n n,e)).length:=by simp[ad,E]
  have bg:(rows.set i (Value.slice (some ⟨I,0,none⟩) n n,e))[i]?=some (Value.slice (some ⟨I,0,none⟩) n n,e):=A12 oV;have bf:ElP m6 H (0+i*1) (.slice (some ⟨I,0,none⟩) n n):=a4.el 0 (x:=oQ _ _) rfl rfl (Bcv bg);obtain⟨m0,X,N⟩:=a4.focus (i+2) (Bc0 bg);rw[Bbl]at X;by_cases bu:k<n
  ·refine G.lT k n<|G.a H 0 n n i 1 E<|G.lM none H (0+i*1) _ bf<|G.c call15 (Sp (z:=0) oV oV) ?_;intro v7 u7 R k7;rw[show ((0:Int):Rat)=0 from by decide]at k7;obtain⟨Q,rfl⟩:=k7.opQ;refine G.a I 0 n n k 4 bu<|G.storeA 4 m0 _ I n n k (qv Q) kV X (by show k<e.length;omega) rfl rfl ?_;intro m8 a8;have V:=N (Bbb (.slice (some ⟨I,0,none⟩) n n,e.set k (qv Q))) m8 a8;rw[Bdb ai,A7o]at V;have a0:Bag m8 (oQ (.slice (some ⟨H,0,none⟩) n n) (rows.set i (.slice (some ⟨I,0,none⟩) n n,e.set k (qv Q)))::Bbb (.slice (some ⟨K,0,none⟩) n n,List.replicate n zQ)::((rows.set i (.slice (some ⟨I,0,none⟩) n n,e.set k (qv Q))).map Bbb++(oQ (.slice a n U) C::C.map Bbb))):=by
    have:oQ (.slice (some ⟨H,0,none⟩) n n) (rows.set i (.slice (some ⟨I,0,none⟩) n n,e.set k (qv Q)))=oQ (.slice (some ⟨H,0,none⟩) n n) (rows.set i (.slice (some ⟨I,0,none⟩) n n,e)):=by
     unfold oQ;rw[A1d,A1d]
    rw[this];exact V
   refine G.i k<|G.b (aa (k+1,e.set k (qv Q)) _ _ _ cV (W.trans R) ⟨dV,by simpa using ay,fun j P=>?_,a0⟩ dV);dsimp only at P⊢;by_cases e1:j=k
   ·subst e1;exact⟨Q,A12 oV,k7⟩
   obtain⟨f,h1,h2⟩:=he j oV;exact⟨f,by rw[A37 (fun h=>e1 h.symm)];exact h1,h2.mono R⟩
  obtain rfl:k=n:=oV;refine G.lF k k<|G.a H 0 k k i 1 E<|G.lM none H (0+i*1) _ bf<|G.c call15 (Sp (z:=1) oV oV) ?_;intro v7 u7 R k7;rw[show ((1:Int):Rat)=1 from by decide]at k7;obtain⟨Q,rfl⟩:=k7.opQ;refine G.a I 0 k k i 4 E<|G.storeA 4 m0 _ I k k i (qv Q) kV X (by show i<e.length;omega) rfl rfl ?_;intro m8 a8;have V:=N (Bbb (.slice (some ⟨I,0,none⟩) k k,e.set i (qv Q))) m8 a8;rw[Bdb ai,A7o]at V;have a0:Bag m8 (oQ (.slice (some ⟨H,0,none⟩) k k) (rows.set i (.slice (some ⟨I,0,none⟩) k k,e.set i (qv Q)))::Bbb (.slice (some ⟨K,0,none⟩) k k,List.replicate k zQ)::((rows.set i (.slice (some ⟨I,0,none⟩) k k,e.set i (qv Q))).map Bbb++(oQ (.slice a k U) C::C.map Bbb))):=by
   have:oQ (.slice (some ⟨H,0,none⟩) k k) (rows.set i (.slice (some ⟨I,0,none⟩) k k,e.set i (qv Q)))=oQ (.slice (some ⟨H,0,none⟩) k k) (rows.set i (.slice (some ⟨I,0,none⟩) k k,e)):=by
    unfold oQ;rw[A1d,A1d]
   rw[this];exact V
  refine G.i i<|G.b (hJ (i+1,rows.set i (.slice (some ⟨I,0,none⟩) k k,e.set i (qv Q))) _ _ _ cV ((l3.trans W).trans R) ⟨dV,by simpa using ad,fun j r P=>?_,a0⟩ dV);dsimp only at P⊢;rw[A1g]at P;by_cases e1:i=j
  ·subst e1;rw[if_pos rfl,if_pos oV]at P;simp only[Ayz]at P;rw[if_pos oV,<-P,Bc2 E];refine⟨by simp[ay],fun t x ht=>?_⟩;rw[Ayy]at ht;have bm:t<k:=by
    rcases Az8 t k with h|h
    ·exact h
    rw[Azo gV]at ht;simp at ht
   rw[A4g bm]at ht;simp only[A1n,Ayz]at ht;by_cases e2:t=i
   ·subst e2;exact⟨qv Q,A12 oV,by rw[<-ht,if_pos rfl];exact k7⟩
   obtain⟨f,h1,h2⟩:=he t bm;exact⟨qv f,by rw[A37 (fun h=>e2 h.symm)];exact h1,by rw[<-ht,if_neg e2];exact h2.mono R⟩
  rw[if_neg e1]at P;have:=a3 j r P;by_cases bi:j<i
  ·rw[if_pos bi]at this;rw[if_pos oV];exact this.mono (fun _ _ h=>h.mono (W.trans R))
  rw[if_neg bi]at this;rw[if_neg oV];exact this
 obtain rfl:n=i:=oV;refine G.lF n n ?_;have ap:QAt u3 rows (idL n):=⟨by rw[ad,(Bce n).1],fun j r P=>by
  have bt:j<n:=by
   obtain⟨h1,_⟩:=Ayu.1 P;omega
  have:=a3 j r P;rwa[if_pos bt]at this⟩
 have az:∀ p q,p<n->q<p->Sz (lvA A p q) (B+B):=fun p q hp hq=>Bdp (a7 q p q oV hp oV) (a7 q q q oV oV oV) (Bcb (aj q oV));refine G.l (ι:=FS) (fun s=>[(0,sV a n U),(5,iV n),(6,sV (some ⟨H,0,none⟩) n n),(7,sV (some ⟨K,0,none⟩) n n),(10,iV s.i)]) (fun _=>[])
  (fun s u' m'=>s.i<=n/\(∀ p q,p<s.i->q<p->gR (gM s.L p) q=lvA A p q)/\Rec n n s.L/\QAt u' s.rows s.L/\s.es.length=n/\Bc9 u' s.es A s.i/\Bag m' (oQ (.slice (some ⟨H,0,none⟩) n n) s.rows::Bbb (.slice (some ⟨K,0,none⟩) n n,s.es)::(s.rows.map Bbb++(oQ (.slice a n U) C::C.map Bbb))))
  (fun s=>n-s.i) ⟨0,rows,idL n,List.replicate n zQ⟩
  ⟨Azh _,fun p q hp _=>absurd hp (Nat.not_lt_zero _),Bce n,ap,mV,fun j P=>absurd P (Nat.not_lt_zero _),O⟩ ?_
 clear O a3 ap ad hJ;rintro J ⟨i,rows,L,es⟩ hJ u4 m4 l4 ⟨hi,bh,hL,au,bd,hD,O⟩;simp only at hi bh hL au bd hD O hJ;by_cases E:i<n
 ·refine G.lT i n ?_;have hw:0<n:=oV;obtain⟨gA,cA,eA⟩:∃ b c,a=some ⟨b,0,none⟩/\U=c:=by
   have bl:C.length=n:=by rw[ba.1,hA.1]
   obtain⟨b,c,e⟩:=ae.ptr 0 rfl (by intro e;simp only[oQ,A8s]at e;rw[e]at bl;simp at bl;omega);simp only[oQ,Value.slice.injEq]at e;exact⟨b,c,e.1,e.2.2⟩
  obtain⟨rfl,rfl⟩:=eA;refine G.l (ι:=FK) (fun s=>[(0,sV (some ⟨gA,0,none⟩) n U),(5,iV n),(6,sV (some ⟨H,0,none⟩) n n),(7,sV (some ⟨K,0,none⟩) n n),(10,iV i),(11,iV s.k)]) (fun _=>[])
   (fun s u' m'=>s.k<=i/\(∀ p q,p<i->q<p->gR (gM s.L p) q=lvA A p q)/\(∀ q,q<s.k->gR (gM s.L i) q=lvA A i q)/\Rec n n s.L/\QAt u' s.rows s.L/\Bag m' (oQ (.slice (some ⟨H,0,none⟩) n n) s.rows::Bbb (.slice (some ⟨K,0,none⟩) n n,es)::(s.rows.map Bbb++(oQ (.slice (some ⟨gA,0,none⟩) n U) C::C.map Bbb))))
   (fun s=>i-s.k) ⟨0,rows,L⟩
   ⟨Azh _,bh,fun q hq=>absurd hq (Nat.not_lt_zero _),hL,au,O⟩ ?_
  clear O au;rintro J2 ⟨k,T,L2⟩ aa u5 m5 l5 ⟨hk,a9,a1,Y,Z,F⟩;simp only at hk a9 a1 Y Z F aa;have b8:=hD.mono l5;have ao:QAt u5 C A:=ba.mono ((l3.trans l4).trans l5);have ar:∀ j,j<i->∃ f,ElP m5 K (0+j*4) (qv f)/\QP u5 (qv f) (Bba (en A) j j j):=fun j P=>by
   obtain⟨f,h1,h2⟩:=b8 j P;exact⟨f,F.el 1 (x:=Bbb (.slice (some ⟨K,0,none⟩) n n,es)) rfl rfl h1,h2⟩
  obtain⟨gi,ci,ei,ak,c6,b6,an,bb⟩:=Bdx F Z Y E hw;by_cases bj:k<i
  ·refine G.lT k i ?_;obtain⟨gk,ck,ek,cg,c7,c5,bz,bp⟩:=Bdx F Z Y (show k<n by omega) hw;obtain⟨ga,ca,fa,av,aw,ax⟩:=Bdt F ao hA E (show k<n by omega);refine G.a gA 0 n U i 1 E<|G.lM none gA (0+i*1) _ av<|G.a ga 0 n ca k 4 oV<|G.lM (some 4) ga (0+k*4) (qv fa) ax<|G.l (ι:=Nat×Q4) (fun s=>[(0,sV (some ⟨gA,0,none⟩) n U),(5,iV n),(6,sV (some ⟨H,0,none⟩) n n),(7,sV (some ⟨K,0,none⟩) n n),(10,iV i),(11,iV k),(12,.p 21007 0),(13,iV s.1)]) (fun s=>[(21007,⟨52,qc s.2⟩)])
    (fun s u' m'=>s.1<=k/\QP u' (qv s.2) (Bba (en A) s.1 i k)/\m'=m5)
    (fun s=>k-s.1) (0,fa)
    ⟨Azh _,aw,rfl⟩ ?_
   rintro J3 ⟨j,fs⟩ ab u6 m6 W ⟨P,a2,rfl⟩;simp only at P a2 ab;have al:=a7 j i k oV E oV;by_cases a5:j<k
   ·refine G.lT j k ?_;obtain⟨fi,_,ac,am⟩:=bb j oV;obtain⟨fk,_,be,bq⟩:=bp j oV;obtain⟨fd,ag,ah⟩:=ar j oV;rw[a1 j a5]at ac;rw[a9 k j bj a5]at be;have sI:=az i j E oV;have sK:=az k j oV a5;have a6:=a7 j j j oV oV oV;refine G.a H 0 n n i 1 E<|G.lM none H (0+i*1) _ an<|G.a gi 0 n ci j 4 oV<|G.lM (some 4) gi (0+j*4) (qv fi) am<|G.a H 0 n n k 1 oV<|G.lM none H (0+k*1) _ bz<|G.a gk 0 n ck j 4 oV<|G.lM (some 4) gk (0+j*4) (qv fk) bq<|G.a K 0 n n j 4 oV<|G.lM (some 4) K (0+j*4) (qv fd) ag<|G.c call22 (E2 (ac.mono W) (be.mono W) (sI.mono oV) (sK.mono oV)) ?_;intro v7 u7 R k7;obtain⟨Q,rfl⟩:=k7.opQ;have s7:=Di sI sK;refine G.c call22 (E2 k7 (ah.mono (W.trans R)) (s7.mono oV) (a6.mono oV)) ?_;intro v8 u8 l8 k8;obtain⟨f8,rfl⟩:=k8.opQ;have s8:=Di s7 a6;refine G.c call20 (Aie (a2.mono (R.trans l8)) k8 (al.mono oV) (s8.mono oV)) ?_;intro v9 u9 l9 k9;obtain⟨f9,rfl⟩:=k9.opQ;refine G.i j<|G.b (ab (j+1,f9) _ _ _ cV (((W.trans R).trans l8).trans l9) ⟨dV,k9,rfl⟩ dV)
   obtain rfl:k=j:=oV;refine G.lF k k ?_;obtain⟨fd,ag,ah⟩:=ar k bj;have a6:=a7 k k k oV oV oV;have c0:=aj k oV;refine G.a H 0 n n i 1 E<|G.lM none H (0+i*1) _ an<|G.a K 0 n n k 4 oV<|G.lM (some 4) K (0+k*4) (qv fd) ag<|G.c call156 (Bdf a2 (ah.mono W) (al.mono oV) (a6.mono oV) (Bcb c0)) ?_;intro v7 u7 R k7;obtain⟨Q,rfl⟩:=k7.opQ;obtain⟨m0,X,N⟩:=F.focus (i+2) (Bc0 ak);rw[Bbl]at X;refine G.a gi 0 n ci k 4 oV<|G.storeA 4 m0 _ gi n ci k (qv Q) kV X (by show k<ei.length;omega) rfl rfl ?_;intro m8 a8;have ai:i<T.length:=(Ayu.1 ak).1;have V:=N (Bbb (.slice (some ⟨gi,0,none⟩) n ci,ei.set k (qv Q))) m8 a8;rw[Bdb ai]at V;have a0:Bag m8 (oQ (.slice (some ⟨H,0,none⟩) n n) (T.set i (.slice (some ⟨gi,0,none⟩) n ci,ei.set k (qv Q)))::Bbb (.slice (some ⟨K,0,none⟩) n n,es)::((T.set i (.slice (some ⟨gi,0,none⟩) n ci,ei.set k (qv Q))).map Bbb++(oQ (.slice (some ⟨gA,0,none⟩) n U) C::C.map Bbb))):=by
    rw[Bdj ak];exact V
   have aq:i<L2.length:=by rw[Y.1];exact E
   have bw:k<(gM L2 i).length:=by rw[Y.2 i E];omega
   refine G.i k ?_;have b1:Rec n n (L2.set i ((gM L2 i).set k (lvA A i k))):=Aq8 Y E (by rw[A1o,Y.2 i E]);refine G.b (aa ⟨k+1,T.set i (.slice (some ⟨gi,0,none⟩) n ci,ei.set k (qv Q)),L2.set i ((gM L2 i).set k (lvA A i k))⟩ _ _ _ cV ((l5.trans W).trans R) ⟨dV,fun p q hp hq=>?_,fun q hq=>?_,b1,?_,a0⟩ dV)
   ·dsimp only;rw[Ao9 aq,if_neg oV];exact a9 p q hp hq
   ·dsimp only at hq⊢;rw[Ao9 aq,if_pos rfl,Aw0 bw];by_cases e:k=q
    ·rw[if_pos e,<-e]
    rw[if_neg e];exact a1 q oV
   dsimp only;exact (Z.mono (W.trans R)).set ai ((b6.mono (fun _ _ h=>h.mono (W.trans R))).set k k7)
  obtain rfl:i=k:=oV;refine G.lF i i ?_;clear aa;obtain⟨ga,ca,fa,av,aw,ax⟩:=Bdt F ao hA E E;refine G.a gA 0 n U i 1 E<|G.lM none gA (0+i*1) _ av<|G.a ga 0 n ca i 4 oV<|G.lM (some 4) ga (0+i*4) (qv fa) ax<|G.l (ι:=Nat×Q4) (fun s=>[(0,sV (some ⟨gA,0,none⟩) n U),(5,iV n),(6,sV (some ⟨H,0,none⟩) n n),(7,sV (some ⟨K,0,none⟩) n n),(10,iV i),(14,.p 27007 0),(15,iV s.1)]) (fun s=>[(27007,⟨52,qc s.2⟩)])
   (fun s u' m'=>s.1<=i/\QP u' (qv s.2) (Bba (en A) s.1 i i)/\m'=m5)
   (fun s=>i-s.1) (0,fa)
   ⟨Azh _,aw,rfl⟩ ?_
  rintro J3 ⟨j,fs⟩ ab u6 m6 W ⟨P,a2,rfl⟩;simp only at P a2 ab;have al:=a7 j i i oV E E;by_cases a5:j<i
  ·refine G.lT j i ?_;obtain⟨fi,_,ac,am⟩:=bb j oV;obtain⟨fd,ag,ah⟩:=ar j a5;rw[a1 j a5]at ac;have sI:=az i j E a5;have a6:=a7 j j j oV oV oV;refine G.a H 0 n n i 1 E<|G.lM none H (0+i*1) _ an<|G.a gi 0 n ci j 4 oV<|G.lM (some 4) gi (0+j*4) (qv fi) am<|G.a H 0 n n i 1 E<|G.lM none H (0+i*1) _ an<|G.a gi 0 n ci j 4 oV<|G.lM (some 4) gi (0+j*4) (qv fi) am<|G.a K 0 n n j 4 oV<|G.lM (some 4) K (0+j*4) (qv fd) ag<|G.c call22 (E2 (ac.mono W) (ac.mono W) (sI.mono oV) (sI.mono oV)) ?_;intro v7 u7 R k7;obtain⟨Q,rfl⟩:=k7.opQ;have s7:=Di sI sI;refine G.c call22 (E2 k7 (ah.mono (W.trans R)) (s7.mono oV) (a6.mono oV)) ?_;intro v8 u8 l8 k8;obtain⟨f8,rfl⟩:=k8.opQ;have s8:=Di s7 a6;refine G.c call20 (Aie (a2.mono (R.trans l8)) k8 (al.mono oV) (s8.mono oV)) ?_;intro v9 u9 l9 k9;obtain⟨f9,rfl⟩:=k9.opQ;refine G.i j<|G.b (ab (j+1,f9) _ _ _ cV (((W.trans R).trans l8).trans l9) ⟨dV,k9,rfl⟩ dV)
  obtain rfl:i=j:=oV;refine G.lF i i ?_;clear ab;have c2:=aj i E;refine G.c call39 (Aci a2 (Ayv al.1 oV)) ?_;rintro v7 u7 R rfl;rw[Acc];refine G.kF' (sg (Bba (en A) i i i)) 0 (by rw[Awa c2];decide) ?_;obtain⟨m0,X,N⟩:=F.focus 1 rfl;rw[Bbl]at X;refine G.a K 0 n n i 4 E<|G.storeA 4 m0 _ K n n i (qv fs) kV X (by show i<es.length;omega) rfl rfl ?_;intro m8 a8;have V:=N (Bbb (.slice (some ⟨K,0,none⟩) n n,es.set i (qv fs))) m8 a8;refine G.i i<|G.b (hJ ⟨i+1,T,L2,es.set i (qv fs)⟩ _ _ _ cV (((l4.trans l5).trans W).trans R) ⟨dV,fun p q hp hq=>?_,Y,Z.mono (W.trans R),by simpa using bd,fun t ht=>?_,V⟩ dV)
  ·dsimp only at hp⊢;by_cases e:p=i
   ·rw[e]at hq⊢;exact a1 q hq
   exact a9 p q oV hq
  dsimp only at ht⊢;by_cases e1:t=i
  ·subst e1;exact⟨fs,A12 oV,a2.mono R⟩
  obtain⟨f',h1,h2⟩:=b8 t oV;exact⟨f',by rw[A37 (fun h=>e1 h.symm)];exact h1,h2.mono (W.trans R)⟩
 obtain rfl:n=i:=oV;exact G.lF n n<|G.drop PH.mt kV (PH.mt_le _)<|G.r (.tuple #[.slice (some ⟨H,0,none⟩) n n,.slice (some ⟨K,0,none⟩) n n,.int .i64 n]) ⟨rfl,_,_,rfl⟩
end
section
variable {A:List (List Rat)}{u:PH}{v:Value}
def Bb6 (h:J9 u v (K6 A))(e:Sq A)(j:Bde A)(hT:∀ r∈A,∀ q∈r,Tq q):Fn0 prog 83 [v] u fun m _=>m=.int .i64 0:=by
 obtain⟨a,c,rfl⟩:=h.opn;rw[C9]at h⊢;refine Fn0.o func83<|G.c call153 (Bbr h e) ?_;rintro I E g rfl;refine G.nF 0 0<|G.c call154 (Bcq (h.mono g) e j) ?_;rintro J F l2 rfl;refine G.c call155 (Bcn (n:=A.length) (h.mono (g.trans l2)) e.le e.row e.le hT e.le) ?_;rintro K H t rfl;exact G.r (.int .i64 0) ⟨rfl,rfl⟩
def Bbt {B:Nat}(h:J9 u v (K6 A))(m:Sq A)(H:Bde A)(hT:∀ r∈A,∀ q∈r,Tq q)(E:B<=1000000)(g:∀ j,j<A.length->0<Bba (en A) j j j)(n:∀ j i k,j<=A.length->i<A.length->k<A.length->Sz (Bba (en A) j i k) B) :
 Fn0 prog 37 [v] u fun J _=>J=.tuple #[.bool true,.int .i64 0]:=by
 obtain⟨a,c,rfl⟩:=h.opn;rw[C9]at h⊢;refine Fn0.o func37<|G.c call83 (Bb6 h m H hT) ?_;rintro X U I rfl;refine G.nF 0 0<|G.callO _ _ kV call85 (Bcl (h.mono I) m) ?_;rintro Y V R O ⟨K,L,t,rfl,F,e⟩ _;rw[Bw];refine G.A call84 (Bb9 ⟨rfl,fun i hi=>by rw[Jx hi];exact m.len hi⟩ m.le E g n F e) ?_;rintro Z W T Q ⟨rfl,l,d,rfl⟩ _;rw[Bw];exact G.eT A.length A.length<|G.r (.tuple #[.bool true,.int .i64 0]) ⟨rfl,rfl⟩
section
variable {P:List Par} {C:CF} {q:Rat} {N:Nat}
def Bcg:∀ i k,i<P.length+1->k<P.length+1->en (H8 C P q) i k=en (H8 C P q) k i:=fun i k hi g=>by
 rw[Aaf hi g,Aaf g hi,Afm];by_cases e:i=k
 ·subst e;rfl
 rw[if_neg (fun h=>e h.1),if_neg (fun h=>e h.1.symm)]
def Bct:Bde (H8 C P q):=fun i k hi m g j=>by
 have e:=I0 (P:=P) (C:=C) (q:=q);have h:=Bcg (P:=P) (C:=C) (q:=q) i k (by have:=e.1;omega) (by have:=e.1;omega);unfold en at h;rwa[Jx hi,Jx m,M3 g,M3 j]at h
def Bdq (O:0<q)(K:0<C.c)(hp:∀ z,0<=Ba9 z P C)(F:P.Nodup)(x:Nat->Rat)(Q:∃ i,i<P.length+1/\x i≠0):0<frm (P.length+1) (en (H8 C P q)) x:=by
 obtain⟨z,t⟩:∃ z:Option Par->Rat,∀ j,j<P.length+1->z ((Ah P).getD j none)=x j:=⟨cfE (x 0) (P.zip ((List.range P.length).map fun j=>x (j+1))),fun j n=>by
  rw[Sc F mV j n];cases j with
  |zero=>rfl
  |succ j=>exact Ae3 (by rw[A2k,Ayy,A4g oV];rfl)⟩
 have m:∀ i,i<P.length+1->Ey (P.length+1) (fun k=>en (H8 C P q) i k*x k)=Ao (fun f=>Ar C ((Ah P).getD i none) f*z f) (Ah P)+Hc q z ((Ah P).getD i none):=fun i hi=>by
  rw[Jm (g:=fun j=>Ar C ((Ah P).getD i none) ((Ah P).getD j none)*z ((Ah P).getD j none)+(if i=j/\0<i then q else 0)*x j) (fun j n=>by rw[Aaf hi n,t j n];grind),Vf,Vs,Py _ (Ah P) none,Bk];have h:Hc q z ((Ah P).getD i none)=if i<P.length+1/\0<i then q*x i else 0:=by
   cases i with
   |zero=>rw[if_neg oV];rfl
   |succ j =>
    rw[if_pos ⟨hi,oV⟩,<-t _ hi];unfold Ah;rw[A3s,Ays,Ayy,Ayr oV];rfl
  rw[h]
 have L:frm (P.length+1) (en (H8 C P q)) x=Ba9 z P C+q*Eu P z:=by
  unfold frm;have J:Ey (P.length+1) (fun i=>x i*Ey (P.length+1) fun k=>en (H8 C P q) i k*x k)=Ao (fun e=>z e*Ao (fun f=>Ar C e f*z f) (Ah P)+z e*Hc q z e) (Ah P):=by
   rw[Py (fun e=>z e*Ao (fun f=>Ar C e f*z f) (Ah P)+z e*Hc q z e) (Ah P) none,Bk];exact Jm fun i hi=>by rw[m i hi,t i hi];grind
  rw[J,Ea,O0 (f:=fun e=>z e*Hc q z e),Oq];have I:Ao (fun p=>z (some p)*Hc q z (some p)) P=q*Eu P z:=by unfold Eu;rw[<-Dp];exact A7 fun p _=>by unfold Hc;grind
  rw[I];unfold Bbg Hc;grind
 rw[L];refine Rat.not_le.1 fun E=>?_;have h0:=At0 O K hp E;obtain⟨i,hi,H⟩:=Q;exact H (by rw[<-t i hi];exact h0 _ (Uk hi))
def Bdm {x:Rat}(h:Tq x):x*((4320:Int):Rat)=((x.num*((4320/x.den:Nat):Int):Int):Rat):=by
 obtain⟨k,g⟩:=h.den;have j:=Bbz x;rw[show (4320/x.den:Nat)=k by rw[g,Nat.mul_div_cancel_left _ x.den_pos],A0v,<-j];have e:((4320:Int):Rat)=(x.den:Rat)*(k:Rat):=by rw[<-A10,<-g];rfl
 rw[e,Az2];grind
def Bdd (hT:∀ r∈H8 C P q,∀ x∈r,Tq x)(L:P.length<=11)(Q:0<q)(O:0<C.c)(hp:∀ z,0<=Ba9 z P C)(I:P.Nodup) :
 (∀ j,j<(H8 C P q).length->0<Bba (en (H8 C P q)) j j j)/\∀ j i k,j<=(H8 C P q).length->i<(H8 C P q).length->k<(H8 C P q).length->Sz (Bba (en (H8 C P q)) j i k) 20000:=by
 have m:=I0 (P:=P) (C:=C) (q:=q);have g:∀ j,j<(H8 C P q).length->0<Bba (en (H8 C P q)) j j j:=fun j H=>Bc5 Bcg (Bdq Q O hp I) (by rw[<-m.1];exact H);rw[m.1]at g⊢;refine⟨g,fun j i k H hi h=>?_⟩;have e:∀ i k,i<P.length+1->k<P.length+1->Tq (en (H8 C P q) i k):=fun i k hi h=>by
  have F:i<(H8 C P q).length:=by rw[m.1];exact hi
  have E:=m.2 i hi;unfold en;exact hT _ (Ao1 F) _ (Ab7 (by rw[E];exact h))
 refine (Bdn (n:=P.length+1) (d:=4320) (K:=2) (M:=fun i k=>(en (H8 C P q) i k).num*((4320/(en (H8 C P q) i k).den:Nat):Int)) fV (fun i k hi h=>Bdm (e i k hi h)) (nlM fV) (fun i k hi h=>?_) H (fun t R=>?_) hi h).mono (Ayv (Aub 2 (show j<=12 by omega)) fV)
 ·refine nlM ?_;rw[A15,Az6];have J:=(e i k hi h).num;have E:4320/(en (H8 C P q) i k).den<=4320:=A16 _ _;have:=A1u J E;omega
 exact Bcb (g t oV)
end
end
section
variable {F:List Am}{k:Nat}{u:PH}
section
variable {P:List Par} {C:CF} {q r:Rat} {N:Nat} {b d:Option Par->Rat}
def Bb4 (g:G7 N C)(L:N<=14436727200)(E:G6 q)(H:0<=r)(U:r<=q)(j:∃ p:Int,r*30=p)(Q:P.length<=11)(R:1<=C.c)(e:∀ z,0<=Ba9 z P C)(I:∀ z,0<=sqC z P C)(h:Fj P C q b):Tx (Dk r b P C):=by
 have t:0<C.c:=by
  have n:(0:Rat)<1:=jV;grind
 obtain⟨D,h0,n,O⟩:=Aiy g L Q E.thirty E.pos t e h;have V:=An3 (q:=r) g j O;have T:=h.least (A4f E.pos) e fun _=>0;have J:=Alw (P:=P) (C:=C) (q:=q);unfold Dk at J;rw[J]at T;have Y:=(Pz g.l L).2;have W:=Aig (P:=P) H (I b);have X:=Azv (a:=q-r) (by grind) (S7 P b);have K:((100255050:Nat):Rat)=100255050:=jV;refine (Auw 9 (D:=D*D*144*30) (b:=319) (m:=100255050) (A24 (A24 (A24 h0 h0) oV) oV) ?_ V ⟨?_,?_⟩ fV).tx oV oV oV oV
 ·exact Awy (b:=319) (Hm (Hm (Hm n n) (show 144<10^3 by decide)) (show 30<10^2 by omega)) fV
 ·rw[K];grind
 rw[K];unfold Dk;grind
def Bcp (h:Fj P C q b)(j:Fj P C r d)(g:0<q)(m:q<r)(hp:∀ z,0<=Ba9 z P C):0<=Eu P b-Eu P d/\sqC b P C-sqC d P C<=0:=by
 have n:=h.least (A4f g) hp d;have t:=j.least (by grind) hp b;have e:0<=Eu P b-Eu P d:=by
  refine A60.1 fun H=>?_;have:=A9l (a:=r-q) (b:=-(Eu P b-Eu P d)) (by grind) (by grind);grind
 have E:=Azv (A4f g) e;exact⟨e,by grind⟩
end
def Avm.shape {C:CF}{q:Rat}{r:Value}(h:Avm F C k q r u):∃ y a n c e,r=.tuple #[.agg #[.string y,.slice a n c],.int .i64 e]:=by
 rcases h with ⟨e,rfl,_⟩|⟨_,P,j,m0,m,_,_,_,rfl,g,_⟩
 ·exact⟨_,_,_,_,_,rfl⟩
 obtain⟨a,c,rfl,_⟩:=g.val;exact⟨_,_,_,_,_,rfl⟩
def Ave.shape {C:CF}{q:Rat}{r:Value}{u m:PH}(h:Ave F C k q r u m):∃ j J E n K H t L I e,r=.tuple #[.agg #[.slice j J E,.slice n K H,.slice t L I],.int .i64 e]:=by
 rcases h with ⟨e,rfl,_⟩|⟨_,P,O,Q,U,V,R,T,g,_,_,rfl,_⟩<;>exact⟨_,_,_,_,_,_,_,_,_,_,rfl⟩
def Bb0:G6 (5/2):=⟨jV,⟨75,jV,fV⟩,(show SmR (5/2) from⟨jV,jV⟩).tx⟩
def Bc4 {v:Value}{ts:List Int}(ht:Js u)(hv:Ac u v 1 (Dj ts))(b8:∀ t∈ts,-9223372036854775808<=t)(b6:∀ t∈ts,t<=9223372036854775807) :
 Fn0 prog 7 [v] u fun v' _=>v'=.bool true:=by
 obtain⟨a,c,rfl⟩:=hv.opn;rw[B4]at hv⊢;refine Fn0.o func7 ?_;by_cases bi:400<ts.length
 ·refine G.gT ts.length 400<|G.c call8 (Jw ht) ?_;rintro v1 u1 l1 rfl;exact G.r (.bool true) ⟨rfl,rfl⟩
 refine G.gF ts.length 400<|G.callO _ _ kV call9 (Abz hv oV b8 b6) ?_;rintro v1 u1 m1 l1 ⟨s,rfl,rfl,hs⟩ _;rw[Bw];refine G.A call10 (Ab2 hs (Azh _)) ?_;rintro v2 u2 m2 l2 ⟨T,R,F,lab,L,xv,lv,cv,k2,rfl,w,bl,rfl⟩ _;rw[Bw];have H:=ht.mono (l1.trans l2);have W:=w.l6;have hT:=w.wok.tup;obtain⟨k,h⟩:=Nv w.sch w.ok w.t8 hT oV w.f5 w.lab0 w.cof oV;have I:=I7 w.ok w.ok.l1 (Ev w.ok) hT;have hN:L.length*2406121200<=14436727200:=oV;have m:=fun P z=>L6 w.ok.feat w.ok.l1 (Ev w.ok) z P fun y hy=>(hT y hy).1;have ar:=fun P z=>Af9 w.ok.feat w.ok.l1 (Ev w.ok) z P fun y hy=>(hT y hy).1;have b9:=fun P (hP:Iy F (Ce F lab L) P) (b2:P.length<=24)=>Bdc w.sch w.ok w.t8 hT W (w.cof.up oV) hP b2 w.lab0;have bg:=Agu w.ok w.t8 hT W Abw;have bh:=Agu w.ok w.t8 hT W Bb0;obtain⟨xa,xc,xb,xd,xe,xf,rfl,_⟩:=id w.sch;obtain⟨a1,n1,c1,a2,n2,c2,rfl⟩:=id w.cof.opn;obtain⟨la,lc,rfl⟩:=w.rows.opn;refine G.drop PH.mt kV (PH.mt_le _) ?_;clear w;generalize Ce F lab L=C at *
 have a8:=Oy H h Abw.w bg;have a9:=fun (u':PH) (l:PH.le u2 u')=>Oy (H.mono l) (h.mono l) Bb0.w bh;have aa:=fun (u':PH) (l:PH.le u2 u')=>(Ag8 (H.mono l) (h.mono l) Abw.w).giveAll;rw[show Ae 1 = [49] from W7]at a8 aa;rw[show Ae (5/2) = [53,47,50] by decide +kernel]at a9;refine G.c call24 a8 ?_;intro v3 u3 l3 h3;obtain⟨y3,b3,p3,q3,e3,rfl⟩:=h3.shape;refine G.c call24 (a9 u3 l3) ?_;intro v4 u4 l4 O;obtain⟨y4,b4,p4,q4,e4,rfl⟩:=O.shape;refine G.c call36 (aa u4 (l3.trans l4)) ?_;rintro v5 u5 l5 ⟨u0,m0',bm,b7,Q⟩;obtain⟨x1,x2,x3,x4,x5,x6,x7,x8,x9,e5,rfl⟩:=Q.shape;have ax:=(l3.trans l4).trans l5;have ba:=Jw (H.mono ax);rcases h3 with ⟨e,he,h3⟩|⟨h0,P,mv,m0,qs,n,j,bn,he,an,hm,hn⟩
 ·simp only[Amt,Value.tuple.injEq,A19,A0f,Value.agg.injEq,Value.string.injEq,Value.slice.injEq,Value.int.injEq,true_and,and_true]at he;obtain⟨⟨rfl,rfl,rfl,rfl⟩,rfl⟩:=he;refine G.nT' e3 0 (by rcases h3 with ⟨rfl,_⟩|⟨rfl,_⟩<;>decide) ?_
  refine G.c call8 ba ?_;rintro v6 u6 l6 rfl;exact G.r (.bool true) ⟨rfl,rfl⟩
 rcases O with ⟨e,_,O⟩|⟨_,P',bp,m0',qs',J,_,bj,aj,K,X,ao⟩
 ·exfalso;rcases O with ⟨_,O⟩|⟨_,_,P',b5,O⟩
  ·omega
  rw[b5.eq n]at O;omega
 rcases Q with ⟨e,_,Q⟩|⟨_,g,pa,pc,ya,yc,ra,rc,bk,V,_,ak,hL,Z,ad⟩
 ·exfalso;rcases Q with ⟨_,Q⟩|⟨_,_,g,ab,Q⟩
  ·omega
  rw[ab.eq n]at Q;omega
 obtain rfl:=J.eq n;obtain rfl:=V.eq J;simp only[Value.tuple.injEq,A19,A0f,Value.int.injEq,true_and,and_true]at he aj;obtain⟨rfl,rfl⟩:=he;obtain⟨rfl,rfl⟩:=aj;simp only[Value.tuple.injEq,A19,A0f,Value.agg.injEq,Value.slice.injEq,Value.int.injEq,true_and,and_true]at ak;obtain⟨⟨⟨rfl,rfl,rfl⟩,⟨rfl,rfl,rfl⟩,rfl,rfl,rfl⟩,rfl⟩:=ak;have hM:J9 u5 (.slice x4 (g.length+1) x6) (K6 (H8 C g 1)):=Ask (v:=.bool true) ad Z b7;refine G.nF 0 0<|G.nF 0 0<|G.nF 0 0 ?_;have ah:=h.mom.cpos h0;have ag:=Af6 h.mom ah;have ac:=h.p24 g n;have Y:=n.1.nodup Dl;have au:=Awo (P:=g) I hN Abw;obtain⟨ap,bb⟩:=Bdd au j Abw.pos ah (m g) Y;refine G.c call37 (Bbt hM (Avk I hN Abw j) Bct au oV ap bb) ?_;rintro v6 u6 l6 rfl;refine G.eT' 0 0 rfl ?_;have ay:=(l4.trans l5).trans l6;have az:=l5.trans l6;obtain⟨al,am⟩:=Bcp hn ao Abw.pos jV (m g);have ae:=Aqm hm;have af:=Aqm X;have E:∀ {b:Option Par->Rat},(∀ e,Tx (b e))->Sz (Eu g b) 1000000:=fun {b} hb=>by
  unfold Eu;exact (P7 (s:=800) (k:=60) (Kr fun p _=>Di (hb (some p)).sz (hb (some p)).sz) (Ayv j fV)).mono fV
 refine G.c call38 (Bbj Y (an.mono ay) hm oV) ?_;intro v7 u7 l7 k7;obtain⟨y7,rfl,k7⟩:=k7.fv6;refine G.c call38 (Bbj Y (K.mono (az.trans l7)) X oV) ?_;intro v8 u8 l8 k8;obtain⟨y8,rfl,k8⟩:=k8.fv6;have s7:=E ae;have s8:=E af;refine G.c call20 (Aie (k7.mono l8) k8 (s7.mono oV) (s8.mono oV)) ?_;intro v9 u9 l9 k9;obtain⟨y9,rfl,k9⟩:=k9.fv6;refine G.c call39 (Aci k9 (Ayv (Uh s7 s8).1 oV)) ?_;rintro bz bq bd rfl;rw[Acc];refine G.hT' (sg (Eu g (cfE m0 (g.zip qs))-Eu g (cfE m0' (g.zip qs')))) 0 (Ax3 al) ?_;have a7:=((l7.trans l8).trans l9).trans bd;obtain⟨k',U⟩:=b9 g n ac;obtain rfl:k'=k:=A6x.1 (by rw[<-U.mom.c,<-h.mom.c]);have a6:=ax.trans (l6.trans a7);have ai:∀ e f,Tx (Ar C e f):=fun e f=>(h.cellDe e f).tx oV oV oV oV;have aq:∀ e,Tx (Au C e):=fun e=>by
  cases e with
  |none=>exact (h.mom.s B7).tx oV oV oV oV
  |some p=>exact (h.mom.t (A2 B7 p)).tx oV oV oV oV
 have av:Tx (C.t (A2 B7 B7)):=(h.mom.t _).tx oV oV oV oV;have t1:=Bb4 I hN Abw (r:=1) jV jV ⟨30,jV⟩ j ag (m g) (fun z=>ar g z) hn;have t2:=Bb4 I hN Bb0 (r:=1) jV jV ⟨30,jV⟩ j ag (m g) (fun z=>ar g z) ao;have sq:∀ {b:Option Par->Rat},(∀ e,Tx (b e))->Tx (Dk 1 b g C)->Sz (sqC b g C) 2000000:=fun {b} hb ht=>by
  have e:sqC b g C=Dk 1 b g C-Eu g b:=by unfold Dk;grind
  rw[e];exact (Uh ht.sz (E hb)).mono oV
 refine G.c call40 (Bck (U.mono a6) h0 (an.mono (ay.trans a7)) hm j ai aq av t1) ?_;intro c0 br a5 a0;obtain⟨c7,rfl,a0⟩:=a0.fv6;refine G.c call40 (Bck (U.mono (a6.trans a5)) h0 (K.mono ((az.trans a7).trans a5)) X j ai aq av t2) ?_;intro c3 bt aw a3;obtain⟨c8,rfl,a3⟩:=a3.fv6;have b0:=sq ae t1;have b1:=sq af t2;refine G.c call20 (Aie (a0.mono aw) a3 (b0.mono oV) (b1.mono oV)) ?_;intro c4 bu be a4;obtain⟨c9,rfl,a4⟩:=a4.fv6;refine G.c call39 (Aci a4 (Ayv (Uh b0 b1).1 oV)) ?_;rintro c5 bw bf rfl;rw[Acc];refine G.kT' (sg (sqC (cfE m0 (g.zip qs)) g C-sqC (cfE m0' (g.zip qs')) g C)) 0 (Bdu am)<|G.c call8 (Jw (H.mono (a6.trans (((a5.trans aw).trans be).trans bf)))) ?_;rintro c6 bx bo rfl;exact G.r (.bool true) ⟨rfl,rfl⟩
end
end Go.Proofs.YtijchbjkdllolaaGreatDoor
