/- Parts of one proof, joined by a program. -/
import Derived.Test.YtijchbjkdllolaaGreatDoorO13
set_option linter.defProp false
set_option linter.unusedVariables false
set_option linter.unusedSimpArgs false
set_option linter.unusedSectionVars false
set_option maxHeartbeats 16000000
namespace Go.Proofs.YtijchbjkdllolaaGreatDoor
open Go.Proofs.Tryz
open Go.RowKit Go.MapKept
section
variable {u:PH}
def Ys {v g:Value}{m0:Rat}{M:List (Par×Rat)}(h:M5 u v m0 M)(j:M5 u g m0 M)(n:M.length<=1000000) :
 Fn0 prog 30 [v,g] u fun r _=>r=.bool true:=by
 obtain⟨a,c,rfl,m⟩:=h.val;obtain⟨t,C,rfl,e⟩:=j.val;refine Fn0.o func30<|G.q (Ae m0) (Ae m0) rfl<|G.c call29 (Ak7 m e n) ?_;rintro H F E rfl;exact G.r (.bool true) ⟨rfl,rfl⟩
structure As4 (u:PH)(T:List (List UInt8×Nat))(R:List Bu)(F:List Am)(lab:Int)(L:List Fx)(xv lv cv:Value):Prop where
 sch:G8 u xv T R F lab
 ok:Bt u T R F lab
 t8:T.length<=8
 lab0:0<=lab
 f5:F.length<=5
 rows:Ac u lv 2 (L.map F3)
 wok:WOK u T L
 w9:W9 T L
 l6:L.length<=6
 cof:Nu u cv (Ce F lab L) (255*L.length)
def Ab2 {s:Src}{ts:List Int}{k:Nat}(h:Ig u s ts)(hk:k<=s.n) :
 Ag prog 10 [s.ptr] u (s.M k) fun r u' m'=>∃ (T:List (List UInt8×Nat)) (R:List Bu) (F:List Am) (lab:Int) (L:List Fx) (U Q K:Value) (O:Nat),r=.tuple #[U,Q,K]/\As4 u' T R F lab L U Q K/\O<=s.n/\m'=s.M O:=by
 refine Ag.o func10<|G.A call43 (Aa6 5 oV oV h hk) ?_;rintro v1 u1 m1 l1 ⟨T,R,F,lab,k1,t,ok,e,g,a0,H,rfl,C⟩ _;rw[Bw];obtain⟨xa,xc,xb,xd,xe,xf,rfl,a3,a2,a1⟩:=id t;refine G.A call44 (Agp (most:=6) (h.mono l1) H t ok oV) ?_;rintro v2 u2 m2 l2 ⟨L,k2,m,E,N,Z,I,rfl⟩ _;rw[Bw];obtain⟨la,lc,rfl⟩:=m.opn;rw[Ayt]at m⊢;refine G.c call28 (K0 (t.mono l2) (ok.mono l2) e m N oV) ?_;rintro v3 u3 J ⟨x3,rfl,P⟩;obtain⟨V,X,g1,W,Y,g2,rfl⟩:=P.opn;have j:=l2.trans J;exact G.r (.tuple #[.agg #[.slice xa T.length xc,.slice xb R.length xd,.slice xe F.length xf,.int .i64 lab],.slice la L.length lc,.agg #[.string (mkS (Ae (Ce F lab L).c)),.slice V X g1,.slice W Y g2]])
  ⟨T,R,F,lab,L,_,_,_,k2,rfl,⟨t.mono j,ok.mono j,e,g,C,m.mono J,N.mono J,Z,E,P⟩,I,rfl⟩
def S3:List (List UInt8×Nat):=[([120],2),([121],2)]
def T7 (g:Nat):List Bu:=[([114],[0,1],(some ⟨g,0,none⟩,2))]
def Lo:List Am:=[(0,1,0)]
def Axe {g:Nat}(h:Ac u (.slice (some ⟨g,0,none⟩) 2 2) 1 (Ai [0,1])):Bt u S3 (T7 g) Lo 1 where
 att:=⟨Q1 jV,fun a j=>by simp[S3]at j;rcases j with rfl|rfl<;>decide⟩
 rel:=⟨Q1 (by show (([[114]]:List (List UInt8)).all Ha&&decide ([[114]]:List (List UInt8)).Nodup)=true;decide +kernel),fun r e=>by simp[T7]at e;subst e;simp,fun r e a j=>by simp[T7]at e;subst e;simp at j;show a<2;omega,fun r e=>by simp[T7]at e;subst e;simp,fun r e k x y n m=>by
  simp[T7]at e;subst e
  match k,n,m with
  |0,n,m=>simp at n m;omega
  |k+1,n,m=>simp at m,fun a j=>⟨_,Azs.2 rfl,by
  have:a<2:=j;simp;omega⟩,fun r e=>by simp[T7]at e;subst e;exact h⟩
 feat:=⟨fun f t=>by
  simp[Lo]at t;subst t;exact⟨[120],2,rfl,.inl ⟨rfl,rfl,fV⟩,fV⟩,fV⟩
 t1:=fV
 t2:=fV
 r1:=by show 0<1;omega
 r2:=by show 1<=6;omega
 f2:=fV
 l1:=fV
 l2:=fun l C=>by
  have:l=1:=oV
  subst this;exact⟨[121],rfl⟩
def Tc :Fn0 prog 41 [] u fun r m=>∃ g,G8 m r S3 (T7 g) Lo 1/\Bt m S3 (T7 g) Lo 1:=by
 refine Fn0.o func41<|G.buildU 162 2 24 (.agg #[.string (mkS []),.int .i64 0]) [.agg #[.string (mkS [120]),.int .i64 (2:Nat)],.agg #[.string (mkS [121]),.int .i64 (2:Nat)]] kV (fun x e=>by
  simp only[Ay7,A0b,or_false]at e;rcases e with rfl|rfl<;>exact⟨rfl,Azg.1 rfl⟩) rfl oV mV mV ?_
 intro g1 J I n;refine G.B 3 1 8 (.int .i64 0) [.int .i64 (0:Nat),.int .i64 (1:Nat)] (A8 [0,1]) ?_;intro g2 K l2 t;refine G.buildU 164 2 40 (.agg #[.string (mkS []),.slice none 0 0]) [.agg #[.string (mkS [114]),.slice (some ⟨g2,0,none⟩) 2 2]] kV (fun x e=>by
  simp only[Ay7,A0b,or_false]at e;subst e;exact⟨rfl,Azg.1 rfl⟩) rfl oV mV mV ?_
 intro F L j C;refine G.buildU 105 3 24 (.agg #[.int .i64 0,.int .i64 0,.int .i64 0]) [.agg #[.int .i64 (0:Nat),.int .i64 (1:Nat),.int .i64 (0:Nat)]] kV (fun x e=>by
  simp only[Ay7,A0b,or_false]at e;subst e;exact⟨rfl,Azg.1 rfl⟩) rfl oV mV mV ?_
 intro H N h E;exact G.r (.agg #[.slice (some ⟨g1,0,none⟩) 2 2,.slice (some ⟨F,0,none⟩) 1 1,.slice (some ⟨H,0,none⟩) 1 1,.int .i64 1])
  ⟨rfl,g2,⟨_,_,_,_,_,_,rfl,n.listP.mono ((l2.trans j).trans h),C.listP.mono h,E.listP⟩,Axe (t.listP.mono (j.trans h))⟩
end
def Pv (g:Nat):List Fx:=[([[49],[50]],1,(some ⟨g,0,none⟩,2))]
def Ye:List Par:=[((0:Int),[])]
def Avr:SmW (Fa [50])/\Fa [50]=2:=by
 have e:Fa [50]=2:=(congrArg Fa (by decide +kernel : [50]=Ae 2)).trans (Alq Uq);exact⟨by rw[e];exact Uq,e⟩
def Ahi:Cd S3 [[49],[50]]:=⟨rfl,fun i x t e g=>by
 match i,e,g with
 |0,e,g=>cases e;cases g;exact .inr (.inr (.inr ⟨rfl,1,Kf,jV⟩))
 |1,e,g=>cases e;cases g;exact .inr (.inr (.inr ⟨rfl,2,Uq,jV⟩))
 |i+2,e,g=>simp[S3]at e⟩
def Ast:Cd S3 [[55],[]]:=⟨rfl,fun i x t e g=>by
 match i,e,g with
 |0,e,g=>cases e;cases g;exact .inr (.inr (.inr ⟨rfl,7,⟨jV,jV⟩,jV⟩))
 |1,e,g=>cases e;cases g;exact .inl rfl
 |i+2,e,g=>simp[S3]at e⟩
def Aal:C5 S3 Lo 1:=⟨fun f e=>by
 simp[Lo]at e;subst e;exact⟨[120],2,rfl,.inl ⟨rfl,rfl,fV⟩,fV⟩,fV⟩
def Au9:Yk (cfT Lo 1 [[49],[50]])/\(cfT Lo 1 [[49],[50]]).s B7=2:=by
 have g:∀ l:Nat,(1:Int)=(l:Int)->l<([[49],[50]]:List (List UInt8)).length:=fun l g=>by
  have:l=1:=oV;subst this;decide
 have e:Mo Lo 1 [[49],[50]]=true:=jV;refine⟨?_,?_⟩
 ·rcases Lr Aal Ahi oV g with ⟨_,h⟩|⟨h,_⟩
  ·exact h
  rw[h]at e;cases e
 rw[Xn Aal Ahi oV g e (a:=1) (p:=B7) (q:=Fa [50]) (by
  rw[F1 (w:=[50]) rfl];unfold Gd Pw;rw[if_pos (show ((1:Nat):Int)=1 from rfl),if_neg fV];rfl),Avr.2]
def Av5 (g:Nat):Ce Lo 1 (Pv g)=(CF.num 0).add ((cfT Lo 1 [[49],[50]]).scale ((1:Nat):Rat)):=rfl
def Vp (C:CF):Iy Lo C Ye:=⟨A4i _ _,fun p=>by
 constructor
 ·intro h;have:p=(0,[]):=by simpa[Ye] using h
  subst this;exact .inl ⟨0,(0,1,0),rfl,rfl,rfl⟩
 rintro (⟨i,f,rfl,hf,_⟩|⟨_,i,f,_,hf,h2⟩)
 ·have:i<1:=(Ayu.1 hf).1;have:i=0:=oV;subst this;exact Azs.2 rfl
 have:i<1:=(Ayu.1 hf).1;have:i=0:=oV;subst this;cases hf;simp at h2⟩
def Agg (e:Option Par):cfE 2 [(((0:Int),[]),0)] e=match e with|none=>2|some _=>0:=by
 cases e with
 |none=>rfl
 |some p =>
  show Ap p [(((0:Int),[]),0)]=0;unfold Ap;split
  ·rfl
  rfl
def Aor (g:Nat):(Ce Lo 1 (Pv g)).c=1/\Fj Ye (Ce Lo 1 (Pv g)) 1 (cfE 2 [(((0:Int),[]),0)])/\Dk 1 (cfE 2 [(((0:Int),[]),0)]) Ye (Ce Lo 1 (Pv g))=0:=by
 obtain⟨h,j⟩:=Au9;rw[Av5];generalize cfT Lo 1 [[49],[50]]=H at h j;have m:((1:Nat):Rat)=1:=rfl;refine⟨?_,?_,?_⟩
 ·show 0+H.c*((1:Nat):Rat)=1;rw[h.c];decide +kernel
 ·intro e C;show Ar ((CF.num 0).add (H.scale ((1:Nat):Rat))) e none*cfE 2 [(((0:Int),[]),0)] none+(Ar ((CF.num 0).add (H.scale ((1:Nat):Rat))) e (some (0,[]))*cfE 2 [(((0:Int),[]),0)] (some (0,[]))+0)+Hc 1 (cfE 2 [(((0:Int),[]),0)]) e=Au ((CF.num 0).add (H.scale ((1:Nat):Rat))) e;have hp:Hc 1 (cfE 2 [(((0:Int),[]),0)]) e=0:=by
   cases e with
   |none=>rfl
   |some p=>show 1*cfE 2 [(((0:Int),[]),0)] (some p)=0;rw[Agg];show (1:Rat)*0=0;decide +kernel
  have n:Au (CF.num 0) e=0:=by cases e<;>rfl
  rw[hp,Agg,Agg,O3,O3,Pk,Ad6.cell,Ad6.cell,n,h.cell,h.cell,h.right,j,m];show (0+Ace H.s e*1*1)*2+((0+Ace H.s e*H.s (0,[])*1)*0+0)+0=0+2*Ace H.s e*1;grind
 unfold Dk;rw[Aa5,Ad6.sq,h.sq,j,m];have t:Eu Ye (cfE 2 [(((0:Int),[]),0)])=0:=by
  show cfE 2 [(((0:Int),[]),0)] (some (0,[]))*cfE 2 [(((0:Int),[]),0)] (some (0,[]))+0=0;rw[Agg];show (0:Rat)*0+0=0;decide +kernel
 have u:T3 (cfE 2 [(((0:Int),[]),0)]) Ye H.s=2:=by
  show cfE 2 [(((0:Int),[]),0)] none+(cfE 2 [(((0:Int),[]),0)] (some (0,[]))*H.s (0,[])+0)=2;rw[Agg,Agg];show 2+(0*H.s (0,[])+0)=2;grind
 rw[t,u];decide +kernel
def Ai8 (V:List (Par×Rat)):Lt 2 [(((0:Int),[]),0)] V=2:=by
 unfold Lt;rw[Ca fun t _=>by
  have:=Agg (some t.1);rw[show cfE 2 [(((0:Int),[]),0)] (some t.1)=Ap t.1 [(((0:Int),[]),0)] from rfl]at this;rw[this];show t.2*0=0;grind]
 decide +kernel
def Abw:G6 1:=⟨jV,⟨30,jV,fV⟩,Kf.tx⟩
def Jw {u:PH}(ht:Js u):Fn0 prog 8 [] u fun r _=>r=.bool true:=by
 refine Fn0.o func8<|G.c call41 Tc ?_;rintro v1 u1 l1 ⟨g1,I,n⟩;obtain⟨xa,xc,xb,xd,xe,xf,rfl,_⟩:=id I;refine G.B 9 1 16 (.string (mkS [])) [.string (mkS [49]),.string (mkS [50])] (Hk [[49],[50]]) ?_;intro g2 u2 l2 e2;refine G.buildU 56 2 32 (.agg #[.slice none 0 0,.int .i64 0]) [.agg #[.slice (some ⟨g2,0,none⟩) 2 2,.int .i64 1]] kV (fun x hx=>by
  simp only[Ay7,A0b,or_false]at hx;subst hx;exact⟨rfl,Azg.1 rfl⟩) rfl oV mV mV ?_
 intro g3 u3 l3 e3;have Q:Ac u3 (.slice (some ⟨g3,0,none⟩) (Pv g2).length 1) 2 ((Pv g2).map F3):=e3.listP;have hW:WOK u3 S3 (Pv g2):=fun y hy=>by
  have:y=([[49],[50]],1,(some ⟨g2,0,none⟩,2)):=by simpa[Pv] using hy
  subst this;exact⟨e2.listP.mono l3,Ahi,Ay2 1,by show 1<=7;omega⟩
 refine G.c call28 (K0 (I.mono (l2.trans l3)) (n.mono (l2.trans l3)) fV Q hW (by simp[Pv])) ?_;rintro v4 u4 l4 ⟨x,rfl,k4⟩;have m:=(l2.trans l3).trans l4;obtain⟨k,g⟩:=Nv (I.mono m) (n.mono m) fV hW.tup (by simp[Pv]) fV oV k4 (by simp[Pv]);have a5:=Agu (R:=T7 g1) (n.mono m) fV hW.tup (by simp[Pv]) Abw;have F:=fun P z=>L6 (L:=Pv g2) Aal oV (Ev n) z P fun y hy=>(hW.tup y hy).1;obtain⟨N,Y,O⟩:=Aor g2;have a3:=ht.mono (l1.trans m);generalize Ce Lo 1 (Pv g2)=C at g N Y O k4 a5 F;have h0:k≠0:=by
  rintro rfl;have:=g.mom.c;rw[N]at this;exact absurd this jV
 have a0:∀ {u':PH} {v':Value} {g':Nat},PH.le u4 u'->G8 u' v' S3 (T7 g') Lo 1->Bt u' S3 (T7 g') Lo 1->Ko u' v' x S3 (T7 g') Lo 1 C (255*(Pv g2).length) k:=fun l hX ok=>⟨hX,ok,g.cof.mono l,g.sC,g.vC,g.K,g.bel,g.mom,g.p24,g.lab0⟩;obtain⟨a1,n1,c1,a2,n2,c2,rfl⟩:=k4.opn;refine G.c call41 Tc ?_;rintro v5 u5 l5 ⟨g5,W,ak⟩;obtain⟨ya,yc,yb,yd,ye,yf,rfl,_⟩:=id W;have a6:=Oy (a3.mono l5) (a0 l5 W ak) Abw.w a5;rw[W7]at a6;refine G.c call24 a6 ?_;rintro v6 u6 l6 (⟨e,rfl,⟨_,h⟩|⟨_,_,P,hP,h⟩⟩|⟨_,P,mv,m0,qs,hPL,_,hql,rfl,hmv,hm,hn⟩)
 ·exact absurd h h0
 ·rw[hP.eq (Vp C)]at h;exact absurd h fV
 obtain rfl:=hPL.eq (Vp C);have ae:0<C.c:=by rw[N];decide +kernel
 obtain⟨rfl,rfl⟩:=Y3 (P:=Ye) fV hql (qs':=[0]) (m0':=2) rfl (Ym hn Y Abw.pos ae (F Ye));have a7:Ye.zip [0]=([(((0:Int),[]),0)]:List (Par×Rat)):=rfl;rw[a7]at hmv hm hn;obtain⟨na,nc,rfl,_⟩:=id hmv.val;have a8:=l5.trans l6;have a4:=a3.mono a8;refine G.both [1] 0 2 [3,4,5,6,7,8] kV ?wa ?wb
 case' wa =>
  refine G.c call41 Tc ?_;rintro v7 u7 l7 ⟨g7,ad,al⟩;refine G.B 9 1 16 (.string (mkS [])) [.string (mkS [55]),.string (mkS [])] (Hk [[55],[]]) ?_;intro g8 u8 l8 e8;have J:=ad.mono l8;have ab:=al.mono l8;have V:Ac u8 (.slice (some ⟨g8,0,none⟩) 2 2) 1 (([[55],[]]:List (List UInt8)).map nmV):=e8.listP
 case' wb =>
  refine G.B 9 1 16 (.string (mkS [])) [.string (mkS [55]),.string (mkS [])] (Hk [[55],[]]) ?_;intro g8 u7 l7 e8;refine G.c call41 Tc ?_;rintro v7 u8 l8 ⟨g7,J,ab⟩;have V:Ac u8 (.slice (some ⟨g8,0,none⟩) 2 2) 1 (([[55],[]]:List (List UInt8)).map nmV):=(e8.mono l8).listP
 all_goals
  obtain⟨za,zc,zb,zd,ze,zf,rfl,_⟩:=id J;have T:=l7.trans l8;have Z:=Tu (P:=Ye) (a4.mono T) ⟨J,ab,V,Ast⟩ (hmv.mono T) hm fV (Aam (Vp C) g.vC) (by rw[Ai8];exact Uq.tx);rw[Ai8,Adf]at Z;refine G.c call17 Z ?_;rintro v9 u9 l9 rfl;refine G.c call41 Tc ?_;rintro ax aq ag ⟨an,t,a9⟩;obtain⟨wa,wc,wb,wd,we,wf,rfl,_⟩:=id t;have j:=(T.trans l9).trans ag;have X:=Q0 (a4.mono j) (a0 (a8.trans j) t a9) Abw.w (Vp C) (hmv.mono j) hm (fun _ _=>by rw[O];exact Aa4);rw[O,D8,W7]at X;refine G.c call14 X ?_;rintro ay ar ah (⟨e,rfl,⟨_,h⟩|⟨_,_,h⟩⟩|⟨_,_,rfl⟩)
  ·exact absurd h h0
  ·exact absurd h fV
  refine G.eT' 0 0 rfl<|G.buildU 65 3 40 (.agg #[.int .i64 0,.string (mkS []),.string (mkS [])]) [.agg #[.int .i64 0,.string (mkS []),.string (mkS [48])]] kV (fun x hx=>by
   simp only[Ay7,A0b,or_false]at hx;subst hx;exact⟨rfl,Azg.1 rfl⟩) rfl oV mV mV ?_
  intro U am ai ac;have af:M5 am (.agg #[.string (mkS [50]),.slice (some ⟨U,0,none⟩) 1 1]) 2 [(((0:Int),[]),0)]:=⟨some ⟨U,0,none⟩,1,by rw[Adf];rfl,by
   have:=ac.listP;rwa[show [Value.agg #[.int .i64 0,.string (mkS []),.string (mkS [48])]]=([(((0:Int),[]),0)]:List (Par×Rat)).map As by simp[As,D8]]at this⟩
  have H:=(j.trans ah).trans ai;refine G.c call30 (Ys (hmv.mono H) af mV) ?_;rintro az au aj rfl;refine G.eT' 0 0 rfl<|G.q [50] [50] rfl<|G.eT' 0 0 rfl<|G.q [48] [48] rfl<|G.c call41 Tc ?_;rintro b0 av m ⟨ao,E,aa⟩;obtain⟨ta,tc,tb,td,te,tf,rfl,_⟩:=id E;refine G.c call42 (Sh E aa (hmv.mono ((H.trans aj).trans m)) hm fV (Aam (Vp C) g.vC)) ?_;rintro b1 aw ap rfl;exact G.r (.bool true) ⟨rfl,rfl⟩
section
variable {w:World}
variable [Cc] [Cm]
section
variable {P:Program} [A5 P] {fn:Func} {Post:By} {st:List KI×S} {u m:PH}
def PH.or_le {x y z:PH}(h:PH.le x z)(j:PH.le y z):PH.le (x.or y) z:=fun g o e=>by
 cases hx:x g with
 |none=>rw[PH.or_r hx]at e;exact j g o e
 |some p=>rw[PH.or_l hx]at e;cases e;exact h g _ hx
def Bo.both (h:Bo u m w):PH.le u (m.or u)/\Bo (m.or u) PH.mt w:=by
 have n:PH.le u (m.or u):=fun g o e=>by
  cases hx:m g with
  |none=>rw[PH.or_r hx];exact e
  |some p=>have:=(h.ap g).resolve_right (by rw[hx];simp);rw[this]at e;cases e
 refine⟨n,⟨fun g o e=>?_,E5.mt w,fun _=>.inr rfl,fun g cs t fr j z e C=>n g _ (h.cl g cs t fr j z e C)⟩⟩;cases hx:m g with
 |none=>rw[PH.or_r hx]at e;exact h.pu g o e
 |some p=>rw[PH.or_l hx]at e;cases e;exact h.pm g _ hx
def Bo.apart {w w':World}{n:PH}(h:Bo u m w)(g:Bo n PH.mt w')(C:Br (m.or u) PH.mt w n PH.mt w'):∃ F,m.or F=n/\Bo F m w'/\Br u m w F m w':=by
 have E:∀ b o,m b=some o->n b=some o:=fun b o e=>by
  rw[C.us b (h.pm.lt e)];exact PH.or_l e
 refine⟨fun b=>if (m b).isNone then n b else none,?_,⟨fun b o e=>?_,fun b o e=>?_,fun b=>?_,fun b cs t fr j z e K=>?_⟩,⟨C.sz,fun b e _=>C.old b e rfl,fun b e=>?_,fun b _ e=>e,C.io,C.dr⟩⟩
 ·funext b
  cases hx:m b with
  |none=>rw[PH.or_r hx];simp[hx]
  |some p=>rw[PH.or_l hx,E b p hx]
 ·have e:(if (m b).isNone then n b else none)=some o:=e;split at e
  ·exact g.pu b o e
  cases e
 ·exact g.pu b o (E b o e)
 ·cases hx:m b with
  |none=>exact .inr rfl
  |some p=>left;simp[hx]
 ·have H:=g.cl b cs t fr j z e K;cases hx:m b with
  |none=>simp[hx,H]
  |some p =>
   have I:=E b p hx;rw[H]at I;cases I;have J:=h.cl b cs t fr j z (h.pm b _ hx) K;have:=(h.ap b).resolve_right (by rw[hx];simp);rw[this]at J;cases J
 show (if (m b).isNone then n b else none)=u b;cases hx:m b with
 |none=>simp only[Option.isNone_none,if_true];rw[C.us b e,PH.or_r hx]
 |some p=>simp only[Option.isNone_some,A1q,if_false];exact ((h.ap b).resolve_right (by rw[hx];simp)).symm
def G.callJ (f:Nat)(args:List Value){R:Value->PH->Prop}(h:Aj P (adv P st)=.call f args)(U:∀ args w,(callFunc f args).run P w=.ok (.enter f args) w)(c:PH.le u (m.or u)->PH.le m (m.or u)->Fn0 P f args (m.or u) R)
 (k:∀ v j,PH.le u j->R v (m.or j)->G P fn Post (nx (adv P st) v) j m):G P fn Post st u m:=by
 refine G.big (K:=fun v j C=>C=m/\R v (m.or j)) h mV Dd (.inl fun v j C Q=>by rw[Q.1];exact PH.le_refl _) (fun J o t w n=>?_) (fun v j C N O=>?_)
 ·refine He t U w _ (Calls.mono (c n.both.1 (fun g o W=>PH.or_l W) w n.both.2) fun e w' V=>?_);obtain⟨v,X,C,E,F,H,rfl,I⟩:=V;obtain⟨j,L,g1,g2⟩:=n.apart F H;exact⟨v,E,j,m,g1,g2,rfl,by rw[L];exact I⟩
 obtain⟨rfl,T⟩:=O;exact k v j N T
end
end
def Acw:∀ L:List Fx,Ba 2 (L.map F3):=fun L e g=>by
 obtain⟨y,_,rfl⟩:=Ayx.1 g;exact Xx y _ mV
def At7 {u:PH}{v:Value}{ts:List Int}(ht:Js u)(hv:Ac u v 1 (Dj ts))(al:∀ t∈ts,-9223372036854775808<=t)(ai:∀ t∈ts,t<=9223372036854775807) :
 Fn0 prog 5 [v] u fun v' _=>v'=.bool true:=by
 obtain⟨a,c,rfl⟩:=hv.opn;rw[B4]at hv⊢;refine Fn0.o func5 ?_;by_cases au:400<ts.length
 ·refine G.gT ts.length 400<|G.c call8 (Jw ht) ?_;rintro v1 u1 l1 rfl;exact G.r (.bool true) ⟨rfl,rfl⟩
 refine G.gF ts.length 400<|G.callO _ _ kV call9 (Abz hv oV al ai) ?_;rintro v1 u1 m1 l1 ⟨s,rfl,rfl,hs⟩ _;rw[Bw];refine G.A call10 (Ab2 hs (Azh _)) ?_;rintro v2 u2 m2 l2 ⟨T,R,F,lab,L,xv,lv,cv,k2,rfl,w,aj,rfl⟩ _;rw[Bw];have N:=ht.mono (l1.trans l2);have a8:=w.l6;have hT:=w.wok.tup;obtain⟨k,X⟩:=Nv w.sch w.ok w.t8 hT oV w.f5 w.lab0 w.cof oV;have aa:=fun P z=>L6 w.ok.feat w.ok.l1 (Ev w.ok) z P fun y hy=>(hT y hy).1;obtain⟨xa,xc,xb,xd,xe,xf,rfl,_⟩:=id w.sch;obtain⟨a1,n1,c1,a2,n2,c2,rfl⟩:=id w.cof.opn;have j:=w.rows;obtain⟨la,lc,rfl⟩:=j.opn;rw[Ayt]at j⊢;refine G.A call13 (Nj (hs.mono l2) aj) ?_;rintro v3 u3 m3 l3 ⟨q,k3,rfl,V,aw,rfl⟩ _;rw[Bw];refine G.c call25 (Atf V.tx V.tx V.two.1.tx) ?_;rintro v4 u4 l4 rfl;have E:=l3.trans l4;refine G.appendL 56 2 32 (.agg #[.slice none 0 0,.int .i64 0]) (s.M k3) [] (L.map F3) (.slice none 0 0) la L.length lc kV rfl rfl oV (Af.nil _ _ _) (j.mono E) (Acw L) gV gV ?_;intro v5 m5 W;rw[A00]at W;obtain⟨a5,c5,rfl⟩:=W.shape;refine G.appendL 56 2 32 (.agg #[.slice none 0 0,.int .i64 0]) (s.M k3) (L.map F3) (L.map F3) (.slice a5 (L.map F3).length c5) la L.length lc kV rfl rfl oV W (j.mono E) (Acw L) gV gV ?_;intro v6 m6 K;rw[<-Aza]at K;obtain⟨a6,c6,rfl⟩:=K.shape;have ak:((L++L).map F3).length=(L++L).length:=Ayt ..;rw[ak]at K⊢;have Q:(L++L).length<=12:=by rw[Ay3];omega
 have af:∀ y∈L++L,Cd T y.1/\y.2.1<=7:=fun y hy=>by
  rcases Ay5.1 hy with h|h<;>exact hT y h
 have ag:WOK u2 T (L++L):=fun y hy=>by
  rcases Ay5.1 hy with h|h<;>exact w.wok y h
 refine G.callJ (R:=fun r u'=>Au7 u' r (Ce F lab (L++L)) (255*(L++L).length)) _ _ kV call28 (fun hl hm=>K0 (w.sch.mono (E.trans hl)) (w.ok.mono (E.trans hl)) w.t8 (K.list hm) (ag.mono (E.trans hl)) Q) ?_;rintro v7 u7 l7 ⟨x7,rfl,k7⟩;obtain⟨e1,f1,g1,e2,f2,g2,rfl⟩:=k7.opn;refine G.giveP (ma:=m6) (sm:=PH.mt) kV (Ajl m6).symm (fun g=>.inr rfl) (fun g=>.inl rfl) ?_;intro u8 l8 am;have k8:=k7.mono (PH.or_le am l8);have C:=(E.trans l7).trans l8;obtain⟨k',O⟩:=Nv (w.sch.mono C) (w.ok.mono C) w.t8 af Q w.f5 w.lab0 k8 oV;have ax:k'=k+k:=by
  have I:=O.mom.c;have J:(Ce F lab (L++L)).c=(Ce F lab L).c+(Ce F lab L).c:=by rw[Ns];rfl
  rw[J,X.mom.c,<-A5j]at I;exact (A6x.1 I).symm
 refine G.c call24 (Oy (N.mono C) (X.mono C) V.w (Agu w.ok w.t8 hT a8 V)) ?_;intro v9 u9 l9 a3;obtain⟨mv,e9,rfl,H⟩:∃ (mv:Value) (e:Int),v9=.tuple #[mv,.int .i64 e]/\∃ y a n c,mv=.agg #[.string y,.slice a n c]:=by
  rcases a3 with ⟨e,rfl,_⟩|⟨_,P,mv,m0,qs,_,_,_,rfl,H,_⟩
  ·exact⟨Amt,e,rfl,_,_,_,_,rfl⟩
  obtain⟨a,c,rfl,_⟩:=H.val;exact⟨_,0,rfl,_,_,_,_,rfl⟩
 obtain⟨y9,b9,n9,c9,rfl⟩:=H;refine G.c call24 (Oy (N.mono (C.trans l9)) (O.mono l9) V.two.1 (Atr w.ok w.t8 hT a8 V)) ?_;intro aq b1 a0 a4;have ao:=Jw (N.mono ((C.trans l9).trans a0));rcases a3 with ⟨e,he,I⟩|⟨h0,P,mv,m0,qs,Z,av,an,he,H,hm,hn⟩
 ·simp only[Amt,Value.tuple.injEq,A19,A0f,Value.agg.injEq,Value.string.injEq,Value.slice.injEq,Value.int.injEq,true_and,and_true]at he;obtain⟨⟨rfl,rfl,rfl,rfl⟩,rfl⟩:=he;have ae:aq=.tuple #[Amt,.int .i64 e9]:=by
   rcases a4 with ⟨e',rfl,J⟩|⟨ad,P',_,_,_,m,Y,_⟩
   ·have:e'=e9:=by
     rcases I with ⟨rfl,I⟩|⟨rfl,I,_⟩<;>rcases J with ⟨rfl,J⟩|⟨rfl,J,_⟩<;>omega
    rw[this]
   exfalso;rcases I with ⟨_,I⟩|⟨_,I,P,hP,h3⟩
   ·omega
   rw[Ns]at m;rw[hP.eq (Xk m)]at h3;omega
  subst ae;have ah:e9≠0:=by rcases I with ⟨rfl,_⟩|⟨rfl,_⟩<;>decide
  refine G.nF 0 0<|G.nF' e9 e9 (fun h=>h rfl)<|G.nT' e9 0 ah<|G.c call8 ao ?_;rintro ar ap ac rfl;exact G.r (.bool true) ⟨rfl,rfl⟩
 simp only[Value.tuple.injEq,A19,A0f,Value.int.injEq,true_and,and_true]at he;obtain⟨rfl,rfl⟩:=he;rcases a4 with ⟨e',rfl,J⟩|⟨ad,P',b0,m0',qs',m,Y,ab,rfl,U,ay,a9⟩
 ·exfalso;rcases J with ⟨_,J⟩|⟨_,J,P',a7,h3⟩
  ·omega
  rw[Ns]at a7;rw[(Xk a7).eq Z]at h3;omega
 rw[Ns]at m a9;obtain rfl:=Z.eq (Xk m);obtain⟨rfl,rfl⟩:=Y3 (Z.1.nodup Dl) an ab (Ym hn (Zi a9) V.pos (X.mom.cpos h0) (aa P));obtain⟨ma,mc,rfl,_⟩:=id U.val;refine G.nF 0 0<|G.nF 0 0<|G.nF 0 0<|G.nF 0 0<|G.c call30 (Ys (H.mono a0) U (by rw[A73];omega)) ?_;rintro ar ap ac rfl;refine G.c call8 (Jw (N.mono (((C.trans l9).trans a0).trans ac))) ?_;rintro b3 b2 az rfl;exact G.r (.bool true) ⟨rfl,rfl⟩
section
variable {b:Option Par->Rat}{i:Nat}
def Nt (b:Option Par->Rat)(P:List Par)(C:CF)(e:Option Par):Rat:=-Au C e+Ao (fun f=>Ar C e f*b f) (Ah P)
def QOK.gs {C:CF}(h:QOK b C)(e:Option Par)(l:List (Option Par))(g:l.length<=61):Sz (-Au C e+Ao (fun f=>Ar C e f*b f) l) 200000 :=
 (Gy (Amy (h.r e)) (P7 (Kr fun f _=>Di (h.c e f) (h.b f)) g)).mono oV
def Dh.set {u:PH}{es:List Value}{n:List Rat}{e:Value}{q:Rat}(h:Dh u es n)(hi:i<n.length)(t:Ax u e q):Dh u (es.set i e) (n.set i q):=by
 refine⟨by rw[A1o,A1o];exact h.1,fun j r m=>?_⟩;have E:=h.1;by_cases g:i=j
 ·subst g;rw[A12 oV]at m;cases m;exact⟨e,A12 oV,t⟩
 rw[A37 g]at m;rw[A37 g];exact h.2 j r m
def Ant {u:PH}{lv v:Value}{P:List Par}{C:CF}{N:Nat}(hl:Aah u lv P b)(hv:Rc u v C N)(hP:P.length<=60)(I:QOK b C) :
 Ag prog 75 [lv,v] u PH.mt fun r u' Y=>∃ es,Af PH.mt Y r 118 4 es/\Dh u' es ((Ah P).map (Nt b P C)):=by
 obtain⟨pa,pc,ca,cc,rfl,a8,es,hL,hF⟩:=hl.val;have a1:=Bk P;have a9:es.length=P.length+1:=by rw[hF.1,Ayt,a1]
 obtain⟨b0,a0,n0,c0,U,Q,Z,V,g1,g2,rfl,hc⟩:=Vc hv;refine Ag.o func75<|G.l (ι:=Nat×(Option Addr×Nat)×List Value) (fun i=>[(2,.p 0 0),(3,.p 1 0),(5,sV i.2.1.1 i.1 i.2.1.2),(12,iV (P.length+1:Nat)),(13,iV i.1)])
  (fun i=>[(0,⟨110,[sV pa P.length pc,sV ca (P.length+1) cc]⟩),(1,⟨123,[bV b0,sV a0 n0 c0,bV U,sV Q Z V,.v (.map (some g1)),.v (.map (some g2))]⟩)])
  (fun i u' Y=>i.1<=P.length+1/\Dh u' i.2.2 (((Ah P).take i.1).map (Nt b P C))/\Af PH.mt Y (.slice i.2.1.1 i.1 i.2.1.2) 118 4 i.2.2) (fun i=>P.length+1-i.1) (0,(none,0),[]) ⟨Azh _,⟨rfl,fun j q hj=>by simp at hj⟩,Af.nil _ _ _⟩ ?_
 rintro J ⟨i,⟨oa,oc⟩,O⟩ hJ u2 m2 l2 ⟨hi,hO,hA⟩;simp only at hi hO hA hJ;by_cases aa:i<P.length+1
 ·refine G.lT i (P.length+1:Nat) ?_;obtain⟨e,t⟩:∃ e,(Ah P)[i]?=some e:=⟨_,Ayr oV⟩;refine G.c call110 (Amr (hl.mono l2) (hv.mono l2) oV t) ?_;intro v3 u3 l3 k3;obtain⟨f3,rfl⟩:=k3.opF;refine G.c call148 (Adg k3 (Ayv (I.r e).1 oV)) ?_;intro v4 u4 l4 k4;obtain⟨f4,rfl⟩:=k4.opF;have z0:-Au C e+0 = -Au C e:=by grind
  refine G.l (ι:=Nat×F4) (fun n=>[(2,.p 0 0),(3,.p 1 0),(5,sV oa i oc),(6,iV i),(7,.p 5005 0),(12,iV (P.length+1:Nat)),(13,iV i),(22,sV ca (P.length+1) cc),(23,iV (P.length+1:Nat)),(24,iV n.1)])
   (fun n=>[(0,⟨110,[sV pa P.length pc,sV ca (P.length+1) cc]⟩),(1,⟨123,[bV b0,sV a0 n0 c0,bV U,sV Q Z V,.v (.map (some g1)),.v (.map (some g2))]⟩),(5005,⟨118,fc n.2⟩)])
   (fun n u' Y=>n.1<=P.length+1/\Ax u' (fv n.2) (-Au C e+Ao (fun f=>Ar C e f*b f) ((Ah P).take n.1))/\Y=m2) (fun n=>P.length+1-n.1) (0,f4) ⟨Azh _,by show Ax _ _ (-Au C e+0);rw[z0];exact k4,rfl⟩ ?_
  rintro J2 ⟨n,f⟩ W u5 m5 l5 ⟨hn,k5,rfl⟩;simp only at hn k5 W;have h:=((l2.trans l3).trans l4).trans l5;by_cases a4:n<P.length+1
  ·refine G.lT n (P.length+1:Nat) ?_;obtain⟨f',E⟩:∃ f,(Ah P)[n]?=some f:=⟨_,Ayr oV⟩;have a6:=I.gs e ((Ah P).take n) (by rw[Ay1];omega);have H:-Au C e+Ao (fun f=>Ar C e f*b f) ((Ah P).take (n+1)) = -Au C e+Ao (fun f=>Ar C e f*b f) ((Ah P).take n)+Ar C e f'*b f':=by rw[Da E,Fs];grind
   obtain⟨y,hy,g⟩:=hF.2 n (b f') (by rw[Ayy,E];rfl);obtain⟨fb,fo,rfl,ef⟩:=Ac.at' (hL.mono h) (j:=n) (e:=y) hy;have g:=g.mono h;obtain⟨fy,rfl⟩:=g.opF;refine G.a fb fo (P.length+1) cc n 4 a4<|G.lU (some 4) fb (fo+n*4) (fv fy) ef<|G.c call149 (V4 (hl.mono h) (hv.mono h) oV t E) ?_;intro v6 u6 L k6;obtain⟨f6,rfl⟩:=k6.opF;refine G.c call55 (Ik k6 (g.mono L) ((I.c e f').mono oV) ((I.b f').mono oV)) ?_;intro v7 u7 l7 k7;obtain⟨f7,rfl⟩:=k7.opF;refine G.c call53 (If (k5.mono (L.trans l7)) k7 (a6.mono oV) ((Di (I.c e f') (I.b f')).mono oV)) ?_;intro v8 u8 l8 k8;obtain⟨f8,rfl⟩:=k8.opF;rw[<-H]at k8;exact G.i n<|G.b (W (n+1,f8) _ _ _ cV (((l5.trans L).trans l7).trans l8) ⟨dV,k8,rfl⟩ dV)
  obtain rfl:n=P.length+1:=oV;refine G.lF (P.length+1:Nat) (P.length+1:Nat) ?_;rw[Ay6 oV]at k5;refine G.B 118 4 64 (.agg #[.bool false,.slice none 0 0,.bool false,.slice none 0 0]) [fv f] (Auf f) ?_;intro g6 u6 L e6;have a5:i=O.length:=hA.len;refine G.append 118 4 64 (.agg #[.bool false,.slice none 0 0,.bool false,.slice none 0 0]) PH.mt O [fv f] (.slice oa i oc) g6 0 1 1 kV rfl rfl oV hA e6 (Auf f) rfl oV oV oV ?_;intro v7 m7 m;obtain⟨a7,c7,rfl⟩:=m.shape;have a3:(O++[fv f]).length=i+1:=by rw[Ay3,<-a5];rfl
  rw[a3]at m⊢;have X:=((l3.trans l4).trans l5).trans L;have a2:Dh u6 (O++[fv f]) (((Ah P).take (i+1)).map (Nt b P C)):=by
   rw[Da t,Aza];exact (hO.mono X).snoc (k5.mono L)
  exact G.i i<|G.b (hJ (i+1,(a7,c7),O++[fv f]) _ _ _ cV (l2.trans X) ⟨dV,a2,m⟩ dV)
 obtain rfl:i=P.length+1:=oV;refine G.lF (P.length+1:Nat) (P.length+1:Nat) ?_;rw[Ay6 oV]at hO;exact G.r (.slice oa (P.length+1) oc) ⟨O,hA,hO⟩
section
variable {u:PH} {v cv mv:Value} {T:List (List UInt8×Nat)} {R:List Bu} {F:List Am} {lab:Int} {C:CF} {K k:Nat} {q:Rat} {P:List Par} {m0:Rat} {M:List (Par×Rat)}
def Ny (q:Rat)(b:Option Par->Rat)(P:List Par)(C:CF)(e:Option Par):Rat:=Nt b P C e+Hc q b e
def Iv (q:Rat)(b:Option Par->Rat)(P:List Par)(C:CF)(i:Nat):List Rat:=((Ah P).take i).map (Ny q b P C)++((Ah P).drop i).map (Nt b P C)
def Zf (q:Rat)(b:Option Par->Rat)(P:List Par)(C:CF)(i:Nat):(Iv q b P C i).length=P.length+1:=by
 unfold Iv;rw[<-Bk P,Ay3,Ayt,Ayt,Ay1,A3h];omega
def Agr {q:Rat}{P:List Par}{C:CF}{e:Option Par}(h:(Ah P)[i]?=some e) :
 (Iv q b P C i)[i]?=some (Nt b P C e)/\Iv q b P C (i+1)=(Iv q b P C i).set i (Ny q b P C e):=by
 obtain⟨g,rfl⟩:=Ayu.1 h;have m:(Ah P).drop i=(Ah P)[i]::(Ah P).drop (i+1):=(A3l g);have j:(((Ah P).take i).map (Ny q b P C)).length=i:=by rw[Ayt,Ay1];omega
 unfold Iv;rw[m,Azu,Da h,Aza];constructor
 ·rw[Azy oV,j,A20];rfl
 rw[A2j _ _ oV,j,A20,A0p,Azm];rfl
def Aot (ht:Js u)(h:Ko u v cv T R F lab C K k)(hq:Aem q)(a9:Iy F C P)(a5:M5 u mv m0 M)(hm:H7 P m0 M)(h0:k≠0)(ag:P.length<=11)(hT:∀ e∈Ah P,Tx (Ny q (cfE m0 M) P C e)) :
 Fn0 prog 31 [v,cv,mv,.string (mkS (Ae q))] u fun r u'=>∃ lv,r=.tuple #[lv,.int .i64 0]/\Dc u' lv (((Ah P).map (Ny q (cfE m0 M) P C)).map Ae):=by
 have ab:=Aey h hq a9 a5 hm;have aa:=fun (u':PH) (l:PH.le u u')=>Axm (h.cof.mono l) h.sC (by have:=h.K;omega);have t:=h.mom.qok hm;obtain⟨xa,xc,xb,xd,xe,xf,rfl,_⟩:=id h.sch;obtain⟨a1,n1,c1,a2,n2,c2,rfl⟩:=id h.cof.opn;obtain⟨na,nc,rfl,_⟩:=id a5.val;have a6:Sz q 1000:=hq.tx.sz.mono oV;generalize cfE m0 M=b at *
 refine Fn0.o func31<|G.c call50 ab ?_;rintro v1 u1 l1 (⟨e,rfl,⟨_,he⟩|⟨_,_,he⟩⟩|⟨_,_,lv,rfl,E⟩)
 ·exact absurd he h0
 ·omega
 obtain⟨pa,pc,fa,V,rfl,ah,es,hL,hF⟩:=id E.val;have X:=Bk P;have ai:es.length=P.length+1:=by rw[hF.1,Ayt,X]
 refine G.nF 0 0<|G.c call52 (aa u1 l1) ?_;intro v2 u2 l2 k2;obtain⟨b0,a0,n0,c0,ae,ad,ak,af,g1,g2,rfl⟩:=Adp k2;refine G.callO _ _ kV call75 (Ant (E.mono l2) k2 oV t) ?_;rintro v3 u3 m3 l3 ⟨L,H,I⟩ _;rw[Bw];have m:L.length=P.length+1:=by rw[I.1,Ayt,X]
 obtain⟨go,W,rfl⟩:=H.ptr (by intro e;rw[e]at m;simp at m);rw[m]at H⊢;have Y:Dh u3 L (Iv q b P C 0):=by
  have:Iv q b P C 0=(Ah P).map (Nt b P C):=by unfold Iv;rw[A14,A25];rfl
  rw[this];exact I
 refine G.l (ι:=Nat×List Value) (fun i=>[(3,tV (Ae q)),(12,sV (some ⟨go,0,none⟩) (P.length+1) W),(31,sV fa (P.length+1) V),(32,iV (P.length+1:Nat)),(33,iV i.1)]) (fun _=>[])
  (fun i u' m'=>i.1<=P.length+1/\i.2.length=P.length+1/\Dh u' i.2 (Iv q b P C i.1)/\Af PH.mt m' (.slice (some ⟨go,0,none⟩) (P.length+1) W) 118 4 i.2) (fun i=>P.length+1-i.1) (0,L)
  ⟨Azh _,m,Y,H⟩ ?_
 clear H I Y m;rintro J ⟨i,L⟩ hJ u4 m4 l4 ⟨hi,m,I,H⟩;simp only at hi m I H hJ;have ac:=((l1.trans l2).trans l3).trans l4;by_cases Q:i<P.length+1
 ·refine G.lT i (P.length+1:Nat) ?_;obtain⟨e,O⟩:∃ e,(Ah P)[i]?=some e:=⟨_,Ayr oV⟩;obtain⟨a3,a4⟩:=Agr (q:=q) (b:=b) (C:=C) O;obtain⟨x,hx,N⟩:=hF.2 i (b e) (by rw[Ayy,O];rfl);obtain⟨fb,fo,rfl,ef⟩:=Ac.at' (hL.mono ((l2.trans l3).trans l4)) (j:=i) (e:=x) hx;have N:=N.mono ((l2.trans l3).trans l4);obtain⟨fx,rfl⟩:=N.opF;refine G.a fb fo (P.length+1) V i 4 Q<|G.lU (some 4) fb (fo+i*4) (fv fx) ef ?_;rcases Q9 O with ⟨rfl,rfl⟩|⟨j,p,rfl,aj,rfl⟩
  ·refine G.gF (0:Nat) 0<|G.p (0:Nat) 1 (0+1:Nat)<|G.b (hJ (0+1,L) _ _ _ cV l4 ⟨dV,m,?_,H⟩ dV);have e1:Ny q b P C none=Nt b P C none:=by show Nt b P C none+0=_;grind
   show Dh u4 L (Iv q b P C (0+1));rw[a4,e1];have:(Iv q b P C 0).set 0 (Nt b P C none)=Iv q b P C 0:=by
    refine A2f fun n=>?_;by_cases hn:0=n
    ·subst hn;rw[a3,A12 (by rw[Zf];omega)]
    rw[A37 hn]
   rw[this];exact I
  refine G.gT (j+1:Nat) 0 ?_;obtain⟨y,hy,Z⟩:=I.2 (j+1) _ a3;obtain⟨fy,rfl⟩:=Z.opF;refine G.a go 0 (P.length+1) W (j+1) 4 Q<|G.lM (some 4) go (0+(j+1)*4) (fv fy) (H.el hy)<|G.c call54 (Dr hq.tx) ?_;intro v5 u5 U k5;obtain⟨f5,rfl⟩:=k5.opF;refine G.c call55 (Ik k5 (N.mono U) (a6.mono oV) ((t.b _).mono oV)) ?_;intro v6 u6 l6 k6;obtain⟨f6,rfl⟩:=k6.opF;refine G.c call53 (If (Z.mono (U.trans l6)) k6 ((t.gs (some p) (Ah P) oV).mono oV) ((Di a6 (t.b (some p))).mono oV)) ?_;intro v7 u7 l7 k7;obtain⟨f7,rfl⟩:=k7.opF;refine G.a go 0 (P.length+1) W (j+1) 4 Q<|G.storeA 4 PH.mt L go (P.length+1) W (j+1) (fv f7) kV H oV rfl rfl ?_;intro m8 a8;have a7:=(U.trans l6).trans l7;refine G.p (j+1:Nat) 1 (j+1+1:Nat)<|G.b (hJ (j+1+1,L.set (j+1) (fv f7)) _ _ _ cV (l4.trans a7) ⟨dV,by dsimp only;rw[A1o];exact m,?_,a8⟩ dV);show Dh u7 (L.set (j+1) (fv f7)) (Iv q b P C (j+1+1));rw[a4];exact (I.mono a7).set (by rw[Zf];omega) k7
 obtain rfl:i=P.length+1:=oV;refine G.lF (P.length+1:Nat) (P.length+1:Nat) ?_;have e1:Iv q b P C (P.length+1)=(Ah P).map (Ny q b P C):=by
  unfold Iv;rw[Ay6 oV,Az1 oV,A3n,Azl]
 rw[e1]at I;refine G.give _ _ _ kV H (fun g=>.inl rfl) ?_;intro u5 U hS;refine G.c call76 (Vh (ht.mono (ac.trans U)) ⟨L,hS,I.mono U⟩ (fun q hq=>by
  obtain⟨e,he,rfl⟩:=Ayx.1 hq;exact hT e he) (by rw[Ayt];omega)) ?_
 rintro v6 u6 l6 ⟨lv,rfl,E⟩;obtain⟨ya,yc,rfl⟩:=Ac.opn E;exact G.r _ ⟨rfl,_,rfl,E⟩
end
end
section
variable {u:PH}{v:Value}
def Afr {L:List Par}{p:Par}{k:Nat}(h:Ac u v 2 (L.map Aq))(E:L[k]?=some p)(O:L.Nodup)(Q:L.length<=1000000) :
 Fn0 prog 78 [v,Aq p] u fun r _=>r=.int .i64 k:=by
 obtain⟨a,c,rfl⟩:=h.opn;rw[Ayt]at h⊢;obtain⟨N,t⟩:=Ayu.1 E;refine Fn0.o func78<|G.l (ι:=Nat) (fun i=>[(3,.p 0 0),(7,sV a L.length c),(8,iV L.length),(9,iV i)]) (fun _=>[(0,⟨63,[iV p.1,tV p.2]⟩)])
  (fun i T P=>i<=k/\P=PH.mt) (fun i=>k+1-i) 0 ⟨oV,rfl⟩ ?_
 rintro J i K U R F ⟨hi,rfl⟩;refine G.lT i L.length ?_;have g:L[i]?=some L[i]:=Ayr oV;obtain⟨C,H,rfl,I⟩:=Ac.at' (h.mono F) (j:=i) (e:=Aq L[i]) (by simp[g]);refine G.a C H L.length c i 2 oV<|G.lU (some 2) C (H+i*2) (.agg #[.int .i64 L[i].1,.string (mkS L[i].2)]) I ?_;by_cases n:L[i]=p
 ·have m:i=k:=Ia O (by rw[g,n]) E;exact G.eqAgg 63 #[.int .i64 L[i].1,.string (mkS L[i].2)] #[.int .i64 p.1,.string (mkS p.2)] true kV kV kV (fun w=>by rw[<-decide_eq_true n];exact Bx.eq L[i] p w)<|G.r (.int .i64 i) ⟨rfl,by rw[m]⟩
 have m:i≠k:=fun e=>by subst e;exact n t
 exact G.eqAgg 63 #[.int .i64 L[i].1,.string (mkS L[i].2)] #[.int .i64 p.1,.string (mkS p.2)] false kV kV kV (fun w=>by rw[<-decide_eq_false n];exact Bx.eq L[i] p w)<|G.i i<|G.b (K (i+1) _ _ _ cV F ⟨oV,rfl⟩ oV)
def Afj (s:Value)(i:Nat):s::List.replicate i (Value.string (mkS [48]))++[Value.string (mkS [48])]=s::List.replicate (i+1) (Value.string (mkS [48])):=by
 rw[A11,A6u]
def Zs {pv v:Value}{P:List Par}{m0:Rat}{M:List (Par×Rat)}(hP:Ac u pv 2 (P.map Aq))(hs:Ez Bf P)(hl:P.length<=10000)(h:M5 u v m0 M)(ok:H7 P m0 M) :
 Fn0 prog 32 [pv,v] u fun r W=>∃ lv,r=.tuple #[lv,.int .i64 0]/\Dc W lv (((Ah P).map (cfE m0 M)).map Ae):=by
 have ah:=ok.len;have K:=Aqf hP hs oV;have Y:=hs.nodup Dl;have a8:=ok.srt.nodup Dl;obtain⟨pa,pc,rfl⟩:=hP.opn;obtain⟨a,c,rfl,hM⟩:=h.val;rw[Ayt]at hP K⊢;refine Fn0.o func32<|G.c call77 K ?_;rintro v1 u1 l1 rfl;refine G.c call18 (D1 ok.c) ?_;rintro v2 u2 l2 rfl;have af:=l1.trans l2;refine G.l (ι:=Nat) (fun i=>[(0,sV pa P.length pc),(3,.p 0 0),(20,sV a M.length c),(21,iV M.length),(22,iV i)]) (fun _=>[(0,⟨44,[tV (Ae m0),sV a M.length c]⟩)])
  (fun i W m'=>i<=M.length/\m'=PH.mt) (fun i=>M.length-i) 0 ⟨Azh _,rfl⟩ ?_
 rintro J i hJ u3 m3 l3 ⟨hi,rfl⟩;have a3:=af.trans l3;by_cases C:i<M.length
 ·refine G.lT i M.length ?_;obtain⟨x,m⟩:∃ x,M[i]?=some x:=⟨_,Ayr C⟩;obtain⟨H,Q,rfl,ea⟩:=Ac.at' (hM.mono a3) (j:=i) (e:=As x) (by simp[m]);refine G.a H Q M.length c i 3 C<|G.lU (some 3) H (Q+i*3) (.agg #[.int .i64 x.1.1,.string (mkS x.1.2),.string (mkS (Ae x.2))]) ea<|G.c call18 (D1 (ok.t x (Ay9 m))) ?_;rintro v4 u4 l4 rfl;exact G.i i<|G.b (hJ (i+1) _ _ _ cV (l3.trans l4) ⟨oV,rfl⟩ oV)
 obtain rfl:i=M.length:=oV
 refine G.lF M.length M.length<|G.buildM 32 1 16 (.string (mkS [])) [.string (mkS (Ae m0))] kV (Ci [Ae m0]) rfl oV mV mV ?_;intro g5 m5 X;have T:∀ i,(Value.string (mkS (Ae m0))::List.replicate i (Value.string (mkS [48]))).length=i+1:=fun i=>mV
 refine G.l (ι:=Nat×(Nat×Nat)) (fun i=>[(0,sV pa P.length pc),(3,.p 0 0),(8,sV (some ⟨i.2.1,0,none⟩) (i.1+1) i.2.2),(35,iV P.length),(36,iV i.1)]) (fun _=>[(0,⟨44,[tV (Ae m0),sV a M.length c]⟩)])
  (fun i W m'=>i.1<=P.length/\Af PH.mt m' (.slice (some ⟨i.2.1,0,none⟩) (i.1+1) i.2.2) 32 1 (.string (mkS (Ae m0))::List.replicate i.1 (.string (mkS [48])))) (fun i=>P.length-i.1) (0,g5,1) ⟨Azh _,X⟩ ?_
 clear X hJ;rintro J2 ⟨i,g,V⟩ R u6 m6 l6 ⟨hi,E⟩;simp only at hi E R;have ag:=a3.trans l6;by_cases C:i<P.length
 ·refine G.lT i P.length<|G.B 32 1 16 (.string (mkS [])) [.string (mkS [48])] (Ci [[48]]) ?_;intro g7 u7 l7 e7;refine G.append 32 1 16 (.string (mkS [])) PH.mt _ [.string (mkS [48])] (.slice (some ⟨g,0,none⟩) (i+1) V) g7 0 1 1 kV rfl rfl oV E e7 (Ci [[48]]) rfl oV (by rw[T];omega) (by rw[T];omega) ?_;intro v8 m8 F;rw[Afj]at F;obtain⟨g8,c8,rfl⟩:=F.ptr mV;rw[T]at F⊢;exact G.i i<|G.b (R (i+1,g8,c8) _ _ _ cV (l6.trans l7) ⟨dV,F⟩ dV)
 obtain rfl:i=P.length:=oV
 refine G.lF P.length P.length ?_;have aa:(cfL m0 P []).map nmV=Value.string (mkS (Ae m0))::List.replicate P.length (Value.string (mkS [48])):=by
  have:=Ady P;unfold Afe at this;unfold cfL;rw[(A4n this).2,Azu,A4v];rfl
 rw[<-aa]at E;clear R;refine G.l (ι:=Nat) (fun i=>[(0,sV pa P.length pc),(3,.p 0 0),(8,sV (some ⟨g,0,none⟩) (P.length+1) V),(43,sV a M.length c),(44,iV M.length),(45,iV i)]) (fun _=>[(0,⟨44,[tV (Ae m0),sV a M.length c]⟩)])
  (fun i W m'=>i<=M.length/\Af PH.mt m' (.slice (some ⟨g,0,none⟩) (P.length+1) V) 32 1 ((cfL m0 P (M.take i)).map nmV)) (fun i=>M.length-i) 0 ⟨Azh _,E⟩ ?_
 clear E;rintro J3 i a6 u9 m9 l9 ⟨hi,E⟩;have U:=ag.trans l9;by_cases C:i<M.length
 ·refine G.lT i M.length ?_;obtain⟨x,m⟩:∃ x,M[i]?=some x:=⟨_,Ayr C⟩;have ad:=Ay9 m;have ac:=Da m;obtain⟨k,hk,ab⟩:=Az9 (ok.sub x ad);have N:P[k]?=some x.1:=by rw[Ayr hk,ab]
  have Z:x.1∉(M.take i).map (·.1):=by
   intro hm;obtain⟨y,hy,ae⟩:=Ayx.1 hm;obtain⟨j,hj,rfl⟩:=Az9 hy;rw[Ay1]at hj;have:=Ia a8 (i:=j) (j:=i) (x:=x.1) (by rw[Ayy,Ayr oV];simp only[A1n];rw[<-ae,A2t]) (by rw[Ayy,m];rfl);omega
  have a0:=Ac7 (m0:=m0) (L:=M.take i) N Y Z;obtain⟨H,Q,rfl,ea⟩:=Ac.at' (hM.mono U) (j:=i) (e:=As x) (by simp[m]);refine G.a H Q M.length c i 3 C<|G.lU (some 3) H (Q+i*3) (.agg #[.int .i64 x.1.1,.string (mkS x.1.2),.string (mkS (Ae x.2))]) ea<|G.c call78 (Afr (p:=x.1) (hP.mono U) N Y oV) ?_;rintro am a4 a1 rfl;by_cases ai:0<i
  case' pos =>
   refine G.gT i 0 ?_;have a7:M[i-1]?=some (M[i-1]'oV):=Ayr oV;have a9:Bf (M[i-1]'oV).1 x.1<0:=by
    have h1:=A02.1 ok.srt (i-1) i (by rw[Ayt];omega) (by rw[Ayt];omega) oV;rw[A1f,A1f,(Ayu.1 m).2]at h1;exact h1
   obtain⟨_,_,e0,eb⟩:=Ac.at' (hM.mono (U.trans a1)) (j:=i-1) (e:=As (M[i-1]'oV)) (by simp[a7]);cases e0;refine G.s i 1 (i-1:Nat)<|G.a H Q M.length c (i-1) 3 oV<|G.f 65 H (Q+(i-1)*3) 0 0<|G.lU (some 2) H (Q+(i-1)*3+0) (Aq (M[i-1]'oV).1) ?_ ?_
   ·intro n y hy;refine eb n y ?_;have hn:n<2:=(A2m.1 hy).1
    match n,hn with
    |0,_=>exact hy
    |1,_=>exact hy
   refine G.c call79 (Ff _ _ true (decide_eq_true a9)) ?_;rintro an a5 a2 rfl
  case' neg =>
   refine G.gF i 0 ?_;obtain⟨a5,O⟩:∃ W,W=a4:=⟨_,rfl⟩;have a2:PH.le a4 a5:=by rw[O];exact PH.le_refl _
   rw[<-O]
  all_goals
   refine G.lF k 0<|G.hT k 0<|G.i k<|G.a g 0 (P.length+1) V (k+1) 1 oV<|G.storeA 1 PH.mt _ g (P.length+1) V (k+1) (.string (mkS (Ae x.2))) kV E (by rw[Ayt,Abl];omega) rfl rfl ?_;intro ak I;rw[show Value.string (mkS (Ae x.2))=nmV (Ae x.2) from rfl,<-A1d,a0,<-ac]at I;exact G.i i<|G.b (a6 (i+1) _ _ _ cV ((l9.trans a1).trans a2) ⟨oV,I⟩ oV)
 obtain rfl:i=M.length:=oV
 refine G.lF M.length M.length ?_;rw[Azj,Ain]at E;refine G.give _ _ _ kV E (fun g=>.inl rfl) ?_;intro al aj hS;exact G.r (.tuple #[.slice (some ⟨g,0,none⟩) (P.length+1) V,.int .i64 0]) ⟨rfl,_,rfl,hS⟩
end
structure Sy (L:List Par)(m0:Rat)(M:List (Par×Rat)):Prop where
 c:SmR m0
 t:∀ x∈M,SmR x.2
 sub:(M.map (·.1)).Sublist L
def Sy.ok {P:List Par}{m0:Rat}{M:List (Par×Rat)}(h:Sy P m0 M)(g:Ez Bf P):H7 P m0 M where
 c:=h.c.tx
 t:=fun x e=>(h.t x e).tx
 srt:=List.Pairwise.sublist h.sub g
 sub:=fun x e=>h.sub.subset (Ayx.2 ⟨x,e,rfl⟩)
 len:=by have:=h.sub.length_le;rwa[Ayt]at this
def Y5 {u:PH}{s:Src}{ts:List Int}{k:Nat}{v:Value}{L:List Par}(h:Ig u s ts)(hk:k<=s.n)(Y:Ac u v 2 (L.map Aq))(hl:L.length<=1000) :
 Ag prog 12 [s.ptr,v] u (s.M k) fun r u' m'=>∃ (m0:Rat) (M:List (Par×Rat)) (k':Nat),M5 u' r m0 M/\Sy L m0 M/\k'<=s.n/\m'=s.M k':=by
 obtain⟨la,lc,rfl⟩:=Y.opn;rw[Ayt]at Y⊢;refine Ag.o func12<|G.A call47 (Ajs h hk) ?_;rintro v1 u1 m1 l1 ⟨m0,k1,rfl,a2,a0,rfl⟩ _;rw[Bw];refine G.l (ι:=Nat×Nat×List (Par×Rat)×(Option Addr×Nat)) (fun i=>[(0,.v s.ptr),(4,.p 0 0),(5,.p 1003 0),(11,sV la L.length lc),(12,iV L.length),(13,iV i.1)])
  (fun i=>[(0,⟨44,[tV [],sV none 0 0]⟩),(1003,⟨44,[tV (Ae m0),sV i.2.2.2.1 i.2.2.1.length i.2.2.2.2]⟩)])
  (fun i u' m'=>i.1<=L.length/\i.2.1<=s.n/\(i.2.2.1.map (·.1)).Sublist (L.take i.1)/\(∀ x∈i.2.2.1,SmR x.2)/\Bag m' [s.arr i.2.1,Av4 i.2.2.2.1 i.2.2.2.2 i.2.2.1])
  (fun i=>L.length-i.1) (0,k1,[],(none,0))
  ⟨Azh _,a0,List.Sublist.refl _,fun q hq=>by simp at hq,s.bag0 k1 ⟨PH.mt,Af.nil _ _ _,trivial⟩⟩ ?_
 rintro J ⟨i,k2,M,⟨ma,mc⟩⟩ X u2 m2 l2 ⟨hi,I,g,C,E⟩;simp only at hi I g C E X;have K:=l1.trans l2;have a4:M.length<=1000:=by
  have:=g.length_le;rw[Ayt,Ay1]at this;omega
 obtain⟨W,T,Z⟩:=E;obtain⟨rfl,m⟩:=Src.split T;by_cases Q:i<L.length
 ·refine G.lT i L.length ?_;obtain⟨p,O⟩:∃ p,L[i]?=some p:=⟨_,Ayr Q⟩;have U:=Da O;obtain⟨ba,oa,rfl,ea⟩:=Ac.at' (Y.mono K) (j:=i) (e:=Aq p) (by simp[O]);refine G.a ba oa L.length lc i 2 Q<|G.lU (some 2) ba (oa+i*2) (.agg #[.int .i64 p.1,.string (mkS p.2)]) ea<|G.D call48 (Src.apart m) (Jd (n:=5) (h.mono K) I oV oV) ?_;rintro v3 u3 m3 V ⟨r,k3,rfl,hr,P,rfl⟩ _;by_cases a5:0<r
  ·refine G.gT r 0<|G.D call47 (Src.apart m) (Ajs ((h.mono K).mono V) P) ?_;rintro v4 u4 m4 l4 ⟨q,k4,rfl,hq,a1,rfl⟩ _;refine G.B 65 3 40 (.agg #[.int .i64 0,.string (mkS []),.string (mkS [])]) [.agg #[.int .i64 p.1,.string (mkS p.2),.string (mkS (Ae q))]] (H6 (p,q)) ?_;intro g5 u5 l5 e5;have F:Bag (W.or (s.M k4)) [s.arr k4,Av4 ma mc M]:=⟨W,Src.at m,Z⟩;obtain⟨mm,a3,R⟩:=F.focus 1 rfl;refine G.k 65 3 40 (.agg #[.int .i64 0,.string (mkS []),.string (mkS [])]) mm (M.map As) [As (p,q)] _ g5 0 1 1 a3 e5 (H6 (p,q)) ?_;intro v6 m6 t;rw[show M.map As++[As (p,q)]=(M++[(p,q)]).map As by rw[Aza];rfl]at t;obtain⟨a6,c6,rfl⟩:=t.shape;rw[Ayt]at t⊢;have H:=R (Av4 a6 c6 (M++[(p,q)])) m6 t;refine G.i i<|G.b (X (i+1,k4,M++[(p,q)],(a6,c6)) _ _ _ cV (((l2.trans V).trans l4).trans l5) ⟨dV,a1,?_,?_,H⟩ dV)
   ·show ((M++[(p,q)]).map (·.1)).Sublist _;rw[U,Aza];exact g.append (List.Sublist.refl _)
   intro x N;rcases Ay5.1 N with N|N
   ·exact C x N
   simp only[Azs]at N;subst N;exact hq
  refine G.gF r 0<|G.i i<|G.b (X (i+1,k3,M,(ma,mc)) _ _ _ cV (l2.trans V) ⟨dV,P,?_,C,⟨W,Src.at m,Z⟩⟩ dV);show (M.map (·.1)).Sublist _;rw[U];exact g.trans (List.sublist_append_left _ _)
 obtain rfl:i=L.length:=oV;refine G.lF L.length L.length ?_;rw[Azj]at g;refine G.giveP (ma:=W) (sm:=s.M k2) kV rfl (Src.apart m) (s.h0 k k2) ?_;intro u3 V hm;exact G.r (.agg #[.string (mkS (Ae m0)),.slice ma M.length mc]) ⟨m0,M,k2,⟨ma,mc,rfl,Z.list hm 0 rfl⟩,⟨a2,C,g⟩,I,rfl⟩
section
def Awt (x:Rat):0<=x*x:=by
 rcases A5s (a:=0) (b:=x) with h|h
 ·exact Azv h h
 have:=Azv (a:=-x) (b:=-x) (by grind) (by grind);grind
section
variable {P:List Par} {C:CF} {b d:Option Par->Rat} {q:Rat} {N D:Nat}
def Rd {x y m n:Rat}(h:-m<=x/\x<=m)(u:-n<=y/\y<=n):-(m*n)<=x*y/\x*y<=m*n:=by
 have e:=Azv (a:=m-x) (b:=n+y) (by grind) (by grind);have g:=Azv (a:=m+x) (b:=n-y) (by grind) (by grind);have j:=Azv (a:=m-x) (b:=n-y) (by grind) (by grind);have t:=Azv (a:=m+x) (b:=n+y) (by grind) (by grind);constructor<;>grind
def An3 (t:G7 N C)(u:∃ p:Int,q*30=p)(g:∀ e∈Ah P,∃ z:Int,b e*(D:Rat)=z):IsZ (Dk q b P C*((D*D*144*30:Nat):Rat)):=by
 obtain⟨p,hp⟩:=u;have m:=Aym t g;have n:IsZ (Eu P b*((D:Rat)*(D:Rat))):=by
  unfold Eu;rw[<-Fg];refine IsZ.sum fun x E=>?_;have:=g (some x) (by unfold Ah;exact Azq _ (Ayx.2 ⟨x,E,rfl⟩));rw[show b (some x)*b (some x)*((D:Rat)*(D:Rat))=(b (some x)*(D:Rat))*(b (some x)*(D:Rat)) by grind];exact IsZ.mul this this
 have h:((D*D*144:Nat):Rat)=(D:Rat)*(D:Rat)*144:=by rw[A10,A10];rfl
 have j:((D*D*144*30:Nat):Rat)=((D*D*144:Nat):Rat)*30:=by rw[A10];rfl
 unfold Dk;rw[show (sqC b P C+q*Eu P b)*((D*D*144*30:Nat):Rat)=sqC b P C*((D*D*144:Nat):Rat)*30+(q*30)*(Eu P b*((D:Rat)*(D:Rat)))*144 by rw[j,h];grind,hp];exact ((m.mul (IsZ.nat 30)).add ((IsZ.mul ⟨p,rfl⟩ n).mul (IsZ.nat 144)))
def Alw:Dk q (fun _=>0) P C=C.t (A2 B7 B7):=by
 unfold Dk sqC;rw[V6 P C fun _=>rfl,Ca fun e _=>A7t _,show Eu P (fun _=>0)=0 from Ca fun p _=>A7w _];grind
def Aig (e:0<=q)(g:0<=sqC b P C):0<=Dk q b P C:=by
 have:=Azv e (S7 P b);unfold Dk;grind
def As7 (g:G7 N C)(H:N<=14436727200)(j:G6 q)(J:P.length<=11)(K:1<=C.c)(e:∀ z,0<=Ba9 z P C)(u:∀ z,0<=sqC z P C)(h:Fj P C q b):De (9+319) 319 (Dk q b P C):=by
 have t:0<C.c:=by
  have n:(0:Rat)<1:=jV;grind
 obtain⟨D,h0,n,I⟩:=Aiy g H J j.thirty j.pos t e h;obtain⟨p,hp,_⟩:=j.thirty;have O:=An3 (q:=q) g ⟨p,hp⟩ I;have L:=h.least (A4f j.pos) e fun _=>0;have E:=Alw (P:=P) (C:=C) (q:=q);unfold Dk at E;rw[E]at L;have R:=(Pz g.l H).2;have Q:=Aig (P:=P) (A4f j.pos) (u b);have F:((100255050:Nat):Rat)=100255050:=jV;refine Auw 9 (D:=D*D*144*30) (m:=100255050) (A24 (A24 (A24 h0 h0) oV) oV) ?_ O ⟨?_,?_⟩ fV
 ·exact Awy (b:=319) (Hm (Hm (Hm n n) (show 144<10^3 by decide)) (show 30<10^2 by omega)) fV
 ·rw[F];grind
 rw[F];unfold Dk;grind
def Aer (h:G7 N C)(I:N<=14436727200)(hq:∃ p:Int,q*30=p/\p.natAbs<=180)(hP:P.length<=11)(hz:∀ e∈Ah P,∃ z:Int,b e*((12:Nat):Rat)=z)(j:∀ e∈Ah P,-9<=b e/\b e<=9):De 20 6 (Dk q b P C):=by
 obtain⟨p,hp,R⟩:=hq;have K:=An3 (q:=q) h ⟨p,hp⟩ hz;have hl:=Bk P;have g:∀ n:Nat,n<=12->∀ m:Rat,0<=m->(n:Rat)*m<=12*m:=fun n Z m j=>by
  have E:(n:Rat)<=((12:Nat):Rat):=A2r.2 Z;have e:((12:Nat):Rat)=12:=jV;rw[e]at E;have:=Azv (a:=12-(n:Rat)) (b:=m) (by grind) j;grind
 have t:-(12*(12*8120659050))<=Ba9 b P C/\Ba9 b P C<=12*(12*8120659050):=by
  have E:∀ e∈Ah P,-(12*8120659050)<=Ao (fun f=>b e*Ar C e f*b f) (Ah P)/\Ao (fun f=>b e*Ar C e f*b f) (Ah P)<=12*8120659050:=fun e J=>by
   have F:=Lb (f:=fun f=>b e*Ar C e f*b f) (m:=8120659050) (l:=Ah P) fun f Y=>by
    have:=Rd (Rd (j e J) (Pz (h.c e f) I)) (j f Y);rwa[show (9:Rat)*100255050*9=8120659050 by decide +kernel]at this
   have H:=g (Ah P).length oV 8120659050 jV;constructor<;>grind
  have F:=Lb (f:=fun e=>Ao (fun f=>b e*Ar C e f*b f) (Ah P)) (m:=12*8120659050) (l:=Ah P) E;have H:=g (Ah P).length oV (12*8120659050) jV;unfold Ba9;constructor<;>grind
 have hr:-(12*902295450)<=Ao (fun e=>b e*Au C e) (Ah P)/\Ao (fun e=>b e*Au C e) (Ah P)<=12*902295450:=by
  have F:=Lb (f:=fun e=>b e*Au C e) (m:=902295450) (l:=Ah P) fun e J=>by
   have:=Rd (j e J) (Pz (h.r e) I);rwa[show (9:Rat)*100255050=902295450 by decide +kernel]at this
  have H:=g (Ah P).length oV 902295450 jV;constructor<;>grind
 have hs:-(12*81)<=Eu P b/\Eu P b<=12*81:=by
  have F:=Lb (f:=fun p=>b (some p)*b (some p)) (m:=81) (l:=P) fun p hp=>by
   have u:some p∈Ah P:=by unfold Ah;exact Azq _ (Ayx.2 ⟨p,hp,rfl⟩)
   have:=Rd (j _ u) (j _ u);rwa[show (9:Rat)*9=81 by decide +kernel]at this
  have H:=g P.length oV 81 jV;unfold Eu;constructor<;>grind
 have L:-6<=q/\q<=6:=by
  have T:((p:Int):Rat)<=((180:Int):Rat):=A08.2 oV;have U:(((-180:Int)):Rat)<=(p:Rat):=A08.2 oV;rw[show ((180:Int):Rat)=180 by decide +kernel]at T;rw[show ((-180:Int):Rat) = -180 by decide +kernel]at U;constructor<;>grind
 have O:=Rd L hs;have ht:=Pz h.l I;have Q:((10000000000000:Nat):Rat)=10000000000000:=jV;have V:(6:Rat)*(12*81)=5832:=jV;have W:(12:Rat)*(12*8120659050)=1169374903200:=jV;have X:(12:Rat)*902295450=10827545400:=jV;rw[V]at O;rw[W]at t;rw[X]at hr;refine Anw (D:=12*12*144*30) (m:=10000000000000) oV oV K ⟨?_,?_⟩ jV
 ·rw[Q];unfold Dk sqC;grind
 rw[Q];unfold Dk sqC;grind
def Fj.grad (h:Fj P C q b):∀ e∈Ah P,Ny q b P C e=0:=fun e g=>by
 have:=h e g;unfold Ny Nt;grind
def Fj.min (h:Fj P C q b)(e:0<=q)(hp:∀ z,0<=Ba9 z P C):Dk q b P C<=Dk q d P C:=h.least e hp d
def At0 {z:Option Par->Rat}(n:0<q)(u:0<C.c)(hp:∀ z,0<=Ba9 z P C)(h:Ba9 z P C+q*Eu P z<=0):∀ e∈Ah P,z e=0:=by
 have I:=hp z;have E:=S7 P z;have J:=Azv (A4f n) E;have F:Eu P z=0:=by
  have:q*Eu P z=0:=by grind
  rcases A2w.1 this with e|e
  ·rw[e]at n;exact absurd n jV
  exact e
 have j:∀ p∈P,z (some p)=0:=fun p hp=>by
  have:=U1 (fun q _=>Awt (z (some q))) F p hp;rcases A2w.1 this with e|e<;>exact e
 have H:z none=0:=by
  have t:Ba9 z P C=0:=by grind
  have m:Ao (fun f=>z none*Ar C none f*z f) (Ah P)=z none*C.c*z none:=by
   rw[O0,Ca fun p hp=>by rw[j p hp,A7w]];show z none*C.c*z none+0=_;grind
  unfold Ba9 at t;rw[O0,m,Ca fun p hp=>by
   refine Ca fun f _=>?_;rw[j p hp];grind]at t
  have e:z none*C.c*z none=0:=by grind
  rcases A2w.1 e with e|e
  ·rcases A2w.1 e with e|e
   ·exact e
   rw[e]at u;exact absurd u jV
  exact e
 intro e g;unfold Ah at g;rcases Ay7.1 g with rfl|g
 ·exact H
 obtain⟨p,hp,rfl⟩:=Ayx.1 g;exact j p hp
def Fj.only (h:Fj P C q b)(t:0<q)(n:0<C.c)(hp:∀ z,0<=Ba9 z P C)(g:Dk q b P C=Dk q d P C):∀ e∈Ah P,b e=d e:=by
 have j:=h.loss fun e=>d e-b e;have e:(fun e=>d e-b e+b e)=d:=funext fun e=>by grind
 rw[e]at j;unfold Dk at g;have m:=At0 t n hp (z:=fun e=>d e-b e) (by grind);intro e g;have:=m e g;grind
end
def Aoq {q:Rat}(h:SmR q):(∃ z:Int,q*((12:Nat):Rat)=z)/\-9<=q/\q<=9:=by
 obtain⟨k,u⟩:=h.den;have n:q*(q.den:Rat)=(q.num:Rat):=by
  have e:q=(q.num:Rat)/(((q.den:Int)):Rat):=by rw[<-A2g,A5q]
  have hi:=A4u _ (Mx q.den_pos);rw[Az2,A4w]at e;exact Avf e hi
 have F:=h.num;have t:((1:Nat):Rat)<=(q.den:Rat):=A2r.2 q.den_pos;have m:((1:Nat):Rat)=1:=jV;rw[m]at t;have g:((q.num:Int):Rat)<=((9:Int):Rat):=A08.2 oV;have j:(((-9:Int)):Rat)<=(q.num:Rat):=A08.2 oV;rw[show ((9:Int):Rat)=9 by decide +kernel]at g;rw[show ((-9:Int):Rat) = -9 by decide +kernel]at j;refine⟨⟨q.num*(k:Int),?_⟩,?_,?_⟩
 ·rw[u,A10,A0v,Az2,<-n];grind
 ·refine A60.1 fun E=>?_;have:=Azv (a:=-9-q) (b:=(q.den:Rat)-1) (by grind) (by grind);grind
 refine A60.1 fun E=>?_;have:=Azv (a:=q-9) (b:=(q.den:Rat)-1) (by grind) (by grind);grind
def Sy.z {P:List Par}{m0:Rat}{M:List (Par×Rat)}(h:Sy P m0 M):∀ e,(∃ z:Int,cfE m0 M e*((12:Nat):Rat)=z)/\-9<=cfE m0 M e/\cfE m0 M e<=9
 |none=>Aoq h.c
 |some p=>by
  show (∃ z:Int,Ap p M*((12:Nat):Rat)=z)/\-9<=Ap p M/\Ap p M<=9;rcases Ma p M with e|⟨q,g,e⟩
  ·rw[e];exact Aoq (show SmR 0 from⟨jV,jV⟩)
  rw[e];exact Aoq (h.t (p,q) g)
end
section
variable {F:List Am}{M V:List (Par×Rat)}{P:List Par}{R:List Bu}{T:List (List UInt8×Nat)}{l:Nat}{m0 q:Rat}{ss:List (List UInt8)}{u:PH}{v:Value}
def Ag3 (j:(M.map (·.1)).Nodup)(C:(V.map (·.1)).Nodup):Ao (fun m=>m.2*Ap m.1 V) M=Ao (fun t=>t.2*Ap t.1 M) V:=by
 have n:(M.map (·.1)++(V.map (·.1)).filter fun p=>decide (p∉M.map (·.1))).Nodup:=by
  refine A1h.2 ⟨j,C.filter _,fun a E b H e=>?_⟩;subst e;simpa[E] using (A2v.1 H).2
 rw[<-Ow n j (fun x g=>A0x _ (Ayx.2 ⟨x,g,rfl⟩)) (fun p=>Ap p V),
  <-Ow n C (fun x g=>?_) (fun p=>Ap p M)]
 ·exact A7 fun p _=>Rat.mul_comm _ _
 by_cases h:x.1∈M.map (·.1)
 ·exact A0x _ h
 exact A46 _ (A2v.2 ⟨Ayx.2 ⟨x,g,rfl⟩,by simpa using h⟩)
def Ako (n:P.Nodup)(e:H7 P m0 M)(C:(V.map (·.1)).Nodup){s:Par->Rat}(E:∀ p∈P,s p=Ap p V):T3 (cfE m0 M) P s=Lt m0 M V:=by
 have j:=e.srt.nodup Dl;show m0+Ao (fun p=>Ap p M*s p) P=m0+Ao (fun t=>t.2*Ap t.1 M) V;rw[Ow n j e.sub,<-Ag3 j C,A7 (g:=fun m=>m.2*Ap m.1 V) fun m h=>by rw[E m.1 (e.sub m h)]]
def Ari (ok:Bt u T R F (l:Int))(t:Cd T ss)(m:Mo F (l:Int) ss=true) :
 ∃ w,ss[l]?=some w/\SmW (Fa w)/\Ae (Fa w)=w/\(cfT F (l:Int) ss).s B7=Fa w:=by
 obtain⟨n,E⟩:=ok.l2 l rfl;have L:=(Ayu.1 E).1;have C:=t.len;have K:l<ss.length:=oV;have j:ss[l]?=some ss[l]:=Ayr K;have H:=t.val l _ _ E j;generalize ss[l]=w at j H;have g:w≠[]:=by
  rintro rfl;have:Mo F (l:Int) ss=false:=by
   unfold Mo;rw[show ((l:Int)).toNat=l from rfl,Ays,j];simp
  rw[this]at m;cases m
 have N:(cfT F (l:Int) ss).s B7=Fa w:=Xn ok.feat t ok.l1 (fun O e=>oV) m (a:=l) (by
  rw[F1 (w:=w) j];unfold Gd Pw;rw[if_pos rfl,if_neg g];rfl)
 rcases H with h|⟨h,_⟩|⟨h,_⟩|⟨_,h⟩
 ·exact absurd h g
 ·omega
 ·omega
 obtain⟨I,J⟩:=Ol h;exact⟨w,j,I,J,N⟩
def Atj (ok:Bt u T R F (l:Int))(K:P.Nodup)(hp:∀ p∈P,Yy F p)(N:H7 P m0 M)(L:List Fx){y:Fx}(h:Cd T y.1) :
 (Mo F (l:Int) y.1=false/\sqC (cfE m0 M) P (Ce F (l:Int) (L++[y]))=sqC (cfE m0 M) P (Ce F (l:Int) L)) \/
 (Mo F (l:Int) y.1=true/\∃ w,y.1[l]?=some w/\SmW (Fa w)/\Ae (Fa w)=w/\sqC (cfE m0 M) P (Ce F (l:Int) (L++[y]))=sqC (cfE m0 M) P (Ce F (l:Int) L)+(Fa w-Lt m0 M (Ct F y.1 F.length))*(Fa w-Lt m0 M (Ct F y.1 F.length))*(y.2.1:Rat)):=by
 have C:=h.len;have t:∀ j:Nat,(l:Int)=(j:Int)->j < y.1.length:=fun j e=>by
  obtain⟨n,O⟩:=ok.l2 j e;have:=(Ayu.1 O).1;omega
 rw[Er,Aa5];rcases Lr ok.feat h ok.l1 t with ⟨g,o⟩|⟨g,o⟩
 ·obtain⟨w,E,H,I,J⟩:=Ari ok h g;refine .inr ⟨g,w,E,H,I,?_⟩;have Q:∀ p∈P,(cfT F (l:Int) y.1).s p=Ap p (Ct F y.1 F.length):=fun p m=>Ata ok.feat h ok.l1 t g (by obtain⟨k,_,e,_⟩:=hp p m;omega);rw[o.sq,J,Ako K N (P4 F y.1 F.length (Ay2 _)) Q]
 exact .inl ⟨g,by rw[o.sq,A7t,A88]⟩
def As2 {lab:Int}(hF:C5 T F lab)(g:Cd T ss)(e:Sy P m0 M)(h:F.length<=8):Dn 2 20000000 (Lt m0 M (Ct F ss F.length)):=by
 have j:=Vg F ss F.length;have:=Auu (V:=Ct F ss F.length) e.c (Ai5 hF g) e.t (Ct F ss F.length).length oV;unfold E4 at this;rw[Azj]at this;exact this
def QP.fv6 (h:QP u v q):∃ x:FV,v=fvV x/\QP u (fvV x) q:=by
 obtain⟨x,rfl⟩:=h.fv;exact⟨x,rfl,h⟩
def Atv (h:P.Nodup)(e:H7 P m0 M)(q:Rat):q*Eu P (cfE m0 M)=Ao (fun x:Par×Rat=>x.2*x.2*q) M:=by
 have g:=e.srt.nodup Dl;unfold Eu;show q*Ao (fun p=>Ap p M*Ap p M) P=_;rw[Ow h g e.sub,<-Dp];exact A7 fun x j=>by rw[Hj g j];grind
def Asq {S q:Rat}(h:Sz S 1000)(j:Sz q 1000)(e:∀ x∈M,Sz x.2 1000)(m:M.length<=60)(i:Nat):Sz (S+Ao (fun x:Par×Rat=>x.2*x.2*q) (M.take i)) 1000000 :=
 (Gy h (P7 (s:=3000) (k:=60) (Kr fun x g=>(Di (Di (e x (A0o g)) (e x (A0o g))) j).mono oV) (by rw[Ay1];omega))).mono oV
def Ass {ts:List Int}(ht:Js u)(hv:Ac u v 1 (Dj ts))(bu:∀ t∈ts,-9223372036854775808<=t)(bo:∀ t∈ts,t<=9223372036854775807) :
 Fn0 prog 3 [v] u fun v' _=>v'=.bool true:=by
 obtain⟨a,c,rfl⟩:=hv.opn;rw[B4]at hv⊢;refine Fn0.o func3 ?_;by_cases ch:400<ts.length
 ·refine G.gT ts.length 400<|G.c call8 (Jw ht) ?_;rintro v1 u1 l1 rfl;exact G.r (.bool true) ⟨rfl,rfl⟩
 refine G.gF ts.length 400<|G.callO _ _ kV call9 (Abz hv oV bu bo) ?_;rintro v1 u1 m1 l1 ⟨s,rfl,rfl,hs⟩ _;rw[Bw];refine G.A call10 (Ab2 hs (Azh _)) ?_;rintro v2 u2 m2 l2 ⟨T,R,F,lab,L,xv,lv,cv,k2,rfl,w,bp,rfl⟩ _;rw[Bw];have Z:=ht.mono (l1.trans l2);have ck:=w.l6;have b1:=w.wok.tup;obtain⟨k,n⟩:=Nv w.sch w.ok w.t8 b1 oV w.f5 w.lab0 w.cof oV;have ah:=I7 w.ok w.ok.l1 (Ev w.ok) b1;have hN:L.length*2406121200<=14436727200:=oV
 have ax:255*L.length<=10000:=oV
 have br:=w.lab0;obtain⟨l,rfl⟩:∃ l:Nat,lab=(l:Int):=⟨lab.toNat,oV⟩;have a0:=w.wok;have b5:∀ (u':PH) (l':PH.le u2 u') {y:Fx} (hy:y∈L),Qa u' xv (.slice y.2.2.1 y.1.length y.2.2.2) T R F (l:Int) y.1:=fun u' l' {y} hy=>⟨w.sch.mono l',w.ok.mono l',((a0 y hy).1).mono l',(a0 y hy).2.1⟩;obtain⟨xa,xc,xb,xd,xe,xf,rfl,_⟩:=id w.sch;have hC:=w.cof;have hX:=w.sch;have ok:=w.ok;have O:=w.rows;obtain⟨la,lc,rfl⟩:=O.opn;rw[Ayt]at O⊢;clear w;generalize L.length*2406121200=N at ah hN;generalize 255*L.length=K at n hC ax;obtain⟨C,av⟩:∃ C,Ce F (l:Int) L=C:=⟨_,rfl⟩;rw[av]at n hC ah;have hS:=n.mom;obtain⟨a1,n1,c1,a2,n2,c2,rfl⟩:=id hC.opn;refine G.c call11 (Wu hX ok hC n.sC n.vC ax n.bel) ?_;rintro v3 u3 l3 (⟨rfl,P,hP,hPL⟩|⟨ps,P,rfl,hP,_,hPL⟩)
 ·have:=n.p24 P hPL;omega
 have ci:=n.p24 P hPL;have b4:=hPL.1.nodup Dl;have ag:=Aam hPL n.vC;obtain⟨pa,pc,rfl⟩:=hP.opn;rw[Ayt]at hP⊢;refine G.nF 0 0 ?_;by_cases h0:k=0
 ·have bn:C.c=0:=by rw[hS.c,h0];rfl
  refine G.q (Ae C.c) [48] (by rw[bn,D8])<|G.drop PH.mt kV (PH.mt_le _)<|G.c call8 (Jw (Z.mono l3)) ?_;rintro v7 u7 l7 rfl;exact G.r (.bool true) ⟨rfl,rfl⟩
 refine G.w (Ae C.c) [48] (Nn (hS.cne h0))<|G.A call12 (Y5 (hs.mono (l2.trans l3)) bp hP oV) ?_;rintro v4 u4 m4 l4 ⟨m0,M,k4,aj,ai,bq,rfl⟩ _;rw[Bw];have hm:=ai.ok hPL.1;have hz:=ai.z;obtain⟨oa,oc,rfl,bm⟩:=id aj.val;have cl:=hm.len;have bg:=l3.trans l4;refine G.A call13 (Nj (hs.mono (l2.trans bg)) bq) ?_;rintro v5 u5 m5 l5 ⟨q,k5,rfl,hq,cj,rfl⟩ _;rw[Bw];refine G.drop PH.mt kV (PH.mt_le _) ?_;have ad:=bg.trans l5;have Y:P.length<=11->Tx (Dk q (cfE m0 M) P C):=fun X=>(Aer ah hN hq.sixty X (fun e _=>(hz e).1) (fun e _=>(hz e).2)).tx oV oV oV oV;refine G.c call14 (Q0 (Z.mono ad) (n.mono ad) hq.w hPL (aj.mono l5) hm (fun _ X=>Y X)) ?_;rintro v6 u6 l6 (⟨e,rfl,⟨_,h⟩|⟨rfl,_,h⟩⟩|⟨_,X,rfl⟩)
 ·exact absurd h h0
 ·refine G.nT 3 0<|G.eT' 3 3 rfl<|G.c call8 (Jw (Z.mono (ad.trans l6))) ?_;rintro v7 u7 l7 rfl;exact G.r (.bool true) ⟨rfl,rfl⟩
 have Y:=Y X;obtain⟨LS,ay⟩:∃ x,Dk q (cfE m0 M) P C=x:=⟨_,rfl⟩;rw[ay]at Y⊢;refine G.nF 0 0 ?_;have c6:=ad.trans l6;have c5:=l5.trans l6;refine G.c call15 (Sp (z:=0) oV oV) ?_;intro v8 u8 l8 k8;obtain⟨y8,rfl,k8⟩:=k8.fv6;refine G.l (ι:=Nat×FV) (fun i=>[(4,.p 4006 0),(9,.p 8005 0),(10,tV (Ae q)),(11,tV (Ae LS)),(13,.p 12001 0),(71,sV la L.length lc),(72,iV L.length),(73,iV i.1)])
  (fun i=>[(4006,⟨30,[sV xa T.length xc,sV xb R.length xd,sV xe F.length xf,iV l]⟩),(8005,⟨44,[tV (Ae m0),sV oa M.length oc]⟩),
   (12001,⟨52,[.v (.bool i.2.1),.v (.slice i.2.2.1.1 i.2.2.1.2.1 i.2.2.1.2.2),.v (.bool false),.v (.slice i.2.2.2.1 i.2.2.2.2.1 i.2.2.2.2.2)]⟩)])
  (fun i u' m'=>i.1<=L.length/\QP u' (fvV i.2) (sqC (cfE m0 M) P (Ce F (l:Int) (L.take i.1)))/\Dn 4 (i.1*3000000000000000) (sqC (cfE m0 M) P (Ce F (l:Int) (L.take i.1)))/\m'=PH.mt) (fun i=>L.length-i.1) (0,y8)
  ⟨Azh _,?_,?_,rfl⟩ ?_
 ·have e:sqC (cfE m0 M) P (Ce F (l:Int) (L.take 0))=((0:Int):Rat):=Ad6.sq _ _;dsimp only;rw[e];exact k8
 ·have e:sqC (cfE m0 M) P (Ce F (l:Int) (L.take 0))=0:=Ad6.sq _ _;dsimp only;rw[e];exact Dn.zero _ _
 rintro J ⟨i,z⟩ hJ u9 m9 l9 ⟨hi,m,U,rfl⟩;simp only at hi m U hJ;have ae:=(c6.trans l8).trans l9;have be:=(c5.trans l8).trans l9;by_cases b2:i<L.length
 ·refine G.lT i L.length ?_;obtain⟨y,hy⟩:∃ y,L[i]?=some y:=⟨_,Ayr b2⟩;have b8:=Ay9 hy;have bw:=Da hy;have a8:=a0 y b8;have g:=Atj ok b4 ag hm (L.take i) a8.2.1;rw[<-bw]at g;have dA:=As2 (lab:=(l:Int)) ok.feat a8.2.1 ai ok.f2;have a6:=fun (u':PH) (l':PH.le u2 u')=>b5 u' l' b8;obtain⟨bb,ob,rfl,eb⟩:=Ac.at' (O.mono ae) (j:=i) (e:=F3 y) (by simp[hy]);refine G.a bb ob L.length lc i 2 b2 ?_;obtain⟨ss,wt,sa,sc⟩:=y;simp only at g dA a6 a8;refine G.lU (some 2) bb (ob+i*2) (.agg #[.slice sa ss.length sc,.int .i64 wt]) eb<|G.c call16 (Af1 (a6 u9 ae)) ?_;rintro cr bh H rfl;rcases g with ⟨hc,g⟩|⟨hc,w,b6,b7,bx,g⟩
  ·rw[hc];exact G.i i<|G.b (hJ (i+1,z) _ _ _ cV (l9.trans H) ⟨dV,by dsimp only;rw[g];exact m.mono H,by dsimp only;rw[g];exact U.mono oV,rfl⟩ dV)
  rw[hc];have a4:=ae.trans H;have tA:Tx (Lt m0 M (Ct F ss F.length)):=(dA.de (a:=20) (b:=6) oV oV).tx oV oV oV oV;refine G.c call17 (Tu (Z.mono a4) (a6 bh a4) (aj.mono (be.trans H)) hm oV ag tA) ?_;rintro ca c7 ab rfl;generalize Lt m0 M (Ct F ss F.length)=pA at g dA tA;refine G.nF 0 0<|G.c call18 (D1 tA) ?_;rintro bj ar W rfl;have bt:=(Ayu.1 b6).1;have bf:=(a4.trans ab).trans W;obtain⟨sb,so,rfl,es⟩:=Ac.at' ((a6 ar bf).lst) (j:=l) (e:=nmV w) (by rw[Ayy,b6];rfl);refine G.a sb so ss.length sc l 1 bt ?_;rw[<-bx]at es;refine G.lU none sb (so+l*1) (.string (mkS (Ae (Fa w)))) es ?_;have dW:=b7.dn;refine G.c call19 (F0 b7.tx) ?_;intro bk bi a3 I;obtain⟨cd,rfl,I⟩:=I.fv6;generalize Fa w=lw at g dW I;refine G.c call19 (F0 tA) ?_;intro cb c8 ac Q;obtain⟨ce,rfl,Q⟩:=Q.fv6;have au:Dn 2 222480 lw:=dW.to oV oV;refine G.c call20 (Aie (I.mono ac) Q (au.s10 oV oV) (dA.s10 oV oV)) ?_;intro cc c9 aq E;obtain⟨bl,rfl,E⟩:=E.fv6;have dd:=Auy au dA;have d2:=dd.mul dd;have hw:=a8.2.2.2;have d3:=d2.mul (Ami hw);refine G.c call22 (E2 E E (dd.s10 oV oV) (dd.s10 oV oV)) ?_;intro cs cn c0 an;obtain⟨cz,rfl,an⟩:=an.fv6;refine G.c call15 (Sp (z:=(wt:Int)) oV oV) ?_;intro ct co bc aa;obtain⟨d0,rfl,aa⟩:=aa.fv6;rw[Az2]at aa;refine G.c call22 (E2 (an.mono bc) aa (d2.s10 oV oV) ((Ami hw).s10 oV oV)) ?_;intro cu cp c3 ao;obtain⟨d1,rfl,ao⟩:=ao.fv6;have lz:=((((((((H.trans ab).trans W).trans a3).trans ac).trans aq).trans c0).trans bc).trans c3);refine G.c call21 (Ks (m.mono lz) ao (U.s10 oV oV) (d3.s10 oV oV)) ?_;intro cw cq c4 ap;obtain⟨cg,rfl,ap⟩:=ap.fv6;exact G.i i<|G.b (hJ (i+1,cg) _ _ _ cV (l9.trans (lz.trans c4)) ⟨dV,by dsimp only;rw[g];exact ap,by dsimp only;rw[g];exact (U.add d3).mono oV,rfl⟩ dV)
 obtain rfl:i=L.length:=oV
 refine G.lF L.length L.length ?_;rw[Azj,av]at m U;have b0:Sz (sqC (cfE m0 M) P C) 1000:=((U.de (a:=20) (b:=6) oV oV).szn oV oV oV oV).mono oV;have ak:Sz q 1000:=hq.tx.sz.mono oV;have az:∀ x∈M,Sz x.2 1000:=fun x hx=>(hm.t x hx).sz.mono oV;have af:sqC (cfE m0 M) P C+Ao (fun x:Par×Rat=>x.2*x.2*q) M=LS:=by rw[<-ay,<-Atv b4 hm];rfl
 generalize sqC (cfE m0 M) P C=S at m b0 af;have z0:S+0=S:=by grind
 clear hJ;refine G.l (ι:=Nat×FV) (fun i=>[(10,tV (Ae q)),(11,tV (Ae LS)),(13,.p 12001 0),(118,sV oa M.length oc),(119,iV M.length),(120,iV i.1)])
  (fun i=>[(12001,⟨52,[bV i.2.1,sV i.2.2.1.1 i.2.2.1.2.1 i.2.2.1.2.2,bV false,sV i.2.2.2.1 i.2.2.2.2.1 i.2.2.2.2.2]⟩)])
  (fun i u' m'=>i.1<=M.length/\QP u' (fvV i.2) (S+Ao (fun x:Par×Rat=>x.2*x.2*q) (M.take i.1))/\m'=PH.mt) (fun i=>M.length-i.1) (0,z)
  ⟨Azh _,by show QP _ _ (S+0);rw[z0];exact m,rfl⟩ ?_
 rintro J2 ⟨j,z⟩ aw bh cm H ⟨hj,m,rfl⟩;simp only at hj m aw;have bv:=Asq b0 ak az oV j;have bd:=be.trans H;by_cases b3:j<M.length
 ·refine G.lT j M.length ?_;obtain⟨x,a5⟩:∃ x,M[j]?=some x:=⟨_,Ayr b3⟩;have bz:=hm.t x (Ay9 a5);have a7:=az x (Ay9 a5);have al:S+Ao (fun x:Par×Rat=>x.2*x.2*q) (M.take (j+1))=S+Ao (fun x:Par×Rat=>x.2*x.2*q) (M.take j)+x.2*x.2*q:=by rw[Da a5,Fs];grind
  obtain⟨ba,ob,rfl,ea⟩:=Ac.at' (bm.mono bd) (j:=j) (e:=As x) (by simp[a5]);refine G.a ba ob M.length oc j 3 b3<|G.lU (some 3) ba (ob+j*3) (.agg #[.int .i64 x.1.1,.string (mkS x.1.2),.string (mkS (Ae x.2))]) ea<|G.c call19 (F0 bz) ?_;intro ca c7 ab a9;obtain⟨cx,rfl,a9⟩:=a9.fv6;refine G.c call22 (E2 a9 a9 (a7.mono oV) (a7.mono oV)) ?_;intro bj ar W am;obtain⟨cy,rfl,am⟩:=am.fv6;refine G.c call19 (F0 hq.tx) ?_;intro bk bi a3 I;obtain⟨cd,rfl,I⟩:=I.fv6;have b9:=Di a7 a7;refine G.c call22 (E2 (am.mono a3) I (b9.mono oV) (ak.mono oV)) ?_;intro cb c8 ac Q;obtain⟨ce,rfl,Q⟩:=Q.fv6;have lz:=((ab.trans W).trans a3).trans ac;refine G.c call21 (Ks (m.mono lz) Q (bv.mono oV) ((Di b9 ak).mono oV)) ?_;intro cc c9 aq E;obtain⟨bl,rfl,E⟩:=E.fv6;rw[<-al]at E;exact G.i j<|G.b (aw (j+1,bl) _ _ _ cV (H.trans (lz.trans aq)) ⟨dV,E,rfl⟩ dV)
 obtain rfl:j=M.length:=oV
 refine G.lF M.length M.length ?_;rw[Azj,af]at m;refine G.c call23 (Ln m Y) ?_;rintro bj ar W rfl;refine G.q (Ae LS) (Ae LS) rfl<|G.c call8 (Jw (Z.mono ((ae.trans H).trans W))) ?_;rintro bk bi a3 rfl;exact G.r (.bool true) ⟨rfl,rfl⟩
end
def At9 {u:PH}{v:Value}{ts:List Int}(ht:Js u)(hv:Ac u v 1 (Dj ts))(bf:∀ t∈ts,-9223372036854775808<=t)(b9:∀ t∈ts,t<=9223372036854775807) :
 Fn0 prog 6 [v] u fun v' _=>v'=.bool true:=by
 obtain⟨a,c,rfl⟩:=hv.opn;rw[B4]at hv⊢;refine Fn0.o func6 ?_;by_cases bm:400<ts.length
 ·refine G.gT ts.length 400<|G.c call8 (Jw ht) ?_;rintro v1 u1 l1 rfl;exact G.r (.bool true) ⟨rfl,rfl⟩
 refine G.gF ts.length 400<|G.callO _ _ kV call9 (Abz hv oV bf b9) ?_;rintro v1 u1 m1 l1 ⟨s,rfl,rfl,hs⟩ _;rw[Bw];refine G.A call10 (Ab2 hs (Azh _)) ?_;rintro v2 u2 m2 l2 ⟨T,R,F,lab,L,xv,lv,cv,k2,rfl,w,bc,rfl⟩ _;rw[Bw];have m:=ht.mono (l1.trans l2);have be:=w.l6;have I:=w.wok.tup;obtain⟨k,g⟩:=Nv w.sch w.ok w.t8 I oV w.f5 w.lab0 w.cof oV;have E:=fun P z=>L6 w.ok.feat w.ok.l1 (Ev w.ok) z P fun y hy=>(I y hy).1;have ac:=fun P z=>Af9 w.ok.feat w.ok.l1 (Ev w.ok) z P fun y hy=>(I y hy).1;have Y:=I7 w.ok w.ok.l1 (Ev w.ok) I;have hN:L.length*2406121200<=14436727200:=oV;have ax:=fun (q:Rat) (H:G6 q)=>Agu w.ok w.t8 I be H;have ak:255*L.length<=10000:=oV;obtain⟨xa,xc,xb,xd,xe,xf,rfl,_⟩:=id w.sch;have hC:=w.cof;have hX:=w.sch;have ok:=w.ok;obtain⟨a1,n1,c1,a2,n2,c2,rfl⟩:=id hC.opn;have V:=w.rows;obtain⟨la,lc,rfl⟩:=V.opn;rw[Ayt];clear w V;generalize L.length*2406121200=N at Y hN;generalize 255*L.length=K at g hC ak;generalize Ce F lab L=C at g hC Y E ac ax;refine G.A call13 (Nj (hs.mono l2) bc) ?_;rintro v3 u3 m3 l3 ⟨q,k3,rfl,H,bd,rfl⟩ _;rw[Bw];refine G.c call24 (Oy (m.mono l3) (g.mono l3) H.w (ax q H)) ?_;have hS:=g.mom;rintro v4 u4 l4 (⟨e,rfl,he⟩|⟨h0,P,mv,m0,qs,hPL,hP11,hql,rfl,hmv,hm,hn⟩)
 ·refine G.nT' e 0 (by rcases he with ⟨h,_⟩|⟨h,_⟩<;>omega) ?_
  refine G.drop PH.mt kV (PH.mt_le _) ?_;have W:=Jw (m.mono (l3.trans l4));rcases he with ⟨rfl,bb⟩|⟨rfl,_⟩
  ·refine G.eT' 12 12 rfl<|G.q (Ae C.c) [48] (by rw[hS.c,bb];exact D8)<|G.c call8 W ?_;rintro v5 u5 l5 rfl;exact G.r (.bool true) ⟨rfl,rfl⟩
  refine G.eF 3 12<|G.eT' 3 3 rfl<|G.c call8 W ?_;rintro v5 u5 l5 rfl;exact G.r (.bool true) ⟨rfl,rfl⟩
 obtain⟨na,nc,rfl,_⟩:=id hmv.val;refine G.nF 0 0 ?_;have am:=hS.cpos h0;have b6:=Af6 hS am;have n:=(As7 Y hN H hP11 b6 (E P) (ac P) hn).tx oV oV oV oV;have ap:=hn.grad;have az:(P.zip qs).length=P.length:=by rw[A73];omega
 have ah:=l3.trans l4;refine G.c call31 (Aot (m.mono ah) (g.mono ah) H.w hPL hmv hm h0 hP11 (fun e he=>by rw[ap e he];exact Aa4)) ?_;rintro v5 u5 l5 ⟨gv,rfl,Z⟩;have b8:(((Ah P).map (Ny q (cfE m0 (P.zip qs)) P C)).map Ae)=List.replicate (P.length+1) [48]:=by
  rw[A6z];refine A6h (by rw[Ayt,Bk,A1a]) fun j h1 h2=>?_;rw[A1f,List.getElem_replicate];show Ae (Ny q (cfE m0 (P.zip qs)) P C _)=_;rw[ap _ (Ay8 _),D8]
 rw[b8]at Z;obtain⟨ga,gc,rfl⟩:=Ac.opn Z;rw[Cr,A1a]at Z⊢;have ai:=ah.trans l5;refine G.c call14 (Q0 (m.mono ai) (g.mono ai) H.w hPL (hmv.mono l5) hm (fun _ _=>n)) ?_;rintro v6 u6 l6 (⟨e,rfl,⟨_,h⟩|⟨_,_,h⟩⟩|⟨_,_,rfl⟩)
 ·exact absurd h h0
 ·omega
 have a4:=ai.trans l6;refine G.c call11 (Wu (hX.mono a4) (ok.mono a4) (hC.mono a4) g.sC g.vC ak g.bel) ?_;rintro v7 u7 l7 (⟨rfl,Q,hQ,hQP⟩|⟨ps,Q,rfl,hP,_,hQP⟩)
 ·have:=hPL.eq hQP;subst this;omega
 obtain rfl:=hPL.eq hQP;obtain⟨pa,pc,rfl⟩:=hP.opn;rw[Ayt]at hP⊢;have b3:=a4.trans l7;refine G.A call12 (Y5 (hs.mono (l2.trans b3)) bd hP oV) ?_;rintro v8 u8 m8 l8 ⟨n0,M,k8,U,av,bq,rfl⟩ _;rw[Bw];have au:=av.ok hPL.1;have ay:=av.z;obtain⟨oa,oc,rfl,_⟩:=id U.val;have a7:=(Aer Y hN H.sixty hP11 (fun e _=>(ay e).1) (fun e _=>(ay e).2)).tx oV oV oV oV;have aj:=b3.trans l8;refine G.c call14 (Q0 (m.mono aj) (g.mono aj) H.w hPL U au (fun _ _=>a7)) ?_;rintro v9 u9 l9 (⟨e,rfl,⟨_,h⟩|⟨_,_,h⟩⟩|⟨_,_,rfl⟩)
 ·exact absurd h h0
 ·omega
 refine G.nF 0 0<|G.nF 0 0<|G.nF 0 0<|G.p P.length 1 (P.length+1:Nat)<|G.nF (P.length+1:Nat) (P.length+1:Nat) ?_;rw[az];refine G.nF P.length P.length<|G.drop PH.mt kV (PH.mt_le _) ?_;have bg:=((l6.trans l7).trans l8).trans l9;refine G.l (ι:=Nat) (fun i=>[(8,.p 6007 0),(12,tV (Ae (Dk q (cfE m0 (P.zip qs)) P C))),(14,sV pa P.length pc),(16,.p 12003 0),(17,tV (Ae (Dk q (cfE n0 M) P C))),(122,sV ga (P.length+1) gc),(123,iV (P.length+1:Nat)),(124,iV i)])
  (fun _=>[(6007,⟨44,[tV (Ae m0),sV na P.length nc]⟩),(12003,⟨44,[tV (Ae n0),sV oa M.length oc]⟩)])
  (fun i u' m'=>i<=P.length+1/\m'=PH.mt) (fun i=>P.length+1-i) 0 ⟨Azh _,rfl⟩ ?_
 rintro J i hJ bv bu X ⟨hi,rfl⟩;have aa:=bg.trans X;by_cases ar:i<P.length+1
 ·refine G.lT i (P.length+1:Nat) ?_;obtain⟨ba,b4,rfl,ea⟩:=Ac.at' (Ac.mono Z aa) (j:=i) (e:=.string (mkS [48])) (by unfold D6;rw[A4v,A3r,if_pos ar]);exact G.a ba b4 (P.length+1) gc i 1 ar<|G.lU none ba (b4+i*1) (.string (mkS [48])) ea<|G.y [48] [48] rfl<|G.i i<|G.b (hJ (i+1) _ _ _ cV X ⟨oV,rfl⟩ oV)
 obtain rfl:i=P.length+1:=oV;refine G.lF (P.length+1:Nat) (P.length+1:Nat) ?_;have b2:=(l8.trans l9).trans X;have O:=hmv.mono (l5.trans aa);have a0:=U.mono (l9.trans X);have a5:=hP.mono b2;rw[az]at O;refine G.c call32 (Zs a5 hPL.1 oV O hm) ?_;rintro bz bw ae ⟨uv,rfl,ad⟩;have an:∀ f:Option Par->Rat,(D6 (((Ah P).map f).map Ae)).length=P.length+1:=fun f=>by rw[Cr,Ayt,Ayt,Bk]
 obtain⟨ua,uc,rfl⟩:=Ac.opn ad;rw[an]at ad⊢;refine G.c call32 (Zs (a5.mono ae) hPL.1 oV (a0.mono ae) au) ?_;rintro c0 bh b0 ⟨wv,rfl,a3⟩;obtain⟨wa,wc,rfl⟩:=Ac.opn a3;rw[an]at a3⊢;have ao:=Adc (u:=bh) n a7;rw[Acc]at ao;refine G.c call33 ao ?_;rintro c3 bi af rfl;have W:=Acv (u:=bi) n;rw[Acc]at W;have br:=Ax3 (Aig (P:=P) (A4f H.pos) (ac P (cfE m0 (P.zip qs))));have bo:=hn.min (d:=cfE n0 M) (A4f H.pos) (E P);have aw:=fun h=>hn.only (d:=cfE n0 M) H.pos am (E P) h;generalize Dk q (cfE m0 (P.zip qs)) P C=qa at *
 generalize Dk q (cfE n0 M) P C=qb at *
 have a9:=(aj.trans l9).trans (((X.trans ae).trans b0).trans af);rcases Vu (qa-qb) with ⟨bn,ab⟩|⟨bp,ab⟩|⟨aq,_⟩
 ·rw[ab];refine G.lT (-1) 0<|G.c call35 W ?_;rintro bk b5 ag rfl;refine G.hT (sg qa) 0<|G.c call8 (Jw (m.mono (a9.trans ag))) ?_;rintro bl bj b1 rfl;exact G.r (.bool true) ⟨rfl,rfl⟩
 ·rw[ab];have al:=aw (by grind);have b7:(Ah P).map (cfE n0 M)=(Ah P).map (cfE m0 (P.zip qs)):=A5f fun e he=>(al e he).symm;rw[b7]at a3;refine G.lF 0 0<|G.eT' 0 0 rfl ?_;have a6:(((Ah P).map (cfE m0 (P.zip qs))).map Ae).length<=1000000:=by rw[Ayt,Ayt,Bk];omega
  refine G.c call34 (Aoe (Ac.mono ad (b0.trans af)) (Ac.mono a3 af) a6 a6) ?_;rintro bk b5 ag rfl;have a8:=Acv (u:=b5) n;rw[Acc]at a8;simp only[decide_true];refine G.c call35 a8 ?_;rintro bl bj b1 rfl;refine G.hT (sg qa) 0<|G.c call8 (Jw (m.mono ((a9.trans ag).trans b1))) ?_;rintro c4 bx bt rfl;exact G.r (.bool true) ⟨rfl,rfl⟩
 exact absurd aq (by grind)
end Go.Proofs.YtijchbjkdllolaaGreatDoor
