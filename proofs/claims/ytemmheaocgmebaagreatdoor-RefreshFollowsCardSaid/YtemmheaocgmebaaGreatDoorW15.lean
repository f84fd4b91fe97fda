/- Parts of one proof, joined by a program. -/
import Derived.Test.YtemmheaocgmebaaGreatDoorW14
import Derived.Test.YtemmheaocgmebaaGreatDoorCards
import Derived.WalkKit
import Derived.ProofKit
import Derived.OpenShut
import Derived.Deep.DeepHandedRow
import Derived.Deep.DeepWitnessRowRef
import Derived.Lib.LaidTab
import Derived.Stop.LaidErr
set_option linter.defProp false
set_option linter.unusedVariables false
set_option linter.unusedSimpArgs false
set_option linter.unusedSectionVars false
set_option maxHeartbeats 16000000
namespace Go.Proofs.YtemmheaocgmebaaGreatDoor
open Go.Proofs.Tryz
open Go.RowKit Go.MapKept
structure Atg (u:PH)(T:zC)(R:List Br)(F:List Al)(lab:Int)(L:List Dm)(xv lv:Value):Prop where
 sch:H5 u xv T R F lab
 ok:Bl u T R F lab
 t8:T.length<=8
 lab0:0<=lab
 f0:F≠[]
 f4:F.length<=4
 rows:Ac u lv 2 (L.map F3)
 wok:WOK u T L
 w9:W9 T L
 l6:L.length<=6
def Aul {u:PH}{s:Src}{ts:List Int}{k:Nat}(h:J0 u s ts)(Y:k<=s.n) :
 Ag prog 10 [s.ptr] u (s.M k) fun r u' m'=>∃ (T:zC) (R:List Br) (F:List Al) (lab:Int) (L:List Dm) (P K:Value) (J:Nat),r=.tuple #[P,K]/\Atg u' T R F lab L P K/\J<=s.n/\m'=s.M J:=by
 letI:Pu:=⟨true⟩
 refine Ag.o func10<|G.callP _ _ kV rfl call44 (By _).symm (Ef _) (Ace 4 oV oV h Y) ?_;rintro v1 u1 m1 l1 ⟨T,R,F,lab,k1,E,ok,C,e,j,H,rfl,m⟩ _;rw[By];obtain⟨xa,xc,xb,xd,xe,xf,rfl,W,V,U⟩:=id E;refine G.callP _ _ kV rfl call35 (By _).symm (Ef _) (Ajh (most:=6) (h.mono l1) H E ok oV) ?_;rintro v2 u2 m2 l2 ⟨L,Z,t,z,X,Q,I,rfl⟩ _;rw[By];obtain⟨la,lc,rfl⟩:=t.opn;rw[A03]at t⊢;exact G.r (.tuple #[.agg #[.slice xa T.length xc,.slice xb R.length xd,.slice xe F.length xf,zI lab],.slice la L.length lc])
  ⟨T,R,F,lab,L,_,_,Z,rfl,⟨E.mono l2,ok.mono l2,C,e,j,m,t,X,Q,z⟩,I,rfl⟩
section
def A0s {u:PH}{j:Value}{T:zC}{F:List Al}{lab:Int}{C:CF}{K:Nat}(m:No u j C K)(hF:Da T F lab):∃ P,Nn F C P:=by
 obtain⟨A,Q,a1,c1,a2,c2,rfl,E,H,h,z,I,J⟩:=m;exact⟨He F A F.length,Tu h.srt _,fun p=>Aed h fun f t=>by
  obtain⟨n,k,_,e,_⟩:=hF.ok f t;rcases e with ⟨e,_⟩|⟨e,_⟩
  ·exact .inl e
  exact .inr e⟩
section
variable {u:PH} {T:zC} {R:List Br} {F:List Al} {lab:Int} {L L':List Dm} {P:List Par}
def Axm (ok:Bl u T R F lab)(hT:∀ y∈L,Bw T y.1)(h:∀ y∈L,G4 F lab y.1=false):(Cf F lab L).c=0:=by
 induction L using Ig with
 |h0=>rfl
 |h1 L y ih =>
  rw[Eb,Als (Awu ok (hT y mV) (h y mV))];exact ih (fun z e=>hT z (A24 _ e)) (fun z e=>h z (A24 _ e))
def Ala {l:Nat}(ok:Bl u T R F (l:Int))(hT:∀ y∈L,Bw T y.1/\1<=y.2.1)(e:Nn F (Cf F (l:Int) L) P){y:Dm}(m:y∈L):Aqi F l P y.1:=by
 cases h:G4 F (l:Int) y.1 with
 |false=>exact .inl h
 |true=>exact .inr ⟨h,fun x j=>Aln ok hT m h e.2 j⟩
def Axy (ok:Bl u T R F lab)(hT:∀ y∈L,Bw T y.1/\1<=y.2.1)(hF:F≠[])(H:(Cf F lab L).c≠0)(C:Nn F (Cf F lab L) P):P≠[]:=by
 obtain⟨f,h,rfl⟩:∃ f h,F=f::h:=by
  cases F with
  |nil=>exact absurd rfl hF
  |cons f h=>exact⟨f,h,rfl⟩
 have E:(f::h)[0]?=some f:=rfl;obtain⟨n,k,_,j,_⟩:=ok.feat.ok f mV;have m:f.2.1=1\/f.2.1=2:=by
  rcases j with ⟨j,_⟩|⟨j,_⟩
  ·exact .inl j
  exact .inr j
 rcases m with m|m
 ·exact List.ne_nil_of_mem ((C.2 _).2 (.inl ⟨0,f,rfl,E,m⟩))
 obtain⟨y,t,z⟩:∃ y∈L,G4 (f::h) lab y.1=true:=A3m fun I=>H (Axm ok (fun y t=>(hT y t).1) fun y t=>by
  cases e:G4 (f::h) lab y.1 with
  |false=>rfl
  |true=>exact absurd ⟨y,t,e⟩ I)
 have J:Jf y.1 0 f=some ((((0:Nat):Int),y.1.getD f.1 []),1):=by unfold Jf;rw[if_pos m]
 exact List.ne_nil_of_mem (Aln ok hT t z C.2 (F9.2 ⟨0,f,mV,E,J⟩))
theorem Apu (ok:Bl u T R F lab)(hT:∀ y∈L++L',Bw T y.1/\y.2.1<=7)(e:(L++L').length<=13)(m:0<(Cf F lab L).c):Ug P (Cf F lab (L++L')):=by
 refine Vx ok hT e ?_;rw[Api];obtain⟨k,h,_⟩:=Arb ok.feat ok.l1 (Iz ok) (L:=L') fun y j=>hT y (A6v _ j);show 0<(Cf F lab L).c+(Cf F lab L').c;rw[h];have:(0:Rat)<=(k:Rat):=by exact_mod_cast A1t k
 grind
end
end
def Asa:∀ L:List Dm,A9 2 (L.map F3):=fun L e h=>by
 obtain⟨y,_,rfl⟩:=A1b.1 h;exact Yi y _ mV
def Anp {P:List Par}{k:Nat}{e:Int}(h:k=0/\e=12\/e=3/\k≠0/\11<P.length):e≠0:=by
 rcases h with ⟨_,rfl⟩|⟨rfl,_⟩<;>decide
section
variable {w:World}
variable [Cl] [Co]
section
variable {P:Program} [A6 P] {fn:Func} {Post:Ce} {st:List KI×S} {u m:PH}
def PH.or_le {x y z:PH}(h:PH.le x z)(j:PH.le y z):PH.le (x.or y) z:=fun g o e=>by
 cases hx:x g with
 |none=>rw[PH.or_r hx]at e;exact j g o e
 |some p=>rw[PH.or_l hx]at e;cases e;exact h g _ hx
def Bv.both (h:Bv u m w):PH.le u (m.or u)/\Bv (m.or u) PH.mt w:=by
 have C:PH.le u (m.or u):=fun g o e=>by
  cases hx:m g with
  |none=>rw[PH.or_r hx];exact e
  |some p=>have:=(h.ap g).resolve_right (by rw[hx];simp);rw[this]at e;cases e
 refine⟨C,⟨fun g o e=>?_,Fj.mt w,fun _=>.inr rfl,fun g cs t fr j z e E=>C g _ (h.cl g cs t fr j z e E)⟩⟩;cases hx:m g with
 |none=>rw[PH.or_r hx]at e;exact h.pu g o e
 |some p=>rw[PH.or_l hx]at e;cases e;exact h.pm g _ hx
def Bv.apart {w w':World}{C:PH}(h:Bv u m w)(g:Bv C PH.mt w')(E:B0 (m.or u) PH.mt w C PH.mt w'):∃ H,m.or H=C/\Bv H m w'/\B0 u m w H m w':=by
 have F:∀ b o,m b=some o->C b=some o:=fun b o e=>by
  rw[E.us b (h.pm.lt e)];exact PH.or_l e
 refine⟨fun b=>if (m b).isNone then C b else none,?_,⟨fun b o e=>?_,fun b o e=>?_,fun b=>?_,fun b cs t fr j z e L=>?_⟩,⟨E.sz,fun b e _=>E.old b e rfl,fun b e=>?_,fun b _ e=>e,E.io,E.dr⟩⟩
 ·funext b
  cases hx:m b with
  |none=>rw[PH.or_r hx];simp[hx]
  |some p=>rw[PH.or_l hx,F b p hx]
 ·have e:(if (m b).isNone then C b else none)=some o:=e;split at e
  ·exact g.pu b o e
  cases e
 ·exact g.pu b o (F b o e)
 ·cases hx:m b with
  |none=>exact .inr rfl
  |some p=>left;simp[hx]
 ·have I:=g.cl b cs t fr j z e L;cases hx:m b with
  |none=>simp[hx,I]
  |some p =>
   have J:=F b p hx;rw[I]at J;cases J;have K:=h.cl b cs t fr j z (h.pm b _ hx) L;have:=(h.ap b).resolve_right (by rw[hx];simp);rw[this]at K;cases K
 show (if (m b).isNone then C b else none)=u b;cases hx:m b with
 |none=>simp only[Option.isNone_none,if_true];rw[E.us b e,PH.or_r hx]
 |some p=>simp only[Option.isNone_some,A4z,if_false];exact ((h.ap b).resolve_right (by rw[hx];simp)).symm
end
end
def Fn0.seeing {P:Program}{f:Nat}{args:zV}{u mc:PH}{R:Value->PH->Prop}(c:PH.le u (mc.or u)->PH.le mc (mc.or u)->Fn0 P f args (mc.or u) R):Ag P f args u mc (fun v j m=>m=mc/\R v (mc.or j)):=fun w h=>by
 refine Calls.mono (c h.both.1 (fun g o I=>PH.or_l I) w h.both.2) fun e w' H=>?_;obtain⟨v,J,m,t,z,C,rfl,E⟩:=H;obtain⟨j,F,g1,g2⟩:=h.apart z C;exact⟨v,j,mc,t,g1,g2,rfl,by rw[F];exact E⟩
section
variable {x y:PH}
def Bdk (h:Hp x y):x.or y=y.or x:=by
 funext g
 rcases h g with e|e
 ·rw[PH.or_r e];cases hy:y g with
  |none=>rw[PH.or_r hy,e]
  |some o=>rw[PH.or_l hy]
 rw[PH.or_r e];cases hx:x g with
 |none=>rw[PH.or_r hx,e]
 |some o=>rw[PH.or_l hx]
def Bdg (h:Hp x y):Hp y x:=fun g=>(h g).symm
end
section
variable {F:List Al}{L:List Dm}{lab:Int}{u:PH}
def Be3 (h:Bev F lab L=0):∀ y∈L,G4 F lab y.1=false:=fun y m=>by
 cases e:G4 F lab y.1 with
 |false=>rfl
 |true =>
  have j:y∈L.filter fun y=>G4 F lab y.1:=A7a.2 ⟨m,e⟩;rw[A2l h]at j;simp at j
def Be2 {T:zC}{R:List Br}(ok:Bl u T R F lab):∀ {e:List Dm},(∀ y∈e,Bw T y.1/\G4 F lab y.1=false)->Cf F lab (L++e)=Cf F lab L:=by
 intro e;induction e using Ig with
 |h0=>intro _;rw[A1x]
 |h1 e y ih =>
  intro h;have j:=h y mV;rw[<-A2k,Eb,Als (Awu ok j.1 j.2)];exact ih fun z m=>h z (A24 _ m)
def Bez {P:List Par}{k:Nat}{e:Int}(h:k=0/\e=12\/e=3/\k≠0/\11<P.length):e=if k=0 then 12 else 3:=by
 rcases h with ⟨h,rfl⟩|⟨rfl,h,_⟩
 ·rw[if_pos h]
 rw[if_neg h]
def Be4 {v:Value}{ts:List Int}(ht:Hx u)(hv:Ac u v 1 (Fc ts))(co:∀ t∈ts,-9223372036854775808<=t)(cj:∀ t∈ts,t<=9223372036854775807) :
 Fn0 prog 6 [v] u fun v' _=>v'=zT:=by
 letI:Pu:=⟨true⟩
 obtain⟨a,c,rfl⟩:=hv.opn;rw[Cq]at hv⊢;refine Fn0.o func6 ?_;by_cases dh:400<ts.length
 ·refine G.gT ts.length 400<|G.c call8 (Ahv ht) ?_;rintro v1 u1 l1 rfl;exact G.r zT ⟨rfl,rfl⟩
 refine G.gF ts.length 400<|G.callO _ _ kV call9 (As9 hv oV co cj) ?_;rintro v1 u1 m1 l1 ⟨s,rfl,rfl,hs⟩ _;rw[By];refine G.callP _ _ kV rfl call10 (By _).symm (Ef _) (Aul hs (A1t _)) ?_;rintro v2 u2 m2 l2 ⟨T,R,F,lab,L,xv,lv,k2,rfl,w,cl,rfl⟩ _;rw[By];have aa:=ht.mono (l1.trans l2);have dq:=w.l6;have hT:=w.wok.tup;have bn:∀ y∈L,Bw T y.1/\1<=y.2.1:=fun y C=>by
  obtain⟨_,q1,q2,_⟩:=w.wok y C;exact⟨q1,q2⟩
 obtain⟨l,rfl⟩:∃ l:Nat,lab=(l:Int):=⟨lab.toNat,by have:=w.lab0;omega⟩;obtain⟨xa,xc,xb,xd,xe,xf,rfl,_⟩:=id w.sch;refine G.callP _ _ kV rfl call35 (By _).symm (Ef _) (Ajh (most:=4) (hs.mono l2) cl w.sch w.ok oV) ?_;rintro v3 u3 m3 l3 ⟨m,k3,al,dp,ah,ca,cm,rfl⟩ _;rw[By];have Y:=w.rows.mono l3;obtain⟨lb,ld,rfl⟩:=al.opn;rw[A03]at al⊢;obtain⟨la,lc,rfl⟩:=Y.opn;rw[A03]at Y⊢;have am:∀ y∈m,Bw T y.1/\y.2.1<=7:=fun y C=>by
  obtain⟨_,q1,_,q2⟩:=ah y C;exact⟨q1,q2⟩
 have an:∀ y∈L++m,Bw T y.1/\y.2.1<=7:=fun y C=>(A1h.1 C).elim (hT y) (am y);have cc:∀ y∈L++m,Bw T y.1/\1<=y.2.1:=fun y C=>(A1h.1 C).elim (bn y) fun h=>by
  obtain⟨_,q1,q2,_⟩:=ah y h;exact⟨q1,q2⟩
 refine G.c call11 (Ld (w.sch.mono l3) (w.ok.mono l3) w.t8 Y (w.wok.mono l3) oV) ?_;rintro v4 u4 l4 ⟨x4,rfl,k4⟩;have ak:=l3.trans l4;obtain⟨P,hP⟩:=A0s k4 w.ok.feat;have bs:P.length<=24:=by
  have:=Atb w.ok.feat (fun y C=>(hT y C).1) w.w9.c9 hP;have:=w.f4;omega
 obtain⟨k,bk⟩:=Ajm (w.sch.mono ak) (w.ok.mono ak) w.t8 hT oV k4 oV hP bs w.lab0;have ce:=L0 w.ok w.ok.l1 (Iz w.ok) hT;have bt:=fun z=>Af3 (L:=L) w.ok.feat w.ok.l1 (Iz w.ok) z P fun y C=>(hT y C).1;obtain⟨a1,n1,c1,a2,n2,c2,rfl⟩:=id k4.opn;refine G.appendL 53 2 32 (.agg #[zN,zO]) (s.M k3) [] (L.map F3) zN la L.length lc kV rfl rfl oV (Af.nil _ _ _) (Y.mono l4) (Asa L) gV gV ?_;intro v5 m5 b5;rw[A3q]at b5;obtain⟨a5,c5,rfl⟩:=b5.shape;refine G.appendL 53 2 32 (.agg #[zN,zO]) (s.M k3) (L.map F3) (m.map F3) (.slice a5 (L.map F3).length c5) lb m.length ld kV rfl rfl oV b5 (al.mono l4) (Asa m) gV gV ?_;intro v6 m6 au;rw[<-A1i]at au;obtain⟨a6,c6,rfl⟩:=au.shape;have cn:((L++m).map F3).length=(L++m).length:=A03 ..;rw[cn]at au⊢;have bq:(L++m).length<=10:=by rw[A1d];omega
 have cd:WOK u4 T (L++m):=fun y C=>(A1h.1 C).elim (fun h=>(w.wok.mono ak) y h) fun h=>(ah.mono l4) y h;obtain⟨sm,rfl,b9,cb⟩:=au.split;refine G.callP _ _ kV rfl call11 rfl b9 (Fn0.seeing fun hu hm=>Ld (w.sch.mono (ak.trans hu)) (w.ok.mono (ak.trans hu)) w.t8 (cb.list hm) (cd.mono hu) oV) ?_;rintro v7 u7 m7 l7 ⟨rfl,x7,rfl,k7⟩ _;obtain⟨p1,o1,d1,p2,o2,d2,rfl⟩:=id k7.opn;refine G.giveP (ma:=m7) (sm:=s.M k3) kV (Bdk b9) (Bdg b9) (fun g=>.inl rfl) ?_;intro u8 l8 cp;have k8:=k7.mono (PH.or_le cp l8);have bg:=l7.trans l8;have b1:=ak.trans bg;obtain⟨W,a3⟩:=A0s k8 w.ok.feat;have ap:W.length<=24:=by
  have:=Atb w.ok.feat (fun y C=>(an y C).1) (fun y C=>(A1h.1 C).elim (w.w9.c9 y) (ca.c9 y)) a3;have:=w.f4;omega
 obtain⟨k',a0⟩:=Ajm (w.sch.mono b1) (w.ok.mono b1) w.t8 an bq k8 oV a3 ap w.lab0;have ao:=L0 w.ok w.ok.l1 (Iz w.ok) an;have a9:=fun z=>Af3 (L:=L++m) w.ok.feat w.ok.l1 (Iz w.ok) z W fun y C=>(an y C).1;refine G.callP _ _ kV rfl call12 (By _).symm (Ef _) (Afm (hs.mono (l2.trans b1)) cm) ?_;rintro v9 u9 m9 l9 ⟨q,k9,rfl,hq,dm,rfl⟩ _;rw[By];refine G.c call21 (Aoj (bk.mono (bg.trans l9)) hq ce oV bt) ?_;intro dv du bf hO;have V:=(b1.trans l9).trans bf;have ay:=Ahv (aa.mono V);rcases hO with ⟨e,he,rfl⟩|⟨ck,b4,sv,X,b,s0,c0,rfl,kS,kN⟩
 ·refine G.drop PH.mt kV (fun g o ho=>by cases ho)<|G.nT' e 0 (Anp he)<|G.c call8 ay ?_;rintro b3 bh Q rfl;exact G.r zT ⟨rfl,rfl⟩
 obtain⟨pa,pc,ya,yc,ra,rc,rfl,bm,_⟩:=id kS;refine G.drop PH.mt kV (fun g o ho=>by cases ho)<|G.nF 0 0 ?_;by_cases dj:5<P.length
 ·refine G.gT P.length 5<|G.c call8 ay ?_;rintro b3 bh Q rfl;exact G.r zT ⟨rfl,rfl⟩
 refine G.gF P.length 5 ?_;have aw:0<(Cf F (l:Int) L).c:=by
  rw[bk.mom.c]
  exact_mod_cast Nat.pos_of_ne_zero ck
 have hp:Td F P q:=Al6 hP hq b4;have cr:=Axy w.ok bn w.f0 (by intro e;rw[e]at aw;exact absurd aw jV) hP;have bi:∀ n,n<=m.length->Ug P (Oo F (l:Int) (Cf F (l:Int) L) (m.take n)):=fun n hn=>by
  rw[Ano];exact Apu w.ok (fun y C=>(A1h.1 C).elim (hT y) fun h=>am y (A27 h)) (by rw[A1d,A1e];omega) aw
 have hC:Ug P (Cf F (l:Int) L):=bi 0 (A1t _);have av:Ug W (Cf F (l:Int) (L++m)):=Apu w.ok an oV aw;have bp:k'≠0:=fun e=>by
  have h1:=av.pos;rw[a0.mom.c,e]at h1;exact absurd h1 jV
 have cg:W=P->∀ y∈m,Aqi F l P y.1:=fun e y C=>by
  subst e;exact Ala w.ok cc a3 (A6v _ C)
 have af:=(bg.trans l9).trans bf;have ag:=l9.trans bf;refine G.c call36 (Be0 (C':=Cf F (l:Int) (L++m)) (aa.mono V) (w.sch.mono V) (w.ok.mono V) (al.mono (l4.trans af)) (ah.mono (l4.trans af)) kS kN hp cr bi oV oV (a0.mono ag) ao oV a9 ap cg) ?_;intro b3 bh Q hF;have hF':(∃ e:Int,(k'=0/\e=12\/e=3/\k'≠0/\11<W.length)/\b3=.tuple #[Axc,zO,zI e]) \/
  ∃ (ar:Int) (ad:Value) (Pw:List Par) (Cw:CF) (X':zM) (b':zR) (s' c':Rat),b3=.tuple #[ad,zI ar,zO]/\Ma bh ad Pw X' b' s' c' q/\H9 Pw Cw q X' b' s' c'/\W.length<=11 /\
   (Bev F (l:Int) m=0/\ar=0/\P=Pw/\Cf F (l:Int) L=Cw\/Bev F (l:Int) m≠0/\ar=(if Bev F (l:Int) m<=P.length/2+P.length%2/\W=P then 1 else 2)/\W=Pw/\Cf F (l:Int) (L++m)=Cw):=by
  rcases hF with ⟨h0,ad,X',b',s',c',rfl,ai,a4⟩|⟨h0,⟨e,he,rfl⟩|⟨dl,a7,ad,X',b',s',c',rfl,ai,a4⟩⟩
  ·have cq:=Be3 h0;have a8:W=P:=by
    rw[Be2 w.ok fun y C=>⟨(am y C).1,cq y C⟩]at a3;exact a3.eq hP
   exact .inr ⟨0,ad,P,_,X',b',s',c',rfl,ai,a4,by rw[a8];exact b4,.inl ⟨h0,rfl,rfl,rfl⟩⟩
  ·exact .inl ⟨e,he,rfl⟩
  exact .inr ⟨_,ad,W,_,X',b',s',c',rfl,ai,a4,a7,.inr ⟨h0,rfl,rfl,rfl⟩⟩
 rcases hF' with ⟨e,he,rfl⟩|⟨ar,ad,Pw,Cw,X',b',s',c',rfl,ai,a4,a7,bu⟩
 ·have ci:e≠0:=Anp he;refine G.c call21 (Aoj (a0.mono (ag.trans Q)) hq ao oV a9) ?_;intro d8 bx Z b6;have H:=(V.trans Q).trans Z;have ay:=Ahv (aa.mono H);rcases b6 with ⟨e',bb,rfl⟩|⟨_,di,_⟩
  ·have:e'=e:=by rw[Bez bb,Bez he]
   subst this;refine G.nF' e' e' (fun h=>h rfl)<|G.nT' e' 0 ci<|G.eT' e' e' rfl<|G.c call8 ay ?_;rintro dw d4 ab rfl;exact G.r zT ⟨rfl,rfl⟩
  rcases he with ⟨h,_⟩|⟨_,_,h⟩
  ·exact absurd h bp
  omega
 obtain⟨cu,cw,dc,df,cy,d0,rfl,_⟩:=id ai;refine G.c call21 (Aoj (a0.mono (ag.trans Q)) hq ao oV a9) ?_;intro d8 bx Z b6;have H:=(V.trans Q).trans Z;rcases b6 with ⟨e',bb,rfl⟩|⟨_,_,ds,X2,b2,s2,c8,rfl,az,be⟩
 ·rcases bb with ⟨h,_⟩|⟨_,_,h⟩
  ·exact absurd h bp
  omega
 obtain⟨cv,cx,dd,dg,cz,d3,rfl,_⟩:=id az;refine G.nF 0 0<|G.nF 0 0 ?_;have ch:=fun (u':PH) (l1:PH.le bx u') (y:Dm) (C:y∈m)=>Bdd (⟨w.sch.mono (H.trans l1),w.ok.mono (H.trans l1),(ah y C).1.mono ((l4.trans af).trans ((Q.trans Z).trans l1)),(ah y C).2.1⟩:Mv u' (.agg #[.slice xa T.length xc,.slice xb R.length xd,.slice xe F.length xf,zI l]) (.slice y.2.2.1 y.1.length y.2.2.2) T R F (l:Int) y.1);have bj:=al.mono ((l4.trans af).trans (Q.trans Z));refine G.l (ι:=Nat) (fun i=>[(4,.p 4005 0),(9,.p 7009 0),(11,.p 8008 0),(13,.p 11009 0),(14,iV ar),(16,.p 12008 0),(18,iV (Bev F (l:Int) (m.take i))),(99,sV lb m.length ld),(100,iV m.length),(101,iV i)])
  (fun i=>[(4005,⟨30,[sV xa T.length xc,sV xb R.length xd,sV xe F.length xf,iV l]⟩),(7009,⟨38,[tV (Ae (Cf F (l:Int) (L++m)).c),sV p1 o1 d1,sV p2 o2 d2]⟩),
   (8008,⟨48,[.v (.slice pa P.length pc),.v (.slice ya X.length yc),.v (.slice ra b.length rc),.v (zS (Ae s0)),.v (zS (Ae c0)),.v (zS (Ae q))]⟩),
   (11009,⟨48,[.v (.slice cu Pw.length cw),.v (.slice dc X'.length df),.v (.slice cy b'.length d0),.v (zS (Ae s')),.v (zS (Ae c')),.v (zS (Ae q))]⟩),
   (12008,⟨48,[.v (.slice cv W.length cx),.v (.slice dd X2.length dg),.v (.slice cz b2.length d3),.v (zS (Ae s2)),.v (zS (Ae c8)),.v (zS (Ae q))]⟩)])
  (fun i u' m'=>i<=m.length/\m'=PH.mt) (fun i=>m.length-i) 0 ⟨A1t _,rfl⟩ ?_
 rintro J i hJ d4 dr ab ⟨hi,rfl⟩;by_cases br:i<m.length
 ·refine G.lT i m.length ?_;obtain⟨y,C⟩:∃ y,m[i]?=some y:=⟨_,A01 br⟩;have ct:=A1k C;obtain⟨bl,ol,rfl,ey⟩:=Ac.at' (bj.mono ab) (j:=i) (e:=F3 y) (by simp[C]);refine G.N m.length ld br ey<|G.c call29 (ch _ ab y ct) ?_;rintro d9 d5 b0 rfl;have ax:=Bey (F:=F) (lab:=(l:Int)) C;have bo:=Bex F (l:Int) (m.take i);rw[A1e]at bo;cases hb:G4 F (l:Int) y.1 with
  |true =>
   rw[if_pos hb]at ax;exact G.p (Bev F (l:Int) (m.take i):Int) 1 (Bev F (l:Int) (m.take (i+1)):Int)<|G.i i<|G.b (hJ (i+1) _ _ _ cV (ab.trans b0) ⟨oV,rfl⟩ oV)
  |false =>
   rw[if_neg (by rw[hb];simp)]at ax;replace ax:Bev F (l:Int) (m.take (i+1))=Bev F (l:Int) (m.take i):=oV;refine G.i i ?_;rw[<-ax];exact G.b (hJ (i+1) _ _ _ cV (ab.trans b0) ⟨oV,rfl⟩ oV)
 obtain rfl:i=m.length:=oV;refine G.lF m.length m.length ?_;rw[A15];have bo:=Bex F (l:Int) m;have I:=a0.mono ((ag.trans (Q.trans Z)).trans ab);refine G.c call37 (Aif I.sch I.ok I.cof I.sC I.vC I.K I.bel) ?_;intro d9 d5 b0 cs;obtain⟨ps,P2,rfl,b8,_,b7⟩:=cs.resolve_left fun⟨_,m,h1,b7⟩=>by have:=congrArg List.length (a3.eq b7);omega
 cases a3.eq b7;obtain⟨qa,qc,rfl⟩:=b8.opn;rw[show (W.map Ap).length=W.length from A03 ..]at b8⊢;have U:=ab.trans b0;have ae:=ai.mono (Z.trans U);have bd:Td F W q:=Al6 a3 hq a7;rcases bu with ⟨h0,rfl,rfl,rfl⟩|⟨h0,rfl,rfl,rfl⟩
 ·refine G.eT (Bev F (l:Int) m:Int) 0<|G.eT' 0 0 rfl<|G.c call20 (T9 ae (kS.mono (Q.trans (Z.trans U))) a4 kN hp hC) ?_;rintro da d6 aj rfl;refine G.c call8 (Ahv (aa.mono ((H.trans U).trans aj))) ?_;rintro db d7 ac rfl;exact G.r zT ⟨rfl,rfl⟩
 refine G.eF (Bev F (l:Int) m:Int) 0<|G.c call38 (Ad9 b8 (bm.mono ((Q.trans Z).trans U)) oV oV) ?_;rintro da d6 aj rfl;have E:=U.trans aj;by_cases a8:W=P
 ·rw[decide_eq_true a8];have dk:W.length=P.length:=by rw[a8]
  refine G.c call39 (Vb (p:=W.length) (t:=Bev F (l:Int) m) oV oV) ?_;rintro db d7 ac rfl;by_cases ba:Bev F (l:Int) m<=W.length/2+W.length%2
  ·rw[decide_eq_true ba,if_pos ⟨oV,a8⟩];refine G.eT' 1 1 rfl<|G.c call20 (T9 (ae.mono (aj.trans ac)) (az.mono (E.trans ac)) a4 be bd av) ?_;rintro c4 bz aq rfl;refine G.c call8 (Ahv (aa.mono ((H.trans (E.trans ac)).trans aq))) ?_;rintro c7 c3 bw rfl;exact G.r zT ⟨rfl,rfl⟩
  rw[decide_eq_false ba,if_neg (fun h=>ba oV)];refine G.eT' 2 2 rfl<|G.c call20 (T9 (ae.mono (aj.trans ac)) (az.mono (E.trans ac)) a4 be bd av) ?_;rintro c4 bz aq rfl;refine G.c call8 (Ahv (aa.mono ((H.trans (E.trans ac)).trans aq))) ?_;rintro c7 c3 bw rfl;exact G.r zT ⟨rfl,rfl⟩
 rw[decide_eq_false a8,if_neg (fun h=>a8 h.2)];refine G.eT' 2 2 rfl<|G.c call20 (T9 (ae.mono aj) (az.mono E) a4 be bd av) ?_;rintro c4 bz aq rfl;refine G.c call8 (Ahv (aa.mono ((H.trans E).trans aq))) ?_;rintro c7 c3 bw rfl;exact G.r zT ⟨rfl,rfl⟩
end
end Go.Proofs.YtemmheaocgmebaaGreatDoor
section
namespace Go.Proofs.YtemmheaocgmebaaGreatDoor.refreshfollows
open Go.ChangeShapes Go.WideShapes Go.ChangeAt Go.RowKit
theorem j0:(Rows.refreshFollowsRow.wf (OpenSpec.ofChange (OpenSpec.ofChange Rows.refreshFollowsSpec).bare)&&laidOutB Tryz.pinned.checked.prog&&mapsRowed Tryz.pinned.checked.prog&&Tryz.f6.params.all (Tryz.pinned.checked.prog.readableRec ·)&&namedTie Tryz.pinned.checked.prog Rows.refreshFollowsRow.named (OpenSpec.ofChange Rows.refreshFollowsSpec).bare.vars&&(Rows.refreshFollowsRow.stops == [])&&(Tryz.pinned.checked.prog.stops == [])&&(Rows.refreshFollowsRow.knobs == [])&&(Tryz.pinned.checked.prog.stopKnobs == []))=true:=by kernel_rfl
theorem j1:(Rows.refreshFollowsRow.inPlace==Tryz.pinned.checked.prog.inPlace 6)=true:=by kernel_rfl
theorem j2:(Rows.refreshFollowsRow.unfollowed==Tryz.pinned.checked.prog.unfollowed 6)=true:=by kernel_rfl
theorem j3:(Rows.refreshFollowsRow.recurses==Tryz.pinned.checked.prog.recurses 6)=true:=by kernel_rfl
theorem j4:(Rows.refreshFollowsRow.named==Tryz.pinned.checked.prog.varsNamed 6)=true:=by kernel_rfl
theorem j5:Tryz.pinned.checked.prog.mayEnter=true:=by kernel_rfl
theorem closed:joinedFacts Tryz.pinned.checked.prog 6 Tryz.f6 (OpenSpec.ofChange Rows.refreshFollowsSpec).bare Rows.refreshFollowsRow=true:=by
 unfold joinedFacts;rw[j0,j1,j2,j3,j4,j5]
 kernel_rfl
end Go.Proofs.YtemmheaocgmebaaGreatDoor.refreshfollows
end
namespace Go.Proofs.YtemmheaocgmebaaGreatDoor
open Go.Proofs.Tryz
open Go.RowKit Go.MapKept
end Go.Proofs.YtemmheaocgmebaaGreatDoor
