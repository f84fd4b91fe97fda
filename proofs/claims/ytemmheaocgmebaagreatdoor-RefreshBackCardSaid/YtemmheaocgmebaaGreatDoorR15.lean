/- Parts of one proof, joined by a program. -/
import Derived.Test.YtemmheaocgmebaaGreatDoorR14
import Derived.Test.YtemmheaocgmebaaGreatDoorCards
import Derived.WalkKit
import Derived.ProofKit
import Derived.OpenShut
import Derived.Deep.DeepHandedRow
import Derived.Deep.DeepWitnessRowRef
import Derived.Lib.LaidTab
import Derived.Stop.LaidErr
set_option linter.defProp false
set_option linter.unusedVariables false
set_option linter.unusedSimpArgs false
set_option linter.unusedSectionVars false
set_option maxHeartbeats 16000000
namespace Go.Proofs.YtemmheaocgmebaaGreatDoor
open Go.Proofs.Tryz
open Go.RowKit Go.MapKept
def Asa:∀ L:List Dm,A9 2 (L.map F3):=fun L e g=>by
 obtain⟨y,_,rfl⟩:=A1b.1 g;exact Yi y _ mV
def Anp {P:List Par}{k:Nat}{e:Int}(h:k=0/\e=12\/e=3/\k≠0/\11<P.length):e≠0:=by
 rcases h with ⟨_,rfl⟩|⟨rfl,_⟩<;>decide
def Au5 {u:PH}{v:Value}{ts:List Int}(ht:Hx u)(hv:Ac u v 1 (Fc ts))(br:∀ t∈ts,-9223372036854775808<=t)(bm:∀ t∈ts,t<=9223372036854775807) :
 Fn0 prog 5 [v] u fun v' _=>v'=.bool true:=by
 letI:Pu:=⟨true⟩
 obtain⟨a,c,rfl⟩:=hv.opn;rw[Cq]at hv⊢;refine Fn0.o func5 ?_;by_cases c4:400<ts.length
 ·refine G.gT ts.length 400<|G.c call8 (Ahv ht) ?_;rintro v1 u1 l1 rfl;exact G.r (.bool true) ⟨rfl,rfl⟩
 refine G.gF ts.length 400<|G.callO _ _ kV call9 (As9 hv oV br bm) ?_;rintro v1 u1 m1 l1 ⟨s,rfl,rfl,hs⟩ _;rw[By];refine G.callP _ _ kV rfl call10 (By _).symm (Ef _) (Aul hs (A1t _)) ?_;rintro v2 u2 m2 l2 ⟨T,R,F,lab,L,xv,lv,k2,rfl,w,bo,rfl⟩ _;rw[By];have J:=ht.mono (l1.trans l2);have cx:=w.l6;have hT:=w.wok.tup;have aa:∀ y∈L,Bw T y.1/\1<=y.2.1:=fun y hy=>by
  obtain⟨_,q1,q2,_⟩:=w.wok y hy;exact⟨q1,q2⟩
 obtain⟨l,rfl⟩:∃ l:Nat,lab=(l:Int):=⟨lab.toNat,by have:=w.lab0;omega⟩;obtain⟨xa,xc,xb,xd,xe,xf,rfl,_⟩:=id w.sch;have C:=w.rows;obtain⟨la,lc,rfl⟩:=C.opn;rw[A03]at C⊢;refine G.c call11 (Ld w.sch w.ok w.t8 C w.wok oV) ?_;rintro v3 u3 l3 ⟨x3,rfl,k3⟩;obtain⟨P,hP⟩:=A0s k3 w.ok.feat;have ap:P.length<=24:=by
  have:=Atb w.ok.feat (fun y hy=>(hT y hy).1) w.w9.c9 hP;have:=w.f4;omega
 obtain⟨k,ak⟩:=Ajm (w.sch.mono l3) (w.ok.mono l3) w.t8 hT oV k3 oV hP ap w.lab0;have bk:=L0 w.ok w.ok.l1 (Iz w.ok) hT;have aq:=fun z=>Af3 (L:=L) w.ok.feat w.ok.l1 (Iz w.ok) z P fun y hy=>(hT y hy).1;obtain⟨a1,n1,c1,a2,n2,c2,rfl⟩:=id k3.opn;refine G.callP _ _ kV rfl call12 (By _).symm (Ef _) (Afm (hs.mono (l2.trans l3)) bo) ?_;rintro v4 u4 m4 l4 ⟨q,k4,rfl,hq,bp,rfl⟩ _;rw[By];have bs:=Aoj (ak.mono l4) hq bk oV aq;refine G.c call21 bs ?_;intro v5 u5 l5 hO;have af:=(l3.trans l4).trans l5;have ab:=Ahv (J.mono af);rcases hO with ⟨e,he,rfl⟩|⟨bn,al,sv,X,b,s0,c0,rfl,kS,kN⟩
 ·refine G.nT' e 0 (Anp he)<|G.drop PH.mt kV (fun g o ho=>by cases ho)<|G.c call8 ab ?_;rintro v6 u6 l6 rfl;exact G.r (.bool true) ⟨rfl,rfl⟩
 obtain⟨pa,pc,ya,yc,ra,rc,rfl,_⟩:=id kS;refine G.nF 0 0 ?_;by_cases ct:L.length=0
 ·refine G.eT L.length 0<|G.drop PH.mt kV (fun g o ho=>by cases ho)<|G.c call8 ab ?_;rintro v6 u6 l6 rfl;exact G.r (.bool true) ⟨rfl,rfl⟩
 refine G.eF L.length 0 ?_;by_cases cu:5<P.length
 ·refine G.gT P.length 5<|G.drop PH.mt kV (fun g o ho=>by cases ho)<|G.c call8 ab ?_;rintro v6 u6 l6 rfl;exact G.r (.bool true) ⟨rfl,rfl⟩
 refine G.gF P.length 5 ?_;have Q:0<(Cf F (l:Int) L).c:=by
  rw[ak.mom.c]
  exact_mod_cast Nat.pos_of_ne_zero bn
 have hp:Td F P q:=Al6 hP hq al;have hC:=Vx (P:=P) w.ok hT oV Q;have V:=Axy w.ok aa w.f0 (by intro e;rw[e]at Q;exact absurd Q jV) hP;have av:=hs.mono (l2.trans af);refine G.callP _ _ kV rfl call14 (By _).symm (Ef _) (I4 (n:=L.length) av bp oV oV) ?_;rintro v6 u6 m6 l6 ⟨r6,k6,rfl,ar,bq,rfl⟩ _;rw[By];obtain⟨y,hy⟩:∃ y,L[r6]?=some y:=⟨_,A01 ar⟩;have az:=A1k hy;have ba:=af.trans l6;obtain⟨bl,ol,rfl,e6⟩:=Ac.at' (C.mono ba) (j:=r6) (e:=F3 y) (by simp[hy]);refine G.a bl ol L.length lc r6 2 ar<|G.lU (some 2) bl (ol+r6*2) (.agg #[.slice y.2.2.1 y.1.length y.2.2.2,.int .i64 y.2.1]) e6<|G.callP _ _ kV rfl call14 (By _).symm (Ef _) (I4 (n:=L.length) (av.mono l6) bq oV oV) ?_;rintro v7 u7 m7 l7 ⟨r7,k7,rfl,au,cv,rfl⟩ _;rw[By];obtain⟨z,hz⟩:∃ z,L[r7]?=some z:=⟨_,A01 au⟩;have b2:=A1k hz;have K:=ba.trans l7;obtain⟨cq,cz,e0,e7⟩:=Ac.at' (C.mono K) (j:=r7) (e:=F3 z) (by simp[hz]);cases e0;refine G.a bl ol L.length lc r7 2 au<|G.lU (some 2) bl (ol+r7*2) (.agg #[.slice z.2.2.1 z.1.length z.2.2.2,.int .i64 z.2.1]) e7<|G.drop PH.mt kV (fun g o ho=>by cases ho) ?_;obtain⟨W,I,_,_⟩:=w.wok y az;obtain⟨b1,Y,_,_⟩:=w.wok z b2;have U:=Ala w.ok aa hP az;have ao:=Ala w.ok aa hP b2;have ag:=fun (L':List Dm) (bj:∀ x∈L',Bw T x.1/\x.2.1<=7) (cw:L'.length<=5)=>Apu (P:=P) (L:=L) (L':=L') w.ok (fun x m=>(A1h.1 m).elim (hT x) (bj x)) (by rw[A1d];omega) Q;have ah:Ug P ((Cf F (l:Int) L).add ((cfT F (l:Int) y.1).scale ((3:Int):Rat))):=by
  have h:=ag [(y.1,3,y.2.2)] (fun x m=>by simp at m;subst m;exact⟨I,by show 3<=7;omega⟩) mV;rw[Eb]at h;exact h
 have N:((Cf F (l:Int) L).add ((cfT F (l:Int) y.1).scale ((3:Int):Rat))).add ((cfT F (l:Int) y.1).scale ((-3:Int):Rat))=Cf F (l:Int) L:=As3 _ _ _;have aw:=Sg (w:=3) (J.mono K) ⟨w.sch.mono K,w.ok.mono K,W.mono K,I⟩ U (kS.mono (l6.trans l7)) kN hp V hC ah oV oV oV oV;refine G.c call15 aw ?_;rintro v8 u8 l8 ⟨da,X8,b8,s8,c8,rfl,b4,bw⟩;have O:=K.trans l8;obtain⟨d0,d2,dp,dr,d4,d6,rfl,_⟩:=id b4;have a4:=Sg (w:=-3) (J.mono O) ⟨w.sch.mono O,w.ok.mono O,W.mono O,I⟩ U b4 bw hp V ah (by rw[N];exact hC) oV oV oV oV;rw[N]at a4;refine G.c call15 a4 ?_;rintro v9 u9 l9 ⟨db,X9,b9,s9,c9,rfl,b5,bx⟩;have c3:=O.trans l9;obtain⟨d1,d3,dq,ds,d5,d7,rfl,_⟩:=id b5;have b0:∀ x∈([(y.1,2,y.2.2),(z.1,1,z.2.2)]:List Dm),Bw T x.1/\x.2.1<=7:=fun x m=>by
  simp only[A1g,A11,or_false]at m;rcases m with rfl|rfl
  ·exact⟨I,by show 2<=7;omega⟩
  exact⟨Y,by show 1<=7;omega⟩
 have bu:∀ x∈([(z.1,1,z.2.2),(y.1,2,y.2.2)]:List Dm),Bw T x.1/\x.2.1<=7:=fun x m=>by
  simp only[A1g,A11,or_false]at m;rcases m with rfl|rfl
  ·exact⟨Y,by show 1<=7;omega⟩
  exact⟨I,by show 2<=7;omega⟩
 have a9:∀ L':List Dm,(∀ x∈L',Bw T x.1/\x.2.1<=7)->L'.length<=5->∀ n,n<=L'.length->Ug P (Oo F (l:Int) (Cf F (l:Int) L) (L'.take n)):=fun L' h1 h2 n hn=>by
  rw[Ano];exact ag _ (fun x m=>h1 x (A27 m)) (by rw[A1e];omega)
 refine G.B 53 2 32 (.agg #[.slice none 0 0,.int .i64 0]) [.agg #[.slice y.2.2.1 y.1.length y.2.2.2,.int .i64 2],.agg #[.slice z.2.2.1 z.1.length z.2.2.2,.int .i64 1]] (Asa [(y.1,2,y.2.2),(z.1,1,z.2.2)]) ?_;intro bg bb Z be;have E:=c3.trans Z;have ai:Ac bb (.slice (some ⟨bg,0,none⟩) 2 2) 2 (([(y.1,2,y.2.2),(z.1,1,z.2.2)]:List Dm).map F3):=be.listP;have am:WOK bb T [(y.1,2,y.2.2),(z.1,1,z.2.2)]:=fun x m=>by
  simp only[A1g,A11,or_false]at m;rcases m with rfl|rfl
  ·exact⟨W.mono E,I,by show 1<=2;omega,by show 2<=7;omega⟩
  exact⟨b1.mono E,Y,A08 1,by show 1<=7;omega⟩
 have ax:=Aal (J.mono E) (w.sch.mono E) (w.ok.mono E) ai am (fun x m=>by
  simp only[A1g,A11,or_false]at m;rcases m with rfl|rfl
  ·exact U
  exact ao) (kS.mono ((((l6.trans l7).trans l8).trans l9).trans Z)) kN hp V (a9 _ b0 mV) oV mV
 refine G.c call34 ax ?_;rintro di dc ad ⟨cg,cm,co,d8,cr,rfl,a6,b3⟩;have b6:=E.trans ad;obtain⟨c5,c7,ci,ck,cb,cd,rfl,_⟩:=id a6;refine G.B 53 2 32 (.agg #[.slice none 0 0,.int .i64 0]) [.agg #[.slice z.2.2.1 z.1.length z.2.2.2,.int .i64 1],.agg #[.slice y.2.2.1 y.1.length y.2.2.2,.int .i64 2]] (Asa [(z.1,1,z.2.2),(y.1,2,y.2.2)]) ?_;intro bh bd a0 bf;have H:=b6.trans a0;have aj:Ac bd (.slice (some ⟨bh,0,none⟩) 2 2) 2 (([(z.1,1,z.2.2),(y.1,2,y.2.2)]:List Dm).map F3):=bf.listP;have an:WOK bd T [(z.1,1,z.2.2),(y.1,2,y.2.2)]:=fun x m=>by
  simp only[A1g,A11,or_false]at m;rcases m with rfl|rfl
  ·exact⟨b1.mono H,Y,A08 1,by show 1<=7;omega⟩
  exact⟨W.mono H,I,by show 1<=2;omega,by show 2<=7;omega⟩
 have a8:=((((((l6.trans l7).trans l8).trans l9).trans Z).trans ad).trans a0);have ay:=Aal (J.mono H) (w.sch.mono H) (w.ok.mono H) aj an (fun x m=>by
  simp only[A1g,A11,or_false]at m;rcases m with rfl|rfl
  ·exact ao
  exact U) (kS.mono a8) kN hp V (a9 _ bu mV) oV mV
 refine G.c call34 ay ?_;rintro dj dd a3 ⟨ch,cn,cp,d9,cs,rfl,a7,a5⟩;have b7:=H.trans a3;obtain⟨c6,ca,cj,cl,cc,ce,rfl,_⟩:=id a7;have bt:Oo F (l:Int) (Cf F (l:Int) L) [(z.1,1,z.2.2),(y.1,2,y.2.2)]=Oo F (l:Int) (Cf F (l:Int) L) [(y.1,2,y.2.2),(z.1,1,z.2.2)]:=Awe _ _ _ _ _;rw[bt]at a5;have bi:=a9 _ b0 mV 2 mV;refine G.eT' 0 0 rfl<|G.eT' 0 0 rfl<|G.eT' 0 0 rfl<|G.eT' 0 0 rfl ?_;have ac:=((Z.trans ad).trans a0).trans a3;refine G.c call20 (T9 (b5.mono ac) (kS.mono (a8.trans a3)) bx kN hp hC) ?_;rintro dk df ae rfl;refine G.c call20 (T9 (a6.mono ((a0.trans a3).trans ae)) (a7.mono ae) b3 a5 hp bi) ?_;rintro dl dg bz rfl;refine G.c call8 (Ahv (J.mono ((b7.trans ae).trans bz))) ?_;rintro dm dh cy rfl;exact G.r (.bool true) ⟨rfl,rfl⟩
end Go.Proofs.YtemmheaocgmebaaGreatDoor
section
namespace Go.Proofs.YtemmheaocgmebaaGreatDoor.refreshback
open Go.ChangeShapes Go.WideShapes Go.ChangeAt Go.RowKit
theorem j0:(Rows.refreshBackRow.wf (OpenSpec.ofChange (OpenSpec.ofChange Rows.refreshBackSpec).bare)&&laidOutB Tryz.pinned.checked.prog&&mapsRowed Tryz.pinned.checked.prog&&Tryz.f5.params.all (Tryz.pinned.checked.prog.readableRec ·)&&namedTie Tryz.pinned.checked.prog Rows.refreshBackRow.named (OpenSpec.ofChange Rows.refreshBackSpec).bare.vars&&(Rows.refreshBackRow.stops == [])&&(Tryz.pinned.checked.prog.stops == [])&&(Rows.refreshBackRow.knobs == [])&&(Tryz.pinned.checked.prog.stopKnobs == []))=true:=by kernel_rfl
theorem j1:(Rows.refreshBackRow.inPlace==Tryz.pinned.checked.prog.inPlace 5)=true:=by kernel_rfl
theorem j2:(Rows.refreshBackRow.unfollowed==Tryz.pinned.checked.prog.unfollowed 5)=true:=by kernel_rfl
theorem j3:(Rows.refreshBackRow.recurses==Tryz.pinned.checked.prog.recurses 5)=true:=by kernel_rfl
theorem j4:(Rows.refreshBackRow.named==Tryz.pinned.checked.prog.varsNamed 5)=true:=by kernel_rfl
theorem j5:Tryz.pinned.checked.prog.mayEnter=true:=by kernel_rfl
theorem closed:joinedFacts Tryz.pinned.checked.prog 5 Tryz.f5 (OpenSpec.ofChange Rows.refreshBackSpec).bare Rows.refreshBackRow=true:=by
 unfold joinedFacts;rw[j0,j1,j2,j3,j4,j5]
 kernel_rfl
end Go.Proofs.YtemmheaocgmebaaGreatDoor.refreshback
end
namespace Go.Proofs.YtemmheaocgmebaaGreatDoor
open Go.Proofs.Tryz
open Go.RowKit Go.MapKept
end Go.Proofs.YtemmheaocgmebaaGreatDoor
