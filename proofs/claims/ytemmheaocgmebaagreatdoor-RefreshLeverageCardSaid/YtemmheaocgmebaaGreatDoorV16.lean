import Derived.Test.YtemmheaocgmebaaGreatDoorV15
import Derived.Test.YtemmheaocgmebaaGreatDoorCards
import Derived.ProofKit
import Derived.OpenShut
import Derived.Deep.DeepHandedRow
import Derived.Deep.DeepWitnessRowRef
import Derived.Lib.LaidTab
import Derived.Stop.LaidErr
set_option linter.defProp false
set_option linter.unusedVariables false
set_option linter.unusedSimpArgs false
set_option linter.unusedSectionVars false
set_option maxHeartbeats 16000000
namespace Go.Proofs.YtemmheaocgmebaaGreatDoor
open Go.Proofs.Tryz
open Go.RowKit Go.MapKept
section
section
variable {u:PH} {tv sv zv:Value} {T:zC} {R:List Br} {F:List Al} {l:Nat} {ss:zW} {P:List Par} {X:zM} {b:zR} {s c q:Rat}
def Bdr (h:Mv u zv tv T R F (l:Int) ss)(hc:Av5 F l P ss)(hS:Ma u sv P X b s c q)(hp:Td F P q)(hB:Ah3 P X b s c)(hL:∃ L,Y5 X L 86)(h5:P.length<=5) :
 zF 78 [zv,sv,tv] u fun r U=>∃ xv,r=.tuple #[xv,zO]/\Cj U xv ((Ko P (cfT F (l:Int) ss).s).map Ae):=by
 have I:=hB.n;have ab:=hB.bn;have a6:=hB.sq;have ax:=Avy (P:=P) h.ok.feat h.fit h.ok.l1 h.lt hc.cnt hp.par;have b7:=Abm (P:=P) h.ok.feat h.fit h.ok.l1 h.lt hc.cnt hp.par;obtain⟨pa,pc,xa,xc,ra,rc,rfl,au,aa,ak⟩:=id hS;have af:=Bds h au hp.srt hc.has oV;rw[ax]at af;rw[I]at aa;rw[ab]at ak;rw[I,ab];obtain⟨⟨a1,c1,a2,c2,a3,c3,rfl,_⟩,_,aq,_⟩:=h;obtain⟨ta,tc,rfl⟩:=aq.opn;rw[A03]at aq af⊢;obtain⟨L,hL⟩:=hL;have b3:∀ i (hi:i<X.length),X[i].length=P.length+1:=fun i hi=>by rw[a6.row _ (A09 hi),I]
 refine Fn0.o func78<|G.lF l 0<|G.c call153 af ?_;rintro v1 u1 l1 ⟨lv,rfl,hD⟩;have ae:Cj u1 lv ((Ko P (cfT F (l:Int) ss).s).map Ae):=hD;clear hD;obtain⟨da,dc,rfl⟩:=Ac.opn ae;have ay:=Ad6 P (cfT F (l:Int) ss).s;rw[show (Cc ((Ko P (cfT F (l:Int) ss).s).map Ae)).length=P.length+1 by rw[Cb,A03,ay]]at ae⊢;refine G.nF 0 0<|G.p P.length 1 (P.length+1:Nat)<|G.nF (P.length+1:Nat) (P.length+1:Nat)<|G.nF (P.length+1:Nat) (P.length+1:Nat)<|G.l (ι:=Nat) (fun i=>[(3,.p 0 0),(4,.p 1 0),(8,sV da (P.length+1) dc),(10,iV (P.length+1:Nat)),(47,sV xa (P.length+1) xc),(48,iV (P.length+1:Nat)),(49,iV i)])
  (fun i=>[(0,⟨30,[sV a1 T.length c1,sV a2 R.length c2,sV a3 F.length c3,iV l]⟩),(1,⟨48,[sV pa P.length pc,sV xa (P.length+1) xc,sV ra (P.length+1) rc,tV (Ae s),tV (Ae c),tV (Ae q)]⟩)])
  (fun i U m'=>i<=P.length+1/\m'=PH.mt) (fun i=>P.length+1-i) 0 ⟨oV,rfl⟩ ?_
 rintro J i hJ u2 m2 l2 ⟨hi,rfl⟩;by_cases ah:i<P.length+1
 ·refine G.lT i (P.length+1:Nat) ?_;have ao:i<X.length:=oV;obtain⟨b1,o1,a4,c4,rfl,ea,H⟩:=(aa.mono (l1.trans l2)).row (Dw (A01 ao));rw[A03,b3 i ao]at ea H;exact G.N (P.length+1) xc ah ea<|G.nF (P.length+1:Nat) (P.length+1:Nat)<|G.i i<|G.b (hJ (i+1) _ _ _ cV l2 ⟨oV,rfl⟩ oV)
 obtain rfl:i=P.length+1:=oV;refine G.lF (P.length+1:Nat) (P.length+1:Nat) ?_;clear hJ;have aj:=l1.trans l2;obtain⟨es,a8,a9⟩:=aa.mono aj;have an:es.length=P.length+1:=by rw[a9.1,A3,I]
 have ac:A9 1 es:=fun e t=>by
  obtain⟨j,hj,rfl⟩:=A3d.1 t;have az:j<X.length:=oV;obtain⟨a',c',e1,_⟩:=a9.2 j _ (Dw (A01 az));rw[A01 hj,A1f]at e1;rw[e1];exact B5 a' (X[j].map Ae).length c' _ (A12.2 rfl)
 have h6:∀ (U m':PH) (v:Value),PH.le u2 U->∀ g,Hc U g 0 1 (Cc [Ae s,Ae c,Ae q])->Af PH.mt m' v 46 1 (es++[.slice ra (P.length+1) rc,zG g 3 3]) ->
  ∃ a c',v=.slice a (P.length+3) c'/\∀ ad,PH.le U ad->PH.le m' ad->C7 ad (.slice a (P.length+3) c') (Cv (X++[b,[s,c,q]])):=fun U m' v l' g e' hA=>by
  obtain⟨a,c',rfl⟩:=hA.shape;have e0:(es++[Value.slice ra (P.length+1) rc,zG g 3 3]).length=P.length+3:=by simp[an]
  rw[e0]at hA;refine⟨a,c',by rw[e0],fun ad ai hm=>⟨_,hA.list hm,?_⟩⟩;have e1:Cv (X++[b,[s,c,q]])=Cv X++[b.map Ae]++[[Ae s,Ae c,Ae q]]:=by simp[Cv]
  rw[e1,show es++[Value.slice ra (P.length+1) rc,zG g 3 3]=es++[Value.slice ra (b.map Ae).length rc]++[.slice (zA g) [Ae s,Ae c,Ae q].length 3] by simp[ab]];refine ((a9.mono (l'.trans ai)).snoc1 ?_).snoc1 ?_
  ·rw[A03,ab];exact Ac.mono ak ((aj.trans l').trans ai)
  exact Ac.mono (show Cj U (zG g 3 3) [Ae s,Ae c,Ae q] from⟨_,3,rfl,A08 _,fun j e hj=>⟨g,0,rfl,e' j e hj⟩⟩) ai
 refine G.joinF (ι:=zP×Nat) (fun st=>Ajn prog (Akz prog [0,1,3,4,5,6,7,8,9,10,15] [2,11,12,13,14] (adv prog st)) [undef,undef,undef,zN])
  (fun i=>[(3,.p 0 0),(4,.p 1 0),(8,sV da (P.length+1) dc),(10,iV (P.length+1:Nat)),(71,sV i.1 (P.length+3) i.2),(72,iV (P.length+3:Nat)),(73,iV 0)])
  (fun i=>[(0,⟨30,[sV a1 T.length c1,sV a2 R.length c2,sV a3 F.length c3,iV l]⟩),(1,⟨48,[sV pa P.length pc,sV xa (P.length+1) xc,sV ra (P.length+1) rc,tV (Ae s),tV (Ae c),tV (Ae q)]⟩)])
  (fun i U m'=>C7 U (.slice i.1 (P.length+3) i.2) (Cv (X++[b,[s,c,q]]))/\m'=PH.mt) (fun _=>kV) kV ?tail ?way
 case way =>
  intro C;refine G.three [0,1,3,4,5,6,7,8,9,10,15] 2 11 12 [13,14] 34 1 16 zE (Cc [Ae s,Ae c,Ae q]) kV kV (Gc _) rfl oV (by simp[Cc]) (by simp[Cc]) ?_ ?_
  ·refine G.appendL 46 1 24 zN PH.mt [] es zN xa (P.length+1) xc kV rfl rfl oV (Af.nil _ _ _) a8 ac gV gV ?_;intro v3 m3 m;rw[A3q]at m;obtain⟨V,W,rfl⟩:=m.shape;refine G.buildU 34 1 16 zE (Cc [Ae s,Ae c,Ae q]) kV (Gc _) rfl oV (by simp[Cc]) (by simp[Cc]) ?_;intro g4 u4 l4 e4;refine G.B 46 1 24 zN [.slice ra (P.length+1) rc,zG g4 3 3] (As5 (by intro e t;simp at t;rcases t with rfl|rfl<;>exact⟨_,_,_,rfl⟩)) ?_
   intro g5 u5 Q e5;refine G.append 46 1 24 zN PH.mt es [.slice ra (P.length+1) rc,zG g4 3 3] (.slice V es.length W) g5 0 2 2 kV rfl rfl oV m e5 (As5 (by intro e t;simp at t;rcases t with rfl|rfl<;>exact⟨_,_,_,rfl⟩)) rfl oV oV oV ?_
   intro v6 m6 Y;obtain⟨a7,c7,rfl,a0⟩:=h6 u5 m6 v6 (l4.trans Q) g4 (e4.mono Q) Y;refine G.giveP (ma:=m6) (sm:=PH.mt) kV (Ari m6).symm (fun g=>.inr rfl) (fun g=>.inl rfl) ?_;intro u7 l7 a5;exact C (a7,c7) _ _ _ kV cV ((l4.trans Q).trans l7) ⟨a0 u7 l7 a5,rfl⟩
  intro g4 u4 l4 e4;refine⟨?_,?_⟩
  ·refine G.appendL 46 1 24 zN PH.mt [] es zN xa (P.length+1) xc kV rfl rfl oV (Af.nil _ _ _) (a8.mono l4) ac gV gV ?_;intro v3 m3 m;rw[A3q]at m;obtain⟨V,W,rfl⟩:=m.shape;refine G.B 46 1 24 zN [.slice ra (P.length+1) rc,zG g4 3 3] (As5 (by intro e t;simp at t;rcases t with rfl|rfl<;>exact⟨_,_,_,rfl⟩)) ?_
   intro g5 u5 Q e5;refine G.append 46 1 24 zN PH.mt es [.slice ra (P.length+1) rc,zG g4 3 3] (.slice V es.length W) g5 0 2 2 kV rfl rfl oV m e5 (As5 (by intro e t;simp at t;rcases t with rfl|rfl<;>exact⟨_,_,_,rfl⟩)) rfl oV oV oV ?_
   intro v6 m6 Y;obtain⟨a7,c7,rfl,a0⟩:=h6 u5 m6 v6 (l4.trans Q) g4 (e4.mono Q) Y;refine G.giveP (ma:=m6) (sm:=PH.mt) kV (Ari m6).symm (fun g=>.inr rfl) (fun g=>.inl rfl) ?_;intro u7 l7 a5;exact C (a7,c7) _ _ _ kV cV ((l4.trans Q).trans l7) ⟨a0 u7 l7 a5,rfl⟩
  refine G.B 46 1 24 zN [.slice ra (P.length+1) rc,zG g4 3 3] (As5 (by intro e t;simp at t;rcases t with rfl|rfl<;>exact⟨_,_,_,rfl⟩)) ?_
  intro g5 u5 Q e5;refine G.appendL 46 1 24 zN PH.mt [] es zN xa (P.length+1) xc kV rfl rfl oV (Af.nil _ _ _) (a8.mono (l4.trans Q)) ac gV gV ?_;intro v3 m3 m;rw[A3q]at m;obtain⟨V,W,rfl⟩:=m.shape;refine G.append 46 1 24 zN PH.mt es [.slice ra (P.length+1) rc,zG g4 3 3] (.slice V es.length W) g5 0 2 2 kV rfl rfl oV m e5 (As5 (by intro e t;simp at t;rcases t with rfl|rfl<;>exact⟨_,_,_,rfl⟩)) rfl oV oV oV ?_
  intro v6 m6 Y;obtain⟨a7,c7,rfl,a0⟩:=h6 u5 m6 v6 (l4.trans Q) g4 (e4.mono Q) Y;refine G.giveP (ma:=m6) (sm:=PH.mt) kV (Ari m6).symm (fun g=>.inr rfl) (fun g=>.inl rfl) ?_;intro u7 l7 a5;exact C (a7,c7) _ _ _ kV cV ((l4.trans Q).trans l7) ⟨a0 u7 l7 a5,rfl⟩
 rintro⟨a7,c7⟩ u7 m7 l27 ⟨hZ,rfl⟩;simp only at hZ;clear h6 a8 a9 ac an es;have b6:(X++[b,[s,c,q]]).length=P.length+3:=by simp[I]
 have aw:∀ r∈X++[b,[s,c,q]],∀ x∈r,Tx x:=fun r E x hx=>by
  rcases A1h.1 E with E|E
  ·exact a6.tx r E x hx
  simp only[A1g,A11,or_false]at E;rcases E with rfl|rfl
  ·exact hB.bt x hx
  simp only[A1g,A11,or_false]at hx;rcases hx with rfl|rfl|rfl
  ·exact hB.st
  ·exact hB.ct
  exact hp.pen.tx
 have av:∀ r∈X++[b,[s,c,q]],r.length<=100:=fun r E=>by
  rcases A1h.1 E with E|E
  ·rw[a6.row r E];omega
  simp only[A1g,A11,or_false]at E;rcases E with rfl|rfl
  ·omega
  simp
 generalize X++[b,[s,c,q]]=Z at *
 refine G.l (ι:=Nat) (fun i=>[(3,.p 0 0),(4,.p 1 0),(8,sV da (P.length+1) dc),(10,iV (P.length+1:Nat)),(71,sV a7 (P.length+3) c7),(72,iV (P.length+3:Nat)),(73,iV i)])
  (fun i=>[(0,⟨30,[sV a1 T.length c1,sV a2 R.length c2,sV a3 F.length c3,iV l]⟩),(1,⟨48,[sV pa P.length pc,sV xa (P.length+1) xc,sV ra (P.length+1) rc,tV (Ae s),tV (Ae c),tV (Ae q)]⟩)])
  (fun i U m'=>i<=P.length+3/\m'=PH.mt) (fun i=>P.length+3-i) 0 ⟨oV,rfl⟩ ?_
 rintro J i hJ u8 m8 l8 ⟨hi,rfl⟩;by_cases ah:i<P.length+3
 ·refine G.lT i (P.length+3:Nat) ?_;have ap:i<Z.length:=oV;have am:=A09 ap;obtain⟨b1,o1,a4,c4,rfl,ea,H⟩:=(hZ.mono l8).row (Dw (A01 ap));rw[A03]at ea H;have b0:=av _ am;refine G.N (P.length+3) c7 ah ea<|G.l (ι:=Nat) (fun k=>[(3,.p 0 0),(4,.p 1 0),(8,sV da (P.length+1) dc),(10,iV (P.length+1:Nat)),(71,sV (some ⟨b1,o1,none⟩) (P.length+3) c7),(72,iV (P.length+3:Nat)),(73,iV i),(77,sV a4 Z[i].length c4),(78,iV (Z[i].length)),(79,iV k)])
   (fun i=>[(0,⟨30,[sV a1 T.length c1,sV a2 R.length c2,sV a3 F.length c3,iV l]⟩),(1,⟨48,[sV pa P.length pc,sV xa (P.length+1) xc,sV ra (P.length+1) rc,tV (Ae s),tV (Ae c),tV (Ae q)]⟩)])
   (fun k U m'=>k<=Z[i].length/\m'=PH.mt) (fun k=>Z[i].length-k) 0 ⟨oV,rfl⟩ ?_
  rintro J2 k ar u9 m9 l9 ⟨hk,rfl⟩;by_cases ag:k<Z[i].length
  ·refine G.lT k (Z[i].length:Int) ?_;have b4:(Cc (Z[i].map Ae))[k]?=some (zS (Ae Z[i][k])):=by simp[Cc,ag]
   obtain⟨b2,o2,rfl,e2⟩:=Ac.at' (Ac.mono H l9) b4;refine G.N Z[i].length c4 ag e2<|G.c call24 (Ee (aw _ am _ (A09 ag))) ?_;rintro b9 b8 b5 rfl;exact G.i k<|G.b (ar (k+1) _ _ _ cV (l9.trans b5) ⟨oV,rfl⟩ oV)
  obtain rfl:k=Z[i].length:=oV;exact G.lF (Z[i].length:Int) (Z[i].length:Int)<|G.i i<|G.b (hJ (i+1) _ _ _ cV (l8.trans l9) ⟨oV,rfl⟩ oV)
 obtain rfl:i=P.length+3:=oV;refine G.lF (P.length+3:Nat) (P.length+3:Nat)<|G.gF (P.length+1:Nat) 12 ?_;have al:C7 u8 (.slice xa (P.length+1) xc) (Cv X):=aa.mono ((aj.trans l27).trans l8);refine G.c call138 (Bd0 (n:=P.length+1) (w:=P.length+1) (K:=86) al oV (fun r E=>by rw[a6.row r E,I]) oV a6.tx hL oV oV oV oV) ?_;rintro v9 u9 l9 rfl;exact G.r (.tuple #[.slice da (P.length+1) dc,zO]) ⟨rfl,_,rfl,Ac.mono ae (((l2.trans l27).trans l8).trans l9)⟩
end
end
section
variable {a:zP}{j:Nat}{qs:zR}
def Beq {q:Rat}(h:q≠0):decide (q.num=0)=false:=decide_eq_false fun e=>h (A4r.1 e)
def QsP.cellG {u:PH}{n c:Nat}(h:QsP u (.slice a n c) qs)(t:j<qs.length):∃ b off f,a=some ⟨b,off,none⟩/\ElP u b (off+j*4) (qv f)/\QP u (qv f) (gR qs j):=by
 obtain⟨b,off,e,rfl,E,m⟩:=LP.at h (A01 t);rw[<-Cu t]at m;obtain⟨f,rfl⟩:=QP.opQ m;exact⟨b,off,f,rfl,E,m⟩
def Bd6 {u:PH}{n c:Nat}(h:Cj u (.slice a n c) (qs.map Ae))(t:j<qs.length):∃ b off,a=some ⟨b,off,none⟩/\ElP u b (off+j*1) (zS (Ae (gR qs j))):=by
 have m:qs[j]?=some qs[j]:=A01 t;obtain⟨b,off,rfl,e⟩:=Ac.at' h (j:=j) (e:=zS (Ae qs[j])) (by simp[Cc,m]);exact⟨b,off,rfl,by rw[Cu t];exact e⟩
section
variable {u:PH} {tv sv zv:Value} {T:zC} {R:List Br} {F:List Al} {l:Nat} {ss:zW} {P:List Par} {X:zM} {b:zR} {s c q:Rat} {w:Int} {C:CF}
def Bdx (h:Mv u zv tv T R F (l:Int) ss)(hc:Av5 F l P ss)(hS:Ma u sv P X b s c q)(hp:Td F P q)(hB:Ah3 P X b s c)(hL:∃ L,Y5 X L 86)(h5:P.length<=5)(fj:w≠0)(gu:-1000000000000<=w)(gw:w<=1000000000000)
 (b5:byN (P.length+1) (en X) (Fg P (cfT F (l:Int) ss).s) (w:Rat)≠0) (am:Ah3 P (Nj (P.length+1) X (Fg P (cfT F (l:Int) ss).s) (w:Rat)) (Pq P b (cfT F (l:Int) ss).s (w:Rat) ((cfT F (l:Int) ss).s B7)) (s+(w:Rat)*(cfT F (l:Int) ss).s B7*(cfT F (l:Int) ss).s B7) (c+(w:Rat))) :
 zF 30 [zv,sv,tv,zI w] u fun r u'=>∃ ea,r=.tuple #[ea,zO] /\
  Ma u' ea P (Nj (P.length+1) X (Fg P (cfT F (l:Int) ss).s) (w:Rat)) (Pq P b (cfT F (l:Int) ss).s (w:Rat) ((cfT F (l:Int) ss).s B7)) (s+(w:Rat)*(cfT F (l:Int) ss).s B7*(cfT F (l:Int) ss).s B7) (c+(w:Rat)) q:=by
 have c5:=Anz h;have bs:=fun (u':PH) (l1:PH.le u u')=>Bdd (h.mono l1);have b8:=fun (u':PH) (l1:PH.le u u')=>Bdr (h.mono l1) hc (hS.mono l1) hp hB hL h5;obtain⟨gt,d2,d0⟩:=Azi h.ok h.fit hc.cnt;have fg:=Abm (P:=P) h.ok.feat h.fit h.ok.l1 h.lt hc.cnt hp.par;have aq:=h.lt l rfl;obtain⟨⟨a1,c1,a2,c2,a3,c3,rfl,_⟩,_,c0,_⟩:=h;obtain⟨ta,tc,rfl⟩:=c0.opn;rw[A03]at c0 c5 bs b8⊢;generalize (cfT F (l:Int) ss).s=x at *
 have ao:=hB.n;have cu:=hB.bn;have bw:=hB.sq;have ap:Rec (P.length+1) (P.length+1) X:=⟨hB.n,fun i hi=>by have:=hB.n;rw[Ch oV];rw[bw.row _ (A09 oV),hB.n]⟩;have cs:Rec (P.length+1) (P.length+1) (Nj (P.length+1) X (Fg P x) (w:Rat)):=Rh _ _;have cr:∀ i k,i<P.length+1->k<P.length+1->Tx (en X i k):=fun i k hi hk=>by
  have h1:i<X.length:=by rw[ap.1];exact hi
  have h2:=ap.2 i hi;rw[Ch h1]at h2;have h3:k<X[i].length:=oV;unfold en;rw[Ch h1,Cu h3];exact bw.tx _ (A09 h1) _ (A09 h3)
 have H:Sz (w:Rat) 2:=⟨A4 gV,A4 mV⟩;obtain⟨pa,pc,xa,xc,ra,rc,rfl,f3,cq,cp⟩:=id hS;rw[ao]at cq;rw[cu]at cp;rw[ao,cu]at b8⊢;refine Fn0.o func30<|G.c call47 c5 ?_;rintro v1 u1 l1 rfl;refine G.nF 0 0<|G.eF' w 0 fj<|G.lF w (-1000000000000)<|G.gF w 1000000000000<|G.c call29 (bs _ l1) ?_;rintro v2 u2 l2 rfl;rw[hc.cnt];refine G.c call78 (b8 _ (l1.trans l2)) ?_;rintro v3 u3 l3 ⟨xv,rfl,kx⟩;have dz:=(l1.trans l2).trans l3;obtain⟨ax,cx,rfl⟩:=Ac.opn kx;have c6:=Ad6 P x;have ba:∀ t∈Ko P x,Tx t:=fun t ht=>(fg t ht).tx;rw[show (Cc ((Ko P x).map Ae)).length=P.length+1 by rw[Cb,A03,c6]]at kx⊢;refine G.nF 0 0<|G.callO _ _ kV call62 (Ane (A:=X) (cq.mono dz) bw) ?_;rintro v4 u4 m4 l4 ⟨a4,co,b3,rfl,an,I⟩ _;rw[By];rw[ao];have b7:b3.length=P.length+1:=by rw[an.1,ao]
 obtain⟨go,gd,eo⟩:=I.ptr 0 rfl (by intro e;simp only[oQ,A6c]at e;rw[e]at b7;simp at b7);rw[ao]at I eo;simp only[oQ,A03,b7,Value.slice.injEq,true_and]at eo;obtain⟨rfl,rfl⟩:=eo;refine G.c call22 (P6 (z:=w) oV oV) ?_;intro v5 u5 l5 kw;obtain⟨fw,rfl⟩:=kw.opQ;have bd:=l4.trans l5;have bm:∀ i k,i<P.length+1->k<P.length+1->Sz (en X i k) 400:=fun i k hi hk=>(cr i k hi hk).sz;refine G.A call79 (Bdy I (an.mono l5) ap (Ac.mono kx bd) c6 ba oV bm oV) ?_;rintro v6 u6 m6 l6 ⟨rfl,kz,bg⟩ _;rw[By];obtain⟨az,cz,rfl⟩:=LP.opn kz;rw[F1]at kz⊢;refine G.A call80 (Bdt I (an.mono (l5.trans l6)) ap (Ac.mono kx (bd.trans l6)) c6 ba oV bm oV) ?_;rintro v7 u7 m7 l7 ⟨rfl,kf,cj⟩ _;rw[By];obtain⟨af,cf,rfl⟩:=LP.opn kf;rw[F1]at kf⊢;have h6:(P.length+1)*(400+400+1)<=6*(400+400+1):=A13 _ oV;replace bg:SzL _ 4807:=bg.mono oV;replace cj:SzL _ 4807:=cj.mono oV;refine G.c call22 (P6 (z:=1) oV oV) ?_;intro v8 u8 l8 k8;rw[show ((1:Int):Rat)=1 from by decide]at k8;obtain⟨f8,rfl⟩:=k8.opQ;have be:=(l6.trans l7).trans l8;have ca:=Ac.mono kx (bd.trans be);have c8:=kw.mono be;have cb:=kz.mono (l7.trans l8);have dq:=kf.mono l8;have cm:=an.mono (l5.trans be);have fq:=(dz.trans bd).trans be;clear kx kw kz kf b8 bs c5 hS;have d9:∀ i,i<P.length+1->gR (Io (P.length+1) X (Ko P x) false) i=Fy (P.length+1) (en X) (Fg P x) i:=fun i hi=>Ae6 hi;have fb:∀ i,i<P.length+1->gR (Io (P.length+1) X (Ko P x) true) i=Fy (P.length+1) (fun i k=>en X k i) (Fg P x) i:=fun i hi=>Apg hi;have gx:=F1 (P.length+1) X (Ko P x) false;have gs:=F1 (P.length+1) X (Ko P x) true;generalize Io (P.length+1) X (Ko P x) false=zs at *
 generalize Io (P.length+1) X (Ko P x) true=ls at *
 refine G.l (ι:=Nat×Q4) (fun i=>[(2,sV ta ss.length tc),(4,.p 0 0),(5,.p 1 0),(8,.p 2 0),(11,sV ax (P.length+1) cx),(13,sV (zA go) (P.length+1) co),(14,.p 11005 0),(15,sV az (P.length+1) cz),(16,sV af (P.length+1) cf),(17,.p 13001 0),(72,iV (P.length+1:Nat)),(73,iV i.1)])
  (fun i=>[(0,⟨30,[sV a1 T.length c1,sV a2 R.length c2,sV a3 F.length c3,iV l]⟩),(1,⟨48,[sV pa P.length pc,sV xa (P.length+1) xc,sV ra (P.length+1) rc,tV (Ae s),tV (Ae c),tV (Ae q)]⟩),(2,⟨48,[sN,sN,sN,tV [],tV [],tV []]⟩),(11005,⟨69,qc fw⟩),(13001,⟨69,qc i.2⟩)])
  (fun i u' m'=>i.1<=P.length+1/\QP u' (qv i.2) (1+Bb i.1 fun t=>(w:Rat)*gR (Ko P x) t*gR zs t)/\Sz (1+Bb i.1 fun t=>(w:Rat)*gR (Ko P x) t*gR zs t) (3+i.1*5300)/\m'=m7) (fun i=>P.length+1-i.1) (0,f8)
  ⟨A1t _,by dsimp only;rw[show (Bb 0 fun t=>(w:Rat)*gR (Ko P x) t*gR zs t)=0 from rfl,Beu];exact k8,by dsimp only;rw[show (Bb 0 fun t=>(w:Rat)*gR (Ko P x) t*gR zs t)=0 from rfl,Beu];exact (Adt (z:=1) fV).mono oV,rfl⟩ ?_
 rintro J ⟨i,fd⟩ hJ u9 m9 l9 ⟨hi,kd,sd,rfl⟩;simp only at hi kd sd hJ;by_cases m:i<P.length+1
 ·refine G.lT i (P.length+1:Nat) ?_;have aa:i<(Ko P x).length:=oV;obtain⟨bx,ox,rfl,ex⟩:=Bd6 (Ac.mono ca l9) aa;obtain⟨bz,oz,fz,rfl,ez,cc⟩:=(cb.mono l9).cellG (j:=i) oV;have a7:=ba _ (A09 aa);rw[<-Cu aa]at a7;refine G.N (P.length+1) cx m ex<|G.N (P.length+1) cz m ez<|G.c call27 (G8 a7) ?_;intro ho h8 bb da;obtain⟨ge,rfl⟩:=da.opQ;have e1:=a7.sz;refine G.c call28 (Gh (c8.mono (l9.trans bb)) da (H.mono oV) (e1.mono oV)) ?_;intro hq h9 cd db;obtain⟨gf,rfl⟩:=db.opQ;have e2:=Fx H e1;have b4:=bg.at (i:=i) oV;refine G.c call28 (Gh db (cc.mono (bb.trans cd)) (e2.mono oV) (b4.mono oV)) ?_;intro hs hb dv dc;obtain⟨gg,rfl⟩:=dc.opQ;have e3:=Fx e2 b4;refine G.c call26 (Pd (kd.mono ((bb.trans cd).trans dv)) dc (sd.mono oV) (e3.mono oV)) ?_;intro hu hd fl c7;obtain⟨eu,rfl⟩:=c7.opQ;have e4:=R5 sd e3;have eh:(1+Bb i fun t=>(w:Rat)*gR (Ko P x) t*gR zs t)+(w:Rat)*gR (Ko P x) i*gR zs i=1+Bb (i+1) fun t=>(w:Rat)*gR (Ko P x) t*gR zs t:=by rw[Ds,Rat.add_assoc]
  rw[eh]at c7 e4;exact G.i i<|G.b (hJ (i+1,eu) _ _ _ cV ((((l9.trans bb).trans cd).trans dv).trans fl) ⟨dV,c7,e4.mono dV,rfl⟩ dV)
 obtain rfl:i=P.length+1:=oV;refine G.lF (P.length+1:Nat) (P.length+1:Nat) ?_;clear hJ;have f9:(1+Bb (P.length+1) fun t=>(w:Rat)*gR (Ko P x) t*gR zs t)=byN (P.length+1) (en X) (Fg P x) (w:Rat):=by
  rw[<-Bek]
  congr 1
  exact Ah fun t ht=>by rw[V1 ht,d9 t ht]
 rw[f9]at kd sd;refine G.c call81 (Nt kd (A04 sd.1 oV)) ?_;rintro hv hf dw rfl;rw[Beq b5];have a0:=l9.trans dw;have dm:=kd.mono dw;have bo:=c8.mono a0;have du:=cb.mono a0;have dp:=dq.mono a0;have dr:=Ac.mono ca a0;have bi:=cm.mono a0;have dy:=fq.trans a0;clear kd c8 cb dq ca cm an;generalize cv:byN (P.length+1) (en X) (Fg P x) (w:Rat)=dd at *
 refine G.l (ι:=Nat×zM×List (Value×zV)) (fun i=>[(2,sV ta ss.length tc),(4,.p 0 0),(5,.p 1 0),(8,.p 2 0),(11,sV ax (P.length+1) cx),(13,sV (zA go) (P.length+1) co),(14,.p 11005 0),(15,sV az (P.length+1) cz),(16,sV af (P.length+1) cf),(17,.p 13001 0),(95,iV (P.length+1:Nat)),(96,iV i.1)])
  (fun _=>[(0,⟨30,[sV a1 T.length c1,sV a2 R.length c2,sV a3 F.length c3,iV l]⟩),(1,⟨48,[sV pa P.length pc,sV xa (P.length+1) xc,sV ra (P.length+1) rc,tV (Ae s),tV (Ae c),tV (Ae q)]⟩),(2,⟨48,[sN,sN,sN,tV [],tV [],tV []]⟩),(11005,⟨69,qc fw⟩),(13001,⟨69,qc fd⟩)])
  (fun i u' m'=>i.1<=P.length+1/\Rec (P.length+1) (P.length+1) i.2.1/\(∀ a e,a<P.length+1->e<P.length+1->en i.2.1 a e=if a<i.1 then Vd (P.length+1) (en X) (Fg P x) (w:Rat) a e else en X a e)/\QAt u' i.2.2 i.2.1/\Bag m' (oQ (zG go (P.length+1) co) i.2.2::i.2.2.map Ej)) (fun i=>P.length+1-i.1)
  (0,X,b3) ⟨A1t _,ap,fun a e _ _=>by rw[if_neg (Nat.not_lt_zero _)],bi,I⟩ ?_
 clear I b7 bi;rintro J ⟨i,Z,Y⟩ hJ hg e0 cg ⟨hi,U,hZ,hQ,E⟩;simp only at hi U hZ hQ E hJ;by_cases m:i<P.length+1
 ·refine G.lT i (P.length+1:Nat)<|G.l (ι:=Nat×zM×List (Value×zV)) (fun k=>[(2,sV ta ss.length tc),(4,.p 0 0),(5,.p 1 0),(8,.p 2 0),(11,sV ax (P.length+1) cx),(13,sV (zA go) (P.length+1) co),(14,.p 11005 0),(15,sV az (P.length+1) cz),(16,sV af (P.length+1) cf),(17,.p 13001 0),(19,iV i),(95,iV (P.length+1:Nat)),(96,iV i),(100,iV (P.length+1:Nat)),(101,iV k.1)])
   (fun _=>[(0,⟨30,[sV a1 T.length c1,sV a2 R.length c2,sV a3 F.length c3,iV l]⟩),(1,⟨48,[sV pa P.length pc,sV xa (P.length+1) xc,sV ra (P.length+1) rc,tV (Ae s),tV (Ae c),tV (Ae q)]⟩),(2,⟨48,[sN,sN,sN,tV [],tV [],tV []]⟩),(11005,⟨69,qc fw⟩),(13001,⟨69,qc fd⟩)])
   (fun k u' m'=>k.1<=P.length+1/\Rec (P.length+1) (P.length+1) k.2.1/\(∀ a e,a<P.length+1->e<P.length+1->en k.2.1 a e=if a<i\/a=i/\e<k.1 then Vd (P.length+1) (en X) (Fg P x) (w:Rat) a e else en X a e)/\QAt u' k.2.2 k.2.1/\Bag m' (oQ (zG go (P.length+1) co) k.2.2::k.2.2.map Ej)) (fun k=>P.length+1-k.1)
   (0,Z,Y) ⟨A1t _,U,fun a e ha he=>by
    dsimp only;rw[hZ a e ha he];by_cases h1:a<i
    ·rw[if_pos h1,if_pos oV]
    rw[if_neg h1,if_neg oV],hQ,E⟩ ?_
  clear U hZ hQ E;rintro J2 ⟨k,Z,Y⟩ cl fx gy aj ⟨hk,U,hZ,hQ,E⟩;simp only at hk U hZ hQ E cl;have K:=cg.trans aj;by_cases a6:k<P.length+1
  ·refine G.lT k (P.length+1:Nat) ?_;obtain⟨gi,ci,fa,ei,b9,gr,gc,ck,ka,ep⟩:=Bel E hQ U m a6;have d5:en Z i k=en X i k:=by rw[hZ i k m a6,if_neg oV]
   rw[d5]at ka;obtain⟨bz,oz,fz,rfl,ez,cc⟩:=(du.mono K).cellG (j:=i) oV;obtain⟨bf,off,ff,rfl,ef,fk⟩:=(dp.mono K).cellG (j:=k) oV;have b4:=bg.at (i:=i) oV;have e9:=cj.at (i:=k) oV;refine G.O (P.length+1) co m ck<|G.O (P.length+1) co m ck<|G.O (P.length+1) ci a6 ep<|G.N (P.length+1) cz m ez<|G.N (P.length+1) cf a6 ef<|G.c call28 (Gh (bo.mono K) cc (H.mono oV) (b4.mono oV)) ?_;intro g6 g0 a8 df;obtain⟨gh,rfl⟩:=df.opQ;have e5:=Fx H b4;refine G.c call28 (Gh df (fk.mono a8) (e5.mono oV) (e9.mono oV)) ?_;intro hw g1 Q dg;obtain⟨gj,rfl⟩:=dg.opQ;have e6:=Fx e5 e9;refine G.c call82 (At6 dg (dm.mono ((K.trans a8).trans Q)) (e6.mono oV) (sd.mono oV) b5) ?_;intro g7 eb V ar;obtain⟨ew,rfl⟩:=ar.opQ;have fs:=Arz e6 sd b5;refine G.c call32 (Adl (ka.mono ((a8.trans Q).trans V)) ar ((cr i k m a6).sz.mono oV) (fs.mono oV)) ?_;intro ed ec W ah;have ej:en X i k-(w:Rat)*gR zs i*gR ls k/dd=Vd (P.length+1) (en X) (Fg P x) (w:Rat) i k:=by
    rw[d9 i m,fb k a6,<-cv];exact Bea i k (by rw[cv];exact b5)
   rw[ej]at ah;obtain⟨ag,rfl⟩:=ah.opQ;have fe:(oQ (zG go (P.length+1) co) Y::Y.map Ej)[i+1]?=some (Ej (zG gi (P.length+1) ci,ei)):=by simp[b9]
   obtain⟨m0,d7,d6⟩:=E.focus (i+1) fe;rw[Rg]at d7;refine G.a gi 0 (P.length+1) ci k 4 a6<|G.storeA 4 m0 ei gi (P.length+1) ci k (qv ag) kV d7 oV rfl rfl ?_;intro fr d8;have bl:=d6 (Ej (zG gi (P.length+1) ci,ei.set k (qv ag))) fr d8;rw[A2j,<-A2g,<-Apm (es':=ei.set k (qv ag)) b9]at bl;have ab:=((a8.trans Q).trans V).trans W;have b6:i<Y.length:=(A05.1 b9).1;have f6:=I8 U m (r:=(gM Z i).set k (Vd (P.length+1) (en X) (Fg P x) (w:Rat) i k)) (by rw[A21];exact U.2 i m);have f4:=(hQ.mono ab).set (r:=(zG gi (P.length+1) ci,ei.set k (qv ag))) b6 (((hQ.mono ab).2 i _ b9).set k ah);refine G.i k<|G.b (cl (k+1,Z.set i ((gM Z i).set k (Vd (P.length+1) (en X) (Fg P x) (w:Rat) i k)),Y.set i (zG gi (P.length+1) ci,ei.set k (qv ag))) _ _ _ cV (aj.trans ab) ⟨dV,f6,fun a e ha he=>?_,f4,bl⟩ dV);dsimp only;rw[Ayd U m a6];by_cases h1:i=a
   ·subst h1;rw[if_pos rfl];by_cases h2:k=e
    ·subst h2;rw[if_pos rfl,if_pos oV]
    rw[if_neg h2,hZ i e m he];by_cases h3:e<k
    ·rw[if_pos oV,if_pos oV]
    rw[if_neg oV,if_neg oV]
   rw[if_neg h1,hZ a e ha he];by_cases h3:a<i
   ·rw[if_pos oV,if_pos oV]
   rw[if_neg oV,if_neg oV]
  obtain rfl:k=P.length+1:=oV;refine G.lF (P.length+1:Nat) (P.length+1:Nat)<|G.i i<|G.b (hJ (i+1,Z,Y) _ _ _ cV K ⟨dV,U,fun a e ha he=>?_,hQ,E⟩ dV);dsimp only;rw[hZ a e ha he];by_cases h1:a<i+1
  ·rw[if_pos h1,if_pos oV]
  rw[if_neg h1,if_neg oV]
 obtain rfl:i=P.length+1:=oV;refine G.lF (P.length+1:Nat) (P.length+1:Nat) ?_;clear hJ;have f7:Z=Nj (P.length+1) X (Fg P x) (w:Rat):=Aks U cs fun a e ha he=>by
  rw[hZ a e ha he,if_pos ha];exact (N6 ha he).symm
 subst f7;refine G.giveP (ma:=e0) (sm:=PH.mt) kV (Ari e0).symm (fun g=>.inr rfl) (fun g=>.inl rfl) ?_;intro fx aj d4;have f5:=X8 E (hQ.mono aj) d4;clear E hQ hZ;have K:=dy.trans (cg.trans aj);have ce:=cg.trans aj;have fi:(ss.map nmV)[l]?=some (nmV ss[l]):=by rw[A1a,A01 aq];rfl
 have d1:ss[l]=Ae (x B7):=by
  rw[<-d2,A02,A01 aq];rfl
 obtain⟨bt,ot,rfl,et⟩:=Ac.at' (c0.mono K) fi;refine G.a bt ot ss.length tc l 1 aq<|G.lU none bt (ot+l*1) (zS (Ae (x B7))) (by rw[<-d1];exact et)<|G.c call27 (G8 d0.tx) ?_;intro g6 g0 a8 ky;obtain⟨fy,rfl⟩:=ky.opQ;have sy:=d0.tx.sz;have aw:=ce.trans a8;have bp:=K.trans a8;have bq:=Ac.mono cp bp;have ds:=Ac.mono dr aw;have av:=bo.mono aw;generalize x B7=y at *
 have f2:(Pq P b x (w:Rat) y).length=P.length+1:=am.bn;have f1:∀ i,i<P.length+1->gR (Pq P b x (w:Rat) y) i=gR b i+(w:Rat)*gR (Ko P x) i*y:=fun i hi=>by
  rw[V1 hi];unfold Pq gR;rw[A02,A1a,A31 hi];rfl
 refine G.l (ι:=Nat×zV×(zP×Nat)) (fun i=>[(2,sV (some ⟨bt,ot,none⟩) ss.length tc),(4,.p 0 0),(5,.p 1 0),(8,.p 2 0),(11,sV ax (P.length+1) cx),(13,sV (zA go) (P.length+1) co),(14,.p 11005 0),(21,.p 30006 0),(22,sV i.2.2.1 i.1 i.2.2.2),(140,iV (P.length+1:Nat)),(141,iV i.1)])
  (fun _=>[(0,⟨30,[sV a1 T.length c1,sV a2 R.length c2,sV a3 F.length c3,iV l]⟩),(1,⟨48,[sV pa P.length pc,sV xa (P.length+1) xc,sV ra (P.length+1) rc,tV (Ae s),tV (Ae c),tV (Ae q)]⟩),(2,⟨48,[sN,sN,sN,tV [],tV [],tV []]⟩),(11005,⟨69,qc fw⟩),(30006,⟨69,qc fy⟩)])
  (fun i u' m'=>i.1<=P.length+1/\AtP QP u' i.2.1 ((Pq P b x (w:Rat) y).take i.1)/\Af PH.mt m' (.slice i.2.2.1 i.1 i.2.2.2) 69 4 i.2.1) (fun i=>P.length+1-i.1) (0,[],(none,0))
  ⟨A1t _,by dsimp only;rw[A53];exact AtP.nil,Af.nil _ _ _⟩ ?_
 rintro J ⟨i,es,⟨oa,oc⟩⟩ hJ g1 gz Q ⟨hi,al,hA⟩;simp only at hi al hA hJ;have cw:es.length=i:=by rw[al.1,A1e,f2];omega
 by_cases m:i<P.length+1
 ·refine G.lT i (P.length+1:Nat) ?_;have bu:i<b.length:=oV;have aa:i<(Ko P x).length:=oV;obtain⟨br,h7,rfl,er⟩:=Bd6 (Ac.mono bq Q) bu;obtain⟨bx,ox,rfl,ex⟩:=Bd6 (Ac.mono ds Q) aa;have c4:=hB.bt _ (A09 bu);rw[<-Cu bu]at c4;have a7:=ba _ (A09 aa);rw[<-Cu aa]at a7;refine G.N (P.length+1) rc m er<|G.N (P.length+1) cx m ex<|G.c call27 (G8 c4) ?_;intro g7 eb V ar;obtain⟨ew,rfl⟩:=ar.opQ;refine G.c call27 (G8 a7) ?_;intro ed ec W ah;obtain⟨ag,rfl⟩:=ah.opQ;refine G.c call28 (Gh (av.mono ((Q.trans V).trans W)) ah (H.mono oV) (a7.sz.mono oV)) ?_;intro g8 g2 ac dh;obtain⟨gk,rfl⟩:=dh.opQ;have e7:=Fx H a7.sz;refine G.c call28 (Gh dh (ky.mono (((Q.trans V).trans W).trans ac)) (e7.mono oV) (sy.mono oV)) ?_;intro g9 g3 ae au;obtain⟨ey,rfl⟩:=au.opQ;have ft:=Fx e7 sy;refine G.c call26 (Pd (ar.mono ((W.trans ac).trans ae)) au (c4.sz.mono oV) (ft.mono oV)) ?_;intro ga g4 b1 ai;rw[<-f1 i m]at ai;obtain⟨a9,rfl⟩:=ai.opQ;refine G.B 69 4 64 zQ [qv a9] (Akh a9) ?_;intro f0 g5 b2 ek;refine G.append 69 4 64 zQ PH.mt es [qv a9] (.slice oa i oc) f0 0 1 1 kV rfl rfl oV hA ek (Akh a9) rfl oV oV oV ?_;intro gb h4 ak;obtain⟨ee,eg,rfl⟩:=ak.shape;have em:(es++[qv a9]).length=i+1:=by simp[cw]
  rw[em]at ak⊢;refine G.i i ?_;have b6:i<(Pq P b x (w:Rat) y).length:=oV;have fh:(Pq P b x (w:Rat) y).take (i+1)=(Pq P b x (w:Rat) y).take i++[gR (Pq P b x (w:Rat) y) i]:=by
   rw[A1n,A01 b6,<-Cu b6];rfl
  have ay:=((((V.trans W).trans ac).trans ae).trans b1).trans b2;refine G.b (hJ (i+1,es++[qv a9],(ee,eg)) _ _ _ cV (Q.trans ay) ⟨dV,?_,ak⟩ dV);dsimp only;rw[fh];exact (al.mono (fun _ _ k=>k.mono ay)).snoc (ai.mono b2)
 obtain rfl:i=P.length+1:=oV;refine G.lF (P.length+1:Nat) (P.length+1:Nat) ?_;clear hJ;rw[A1j oV]at al;refine G.give PH.mt es _ kV hA (fun _=>.inl rfl) ?_;intro eb V cn;have gq:(Nj (P.length+1) X (Fg P x) (w:Rat)).length=P.length+1:=cs.1;have bk:=am.sq;have ch:=(a8.trans Q).trans V;refine G.c call63 (Aot (X:=Nj (P.length+1) X (Fg P x) (w:Rat)) (f5.mono ch) bk.tx oV (fun r hr=>by rw[bk.row r hr];omega)) ?_;rintro ed ec W ⟨lv,rfl,bh⟩;obtain⟨ya,yc,d3⟩:=id bh.opn;rw[A3]at d3;subst d3;refine G.nF 0 0<|G.c call83 (Apw (cn.mono W) (al.mono (fun _ _ k=>k.mono (V.trans W))) am.bt oV) ?_;rintro g8 g2 ac ⟨lr,rfl,bj⟩;obtain⟨sa,sc,cy⟩:=Ac.opn bj;rw[Cb,A03]at cy;subst cy;refine G.nF 0 0 ?_;have a5:=((Q.trans V).trans W).trans ac;refine G.c call27 (G8 hB.st) ?_;intro g9 g3 ae au;obtain⟨ey,rfl⟩:=au.opQ;refine G.c call28 (Gh (av.mono (a5.trans ae)) (ky.mono (a5.trans ae)) (H.mono oV) (sy.mono oV)) ?_;intro ga g4 b1 ai;obtain⟨a9,rfl⟩:=ai.opQ;have e8:=Fx H sy;refine G.c call28 (Gh ai (ky.mono ((a5.trans ae).trans b1)) (e8.mono oV) (sy.mono oV)) ?_;intro hx g5 b2 di;obtain⟨gl,rfl⟩:=di.opQ;have fu:=Fx e8 sy;refine G.c call26 (Pd (au.mono (b1.trans b2)) di (hB.st.sz.mono oV) (fu.mono oV)) ?_;intro gb hh fm dj;obtain⟨gm,rfl⟩:=dj.opQ;refine G.c call84 (Ox dj am.st) ?_;rintro hy hj fn rfl;refine G.nF 0 0 ?_;have b0:=(((ae.trans b1).trans b2).trans fm).trans fn;refine G.c call27 (G8 hB.ct) ?_;intro hz hl dx dk;obtain⟨gn,rfl⟩:=dk.opQ;refine G.c call26 (Pd dk (av.mono ((a5.trans b0).trans dx)) (hB.ct.sz.mono oV) (H.mono oV)) ?_;intro i0 hm fo dl;obtain⟨gp,rfl⟩:=dl.opQ;refine G.c call84 (Ox dl am.ct) ?_;rintro i1 hn fp rfl;refine G.nF 0 0 ?_;have ad:=((b0.trans dx).trans fo).trans fp;exact G.r (.tuple #[.agg #[.slice pa P.length pc,.slice ya (Nj (P.length+1) X (Fg P x) (w:Rat)).length yc,.slice sa (Pq P b x (w:Rat) y).length sc,zS (Ae (s+(w:Rat)*y*y)),zS (Ae (c+(w:Rat))),zS (Ae q)],zO])
  ⟨rfl,_,rfl,pa,pc,ya,yc,sa,sc,rfl,f3.mono (((bp.trans Q).trans V).trans ((W.trans ac).trans ad)),bh.mono (ac.trans ad),Ac.mono bj ad⟩
end
end
def Anp {P:List Par}{k:Nat}{e:Int}(h:k=0/\e=12\/e=3/\k≠0/\11<P.length):e≠0:=by
 rcases h with ⟨_,rfl⟩|⟨rfl,_⟩<;>decide
def Bej {x:Rat}(h:x<=0):sg x<=0:=Bep h
theorem Bdn {a b:Rat}(h:a<=b):a-b<=0:=by grind
def Bd2 {u:PH}{v:Value}{ts:List Int}(ht:Hx u)(hv:Ac u v 1 (Fc ts))(ba:∀ t∈ts,-9223372036854775808<=t)(b7:∀ t∈ts,t<=9223372036854775807) :
 zF 4 [v] u fun v' _=>v'=zT:=by
 letI:Pu:=⟨true⟩
 obtain⟨a,c,rfl⟩:=hv.opn;rw[Cq]at hv⊢;refine Fn0.o func4 ?_;by_cases bs:400<ts.length
 ·refine G.gT ts.length 400<|G.c call8 (Ahv ht) ?_;rintro v1 u1 l1 rfl;exact G.z zT
 refine G.gF ts.length 400<|G.callO _ _ kV call9 (As9 hv oV ba b7) ?_;rintro v1 u1 m1 l1 ⟨s,rfl,rfl,hs⟩ _;rw[By];refine G.callP _ _ kV rfl call10 (By _).symm (Ef _) (Aul hs (A1t _)) ?_;rintro v2 u2 m2 l2 ⟨T,R,F,lab,L,xv,lv,k2,rfl,w,b9,rfl⟩ _;rw[By];have Y:=ht.mono (l1.trans l2);have cb:=w.l6;have hT:=w.wok.tup;have b3:∀ y∈L,Bw T y.1/\1<=y.2.1:=fun y U=>by
  obtain⟨_,q1,q2,_⟩:=w.wok y U;exact⟨q1,q2⟩
 obtain⟨l,rfl⟩:∃ l:Nat,lab=(l:Int):=⟨lab.toNat,by have:=w.lab0;omega⟩;obtain⟨xa,xc,xb,xd,xe,xf,rfl,_⟩:=id w.sch;have m:=w.rows;obtain⟨la,lc,rfl⟩:=m.opn;rw[A03]at m⊢;refine G.c call11 (Ld w.sch w.ok w.t8 m w.wok oV) ?_;rintro v3 u3 l3 ⟨x3,rfl,k3⟩;obtain⟨P,hP⟩:=A0s k3 w.ok.feat;have al:P.length<=24:=by
  have:=Atb w.ok.feat (fun y U=>(hT y U).1) w.w9.c9 hP;have:=w.f4;omega
 obtain⟨k,ah⟩:=Ajm (w.sch.mono l3) (w.ok.mono l3) w.t8 hT oV k3 oV hP al w.lab0;have b5:=L0 w.ok w.ok.l1 (Iz w.ok) hT;have am:=fun z=>Af3 (L:=L) w.ok.feat w.ok.l1 (Iz w.ok) z P fun y U=>(hT y U).1;obtain⟨a1,n1,c1,a2,n2,c2,rfl⟩:=id k3.opn;refine G.callP _ _ kV rfl call12 (By _).symm (Ef _) (Afm (hs.mono (l2.trans l3)) b9) ?_;rintro v4 u4 m4 l4 ⟨q,k4,rfl,hq,ca,rfl⟩ _;rw[By];have aa:=Aoj (ah.mono l4) hq b5 oV am;refine G.c call21 aa ?_;intro v5 u5 l5 hO;have ay:=(l3.trans l4).trans l5;have an:=Ahv (Y.mono ay);rcases hO with ⟨e,he,rfl⟩|⟨b8,ai,sv,X,b,s0,c0,rfl,kS,kN⟩
 ·refine G.nT' e 0 (Anp he)<|G.drop PH.mt kV (fun g o ho=>by cases ho)<|G.c call8 an ?_;rintro v6 u6 l6 rfl;exact G.z zT
 obtain⟨pa,pc,ya,yc,ra,rc,rfl,_⟩:=id kS;refine G.nF 0 0 ?_;by_cases c8:5<P.length
 ·refine G.gT P.length 5<|G.drop PH.mt kV (fun g o ho=>by cases ho)<|G.c call8 an ?_;rintro v6 u6 l6 rfl;exact G.z zT
 refine G.gF P.length 5 ?_;have aj:0<(Cf F (l:Int) L).c:=by
  rw[ah.mom.c]
  exact_mod_cast Nat.pos_of_ne_zero b8
 have hp:Td F P q:=Al6 hP hq ai;have hC:=Vx (P:=P) w.ok hT oV aj;have ap:=Bd1 w.ok (fun y U=>(hT y U).1) kN hp hC;refine G.drop PH.mt kV (fun g o ho=>by cases ho)<|G.c call22 (P6 (z:=0) oV oV) ?_;intro v6 u6 l6 k6;rw[show ((0:Int):Rat)=0 from by decide]at k6;obtain⟨f6,rfl⟩:=k6.opQ;have az:=ay.trans l6;refine G.l (ι:=Nat×Q4) (fun i=>[(4,.p 4005 0),(8,.p 6008 0),(10,.p 9001 0),(54,sV la L.length lc),(55,iV L.length),(56,iV i.1)])
  (fun i=>[(4005,⟨30,[sV xa T.length xc,sV xb R.length xd,sV xe F.length xf,iV l]⟩),
   (6008,⟨48,[.v (.slice pa P.length pc),.v (.slice ya X.length yc),.v (.slice ra b.length rc),.v (zS (Ae s0)),.v (zS (Ae c0)),.v (zS (Ae q))]⟩),(9001,⟨69,qc i.2⟩)])
  (fun i u' m'=>i.1<=L.length/\QP u' (qv i.2) (B9 (fun y=>X7 F (l:Int) P X y.1*(y.2.1:Rat)) (L.take i.1))/\Sz (B9 (fun y=>X7 F (l:Int) P X y.1*(y.2.1:Rat)) (L.take i.1)) (1+i.1*410)/\m'=PH.mt) (fun i=>L.length-i.1) (0,f6)
  ⟨A1t _,k6,Q3.mono oV,rfl⟩ ?_
 rintro J ⟨i,f⟩ hJ u7 m7 l7 ⟨hi,hf,E,rfl⟩;simp only at hi hf E hJ;by_cases ak:i<L.length
 ·refine G.lT i L.length ?_;obtain⟨y,U⟩:∃ y,L[i]?=some y:=⟨_,A01 ak⟩;have aq:=A1k U;have I:=az.trans l7;obtain⟨be,V,_,cc⟩:=w.wok y aq;have Q:=Ala w.ok b3 hP aq;obtain⟨bl,ol,rfl,ey⟩:=Ac.at' (m.mono I) (j:=i) (e:=F3 y) (by simp[U]);have Z:=fun (u':PH) (l1:PH.le u7 u')=>(⟨w.sch.mono (I.trans l1),w.ok.mono (I.trans l1),be.mono (I.trans l1),V⟩:Mv u' (.agg #[.slice xa T.length xc,.slice xb R.length xd,.slice xe F.length xf,zI l]) (.slice y.2.2.1 y.1.length y.2.2.2) T R F (l:Int) y.1);have ab:=Z u7 (PH.le_refl _);have H:=Q.lev_tx w.ok V ab.lt kN hp hC;have bd:L.take (i+1)=L.take i++[y]:=by rw[A1n,U];rfl
  have bb:0<=X7 F (l:Int) P X y.1:=by
   unfold X7;split
   ·exact Bat (kN.levPos hp hC)
   exact Bcq
  refine G.N L.length lc ak ey<|G.c call23 (Bdw (Y.mono I) ab Q (kS.mono (l6.trans l7)) kN hp hC oV) ?_;rintro v8 u8 l8 rfl;refine G.nF 0 0<|G.c call24 (Ee H) ?_;rintro v9 u9 l9 rfl;refine G.c call25 (Agd H) ?_;rintro bq bk ad rfl;refine G.lssF (sgn (X7 F (l:Int) P X y.1).num) 0 kV (by
   rw[Acy];have:=Ben bb;omega) ?_
  refine G.c call27 (G8 H) ?_;intro br bm av ar;obtain⟨c5,rfl⟩:=ar.opQ;refine G.c call22 (P6 (z:=(y.2.1:Int)) oV oV) ?_;intro cj cd aw ac;rw[A2r]at ac;obtain⟨c6,rfl⟩:=ac.opQ;have b0:Sz ((y.2.1:Nat):Rat) 1:=by
   have:=Adt (z:=(y.2.1:Int)) oV;rwa[A2r]at this
  refine G.c call28 (Gh (ar.mono aw) ac (H.sz.mono oV) (b0.mono oV)) ?_;intro ck ce bf au;obtain⟨c7,rfl⟩:=au.opQ;have b1:=Fx H.sz b0;have a6:=((((l8.trans l9).trans ad).trans av).trans aw).trans bf;refine G.c call26 (Pd (hf.mono a6) au (E.mono oV) (b1.mono oV)) ?_;intro cl bn bg a0;have af:=R5 E b1;have b2:B9 (fun y=>X7 F (l:Int) P X y.1*(y.2.1:Rat)) (L.take i)+X7 F (l:Int) P X y.1*(y.2.1:Rat)=B9 (fun y=>X7 F (l:Int) P X y.1*(y.2.1:Rat)) (L.take (i+1)):=by rw[bd,Ang]
  rw[b2]at a0 af;obtain⟨ag,rfl⟩:=a0.opQ;have a7:=a6.trans bg;refine G.c call29 (Bdd (Z bn a7)) ?_;rintro cm bo ae rfl;have C:=a7.trans ae;cases hb:G4 F (l:Int) y.1 with
  |false =>
   exact G.i i<|G.b (hJ (i+1,ag) _ _ _ cV (l7.trans C) ⟨dV,a0.mono ae,af.mono dV,rfl⟩ dV)
  |true =>
   have b6:Av5 F l P y.1:=Q.resolve_left (by rw[hb];simp);have o:=Apr w.ok V hb;have ao:Cf F (l:Int) (L++[(y.1,1,y.2.2)])=(Cf F (l:Int) L).add ((cfT F (l:Int) y.1).scale ((1:Int):Rat)):=by
    rw[Eb];rfl
   have K:Ug P ((Cf F (l:Int) L).add ((cfT F (l:Int) y.1).scale ((1:Int):Rat))):=by
    rw[<-ao];refine Apu w.ok (fun z hz=>(A1h.1 hz).elim (hT z) fun h=>?_) (by rw[A1d,A20];omega) aj;simp only[A12]at h;subst h;exact⟨V,by show 1<=7;omega⟩
   obtain⟨b4,a3⟩:=kN.stepF hp o K;have hB:=kN.okF hp hC;have aa:=Bdx (w:=1) (Z bo C) b6 (kS.mono ((l6.trans l7).trans C)) hp hB (kN.light hp hC oV) oV oV oV oV b4 (a3.okF hp K);refine G.c call30 aa ?_;rintro cn bp ax ⟨bz,rfl,a5⟩;obtain⟨bt,bu,c3,c4,bw,bx,rfl,_⟩:=id a5;have a8:=C.trans ax;have a4:=Q.lev_tx w.ok V ab.lt a3 hp K;refine G.c call23 (Bdw (Y.mono (I.trans a8)) (Z bp a8) Q a5 a3 hp K oV) ?_;rintro co cg bh rfl;refine G.nF 0 0<|G.nF 0 0<|G.c call24 (Ee a4) ?_;rintro cp ch bi rfl;refine G.c call31 (Awr a4 H) ?_;rintro cq ci bj rfl;have a9:=kN.levLess hp hC o (by exact K) (by exact a3);refine G.geqF (sgn (X7 F (l:Int) P (Nj (P.length+1) X (Fg P (cfT F (l:Int) y.1).s) ((1:Int):Rat)) y.1-X7 F (l:Int) P X y.1).num) 0 kV (by
    rw[Acy];have:X7 F (l:Int) P (Nj (P.length+1) X (Fg P (cfT F (l:Int) y.1).s) ((1:Int):Rat)) y.1<X7 F (l:Int) P X y.1:=by
     unfold X7;rw[if_pos hb,if_pos hb];exact a9
    have:=Beo.2 this;omega) ?_
   refine G.i i ?_;have W:=((ax.trans bh).trans bi).trans bj;exact G.b (hJ (i+1,ag) _ _ _ cV (l7.trans (C.trans W)) ⟨dV,a0.mono (ae.trans W),af.mono dV,rfl⟩ dV)
 obtain rfl:i=L.length:=oV;refine G.lF L.length L.length ?_;rw[A15]at hf E;refine G.p P.length 1 (P.length+1:Nat)<|G.c call22 (P6 (z:=((P.length+1:Nat):Int)) oV oV) ?_;intro v8 u8 l8 k8;rw[A2r]at k8;obtain⟨f8,rfl⟩:=k8.opQ;have s8:Sz ((P.length+1:Nat):Rat) 1:=by
  have:=Adt (z:=((P.length+1:Nat):Int)) oV;rwa[A2r]at this
 refine G.c call32 (Adl (hf.mono l8) k8 (E.mono oV) (s8.mono oV)) ?_;intro v9 u9 l9 k9;have s9:=Akj E s8;obtain⟨f9,rfl⟩:=k9.opQ;refine G.c call33 (Aef k9 (A04 s9.1 oV)) ?_;rintro bq bk ad rfl;refine G.kT' (sgn (B9 (fun y=>X7 F (l:Int) P X y.1*(y.2.1:Rat)) L-((P.length+1:Nat):Rat)).num) 0 (by rw[Acy];exact Bej (Bdn ap))<|G.c call8 (Ahv (Y.mono ((((az.trans l7).trans l8).trans l9).trans ad))) ?_;rintro br bm av rfl;exact G.z zT
end Go.Proofs.YtemmheaocgmebaaGreatDoor
section
namespace Go.Proofs.YtemmheaocgmebaaGreatDoor.refreshleverage
open Go.ChangeShapes Go.WideShapes Go.ChangeAt Go.RowKit
theorem j0:(Rows.refreshLeverageRow.wf (OpenSpec.ofChange (OpenSpec.ofChange Rows.refreshLeverageSpec).bare)&&laidOutB Tryz.pinned.checked.prog&&mapsRowed Tryz.pinned.checked.prog&&Tryz.f4.params.all (Tryz.pinned.checked.prog.readableRec ·)&&namedTie Tryz.pinned.checked.prog Rows.refreshLeverageRow.named (OpenSpec.ofChange Rows.refreshLeverageSpec).bare.vars&&(Rows.refreshLeverageRow.stops == [])&&(Tryz.pinned.checked.prog.stops == [])&&(Rows.refreshLeverageRow.knobs == [])&&(Tryz.pinned.checked.prog.stopKnobs == []))=true:=by kernel_rfl
theorem j1:(Rows.refreshLeverageRow.inPlace==Tryz.pinned.checked.prog.inPlace 4)=true:=by kernel_rfl
theorem j2:(Rows.refreshLeverageRow.unfollowed==Tryz.pinned.checked.prog.unfollowed 4)=true:=by kernel_rfl
theorem j3:(Rows.refreshLeverageRow.recurses==Tryz.pinned.checked.prog.recurses 4)=true:=by kernel_rfl
theorem j4:(Rows.refreshLeverageRow.named==Tryz.pinned.checked.prog.varsNamed 4)=true:=by kernel_rfl
theorem j5:Tryz.pinned.checked.prog.mayEnter=true:=by kernel_rfl
theorem closed:joinedFacts Tryz.pinned.checked.prog 4 Tryz.f4 (OpenSpec.ofChange Rows.refreshLeverageSpec).bare Rows.refreshLeverageRow=true:=by
 unfold joinedFacts;rw[j0,j1,j2,j3,j4,j5]
 kernel_rfl
end Go.Proofs.YtemmheaocgmebaaGreatDoor.refreshleverage
end
namespace Go.Proofs.YtemmheaocgmebaaGreatDoor
open Go.Proofs.Tryz
open Go.RowKit Go.MapKept
end Go.Proofs.YtemmheaocgmebaaGreatDoor
