/- Parts of one proof, joined by a program. -/
import Derived.Test.YtemmheaocgmebaaGreatDoorU12
set_option linter.defProp false
set_option linter.unusedVariables false
set_option linter.unusedSimpArgs false
set_option linter.unusedSectionVars false
set_option maxHeartbeats 16000000
namespace Go.Proofs.YtemmheaocgmebaaGreatDoor
open Go.Proofs.Tryz
open Go.RowKit Go.MapKept
section
variable {F:List Al}{T:List (List UInt8×Nat)}{lab:Int}{ss:List (List UInt8)}{x:Rat}
def Ko (P:List Par)(x:Par->Rat):List Rat:=(An P).map (Zg x)
def Ad6 (P:List Par)(x:Par->Rat):(Ko P x).length=P.length+1:=by unfold Ko;rw[A03,Cp]
def V1 {P:List Par}{x:Par->Rat}{i:Nat}(hi:i<P.length+1):gR (Ko P x) i=Fg P x i:=by
 have e:i<(An P).length:=by rw[Cp];exact hi
 unfold Ko Fg gR;rw[A02,A1a,A02,A01 e];rfl
def Avy {P:List Par}(hF:Da T F lab)(m:Bw T ss)(g:-1<=lab)(h:∀ l:Nat,lab=(l:Int)->l<ss.length)(j:G4 F lab ss=true)(hp:∀ p∈P,0<=p.1) :
 F5 P (Dx F ss F.length)=(Ko P (cfT F lab ss).s).map Ae:=by
 unfold F5 Ko An;rw[A2u,A2u,A9h,A9h]
 congr 1
 ·exact Sv.symm
 exact A41 fun p e=>by
  show Ae (Fo p _)=Ae ((cfT F lab ss).s p);rw[Acn hF m g h j (hp p e)]
def Abm {P:List Par}(hF:Da T F lab)(m:Bw T ss)(u:-1<=lab)(z:∀ l:Nat,lab=(l:Int)->l<ss.length)(E:G4 F lab ss=true)(hp:∀ p∈P,0<=p.1):∀ x∈Ko P (cfT F lab ss).s,SmW x:=fun x n=>by
 unfold Ko at n;obtain⟨e,g,rfl⟩:=A1b.1 n;unfold An at g;rcases A1g.1 g with rfl|g
 ·exact I7
 obtain⟨p,h,rfl⟩:=A1b.1 g;show SmW ((cfT F lab ss).s p);rw[Acn hF m u z E (hp p h)];by_cases j:p∈(Dx F ss F.length).map (·.1)
 ·obtain⟨y,t,rfl⟩:=A1b.1 j;rw[Kh (a:=y.1) (q:=y.2) (Nb F ss F.length (A08 _)) t];exact Att hF m y t
 rw[Na j];exact Afe
section
variable {P:List Par} {C:CF} {q:Rat} {N:Nat} {X:List (List Rat)} {b:List Rat} {s c:Rat}
def H6.cell (h:H6 P C q X){r:List Rat}(t:r∈X)(u:x∈r):∃ j k,j<P.length+1/\k<P.length+1/\x=en X j k:=by
 obtain⟨j,g,rfl⟩:=A3d.1 t;obtain⟨k,n,rfl⟩:=A3d.1 u;have e:j<P.length+1:=by rw[<-h.rc.1];exact g
 have m:=h.rc.2 j e;rw[Ch g]at m;refine⟨j,k,e,by rw[<-m];exact n,?_⟩;unfold en;rw[Ch g,Cu n]
def H6.sqr (h:H6 P C q X)(e:P.length<=11)(hT:∀ r∈X,∀ x∈r,Tx x):Sq X:=by
 refine⟨by rw[h.rc.1];omega,fun r g=>?_,hT⟩;obtain⟨i,hi,rfl⟩:=A3d.1 g;have:=h.rc.2 i (by have:=h.rc.1;omega);rw[Ch hi]at this;rw[this,h.rc.1]
def H6.txs (h:H6 P C q X)(m:In N C)(t:N<=33000000000)(I:Fd q)(n:P.Nodup)(u:0<C.c)(e:∀ z,0<=Dh z P C)(g:P.length<=11):∀ r∈X,∀ x∈r,Tx x:=fun r J x K=>by
 obtain⟨j,k,E,H,rfl⟩:=h.cell J K;exact (h.de m t I n u e g j k E H).tx oV oV oV oV
def Air {N:Nat}(h:Dn 2 N x)(e:N<=33000000000):De 11 3 x:=h.de oV fV
def Av6 (g:In N C)(h:N<=33000000000):∀ x∈Yz C P,De 11 3 x:=fun x j=>by
 obtain⟨e,_,rfl⟩:=A1b.1 j;exact Air (g.r e) h
structure Ah3 (P:List Par)(X:List (List Rat))(b:List Rat)(s c:Rat):Prop where
 n:X.length=P.length+1
 bn:b.length=P.length+1
 sq:Sq X
 bt:∀ x∈b,Tx x
 st:Tx s
 ct:Tx c
def H9.ok (h:H9 P C q X b s c)(e:In N C)(m:N<=33000000000)(H:Fd q)(t:P.Nodup)(E:0<C.c)(j:∀ z,0<=Dh z P C)(g:P.length<=11):Ah3 P X b s c where
 n:=h.inv.rc.1
 bn:=by rw[h.rt,A03,Cp]
 sq:=h.inv.sqr g (h.inv.txs e m H t E j g)
 bt:=fun x u=>by
  rw[h.rt]at u;exact (Av6 (P:=P) e m x u).tx oV oV oV oV
 st:=by rw[h.sq];exact (Air e.l m).tx oV oV oV oV
 ct:=by rw[h.ct];exact (Air (e.c none none) m).tx oV oV oV oV
end
end
def Xs {A:List (List Rat)}(e:Sq A):Rec A.length A.length A:=⟨rfl,fun i hi=>by rw[Ch hi];exact e.len hi⟩
def Th.tq {q:Rat}(h:Th q):Tq q:=⟨h.tx,h.den,h.num⟩
section
variable {v:Value}
def QsP (u:PH)(v:Value)(qs:List Rat):Prop:=LP QP 4 u v qs
def Aa8 (u:PH)(v:Value)(X:List (List Rat)):Prop:=LP QsP 1 u v X
def QsP.mono {u j:PH}{v:Value}{g:List Rat}(h:QsP u v g)(e:PH.le u j):QsP j v g:=LP.mono (fun _ _ k=>k.mono e) h e
def Aa8.mono {u g:PH}{v:Value}{X:List (List Rat)}(h:Aa8 u v X)(e:PH.le u g):Aa8 g v X:=LP.mono (fun _ _ k=>QsP.mono k e) h e
def Aot {u:PH}{X:List (List Rat)}(h:Aa8 u v X)(hT:∀ r∈X,∀ x∈r,Tx x)(hl:X.length<=1000)(hr:∀ r∈X,r.length<=1000) :
 Fn0 prog 63 [v] u fun r Q=>∃ P,r=.tuple #[P,.int .i64 0]/\C7 Q P (Cv X):=by
 obtain⟨a,c,rfl⟩:=LP.opn h;refine Fn0.o func63<|G.l (ι:=Nat×(Option Addr×Nat)×List Value) (fun i=>[(4,sV i.2.1.1 i.2.2.length i.2.1.2),(9,sV a X.length c),(10,iV X.length),(11,iV i.1)]) (fun _=>[])
  (fun i Q m'=>i.1<=X.length/\N4 Q i.2.2 (Cv (X.take i.1))/\Af PH.mt m' (.slice i.2.1.1 i.2.2.length i.2.1.2) 46 1 i.2.2) (fun i=>X.length-i.1) (0,(none,0),[])
  ⟨oV,⟨rfl,fun j r hj=>by simp[Cv]at hj⟩,Af.nil _ _ _⟩ ?_
 rintro J ⟨i,⟨pa,pc⟩,es⟩ R u1 m1 U ⟨hi,t,F⟩;simp only at hi t F R;have a0:es.length=i:=by rw[t.1];simp[Cv];omega
 by_cases z:i<X.length
 ·refine G.lT i X.length ?_;obtain⟨x,m⟩:∃ x,X[i]?=some x:=⟨_,A01 z⟩;have E:=A1k m;have L:X.take (i+1)=X.take i++[x]:=by rw[A1n,m];rfl
  obtain⟨b,o,e,rfl,Y,T⟩:=LP.at (Aa8.mono h U) m;obtain⟨qa,qc,rfl⟩:=LP.opn T;obtain⟨a2,I,C⟩:=T;have a1:=C.1;refine G.a b o X.length c i 1 z<|G.lU none b (o+i*1) (.slice qa x.length qc) Y<|G.c call83 (Apw I C (hT x E) (hr x E)) ?_;rintro v2 u2 l2 ⟨P,rfl,H⟩;obtain⟨la,O,rfl⟩:=Ac.opn H;have K:(Cc (x.map Ae)).length=(x.map Ae).length:=Cb _;rw[K]at H⊢;refine G.nF 0 0<|G.B 46 1 24 (.slice none 0 0) [.slice la (x.map Ae).length O] (B5 _ _ _) ?_;intro g3 u3 N Z;refine G.append 46 1 24 (.slice none 0 0) PH.mt es [.slice la (x.map Ae).length O] _ g3 0 1 1 kV rfl rfl oV F Z (B5 _ _ _) rfl oV oV oV ?_;intro v4 m4 n;obtain⟨V,W,rfl⟩:=n.shape;refine G.i i<|G.b (R (i+1,(V,W),es++[.slice la (x.map Ae).length O]) _ _ _ cV ((U.trans l2).trans N) ⟨dV,?_,n⟩ dV);have e5:Cv (X.take (i+1))=Cv (X.take i)++[x.map Ae]:=by rw[L];simp[Cv]
  dsimp only;rw[e5];exact (t.mono (l2.trans N)).snoc1 (r:=x.map Ae) (Ac.mono H N)
 obtain rfl:i=X.length:=oV;refine G.lF X.length X.length ?_;rw[A15]at t;refine G.give _ _ _ kV F (fun g=>.inl rfl) ?_;intro u6 l6 hF;exact G.r (.tuple #[.slice pa es.length pc,.int .i64 0]) ⟨rfl,_,rfl,es,hF,t.mono l6⟩
def Af.split {m0 m:PH}{t:TypeId}{sz:Nat}{es:List Value}(h:Af m0 m v t sz es):∃ sm,m=m0.or sm/\Hp m0 sm/\Af PH.mt sm v t sz es:=by
 obtain⟨u,h⟩:=h;rcases h with ⟨j,n,rfl⟩|⟨g,cap,rest,j,rfl,n,z,C,E⟩
 ·refine⟨PH.mt,?_,fun _=>.inr rfl,u,.inl ⟨j,n,rfl⟩⟩
  funext g;unfold PH.or;cases m g<;>rfl
 refine⟨PH.mt.upd g _,?_,fun k=>?_,u,.inr ⟨g,cap,rest,rfl,rfl,n,z,C,E⟩⟩
 ·funext k
  unfold PH.or;by_cases e:k=g
  ·subst e;rw[j,Ab,Ab]
  rw[Ad _ _ e,Ad _ _ e];cases m0 k<;>rfl
 by_cases e:k=g
 ·subst e;exact .inl j
 exact .inr (Ad _ _ e)
end
section
variable {a i m:Nat}
def Bc4 {F:List Al}{lab:Int}:∀ {L:List Dm},(Cf F lab L).c=B9 (fun y=>(cfT F lab y.1).c*(y.2.1:Rat)) L/\(∀ p,(Cf F lab L).s p=B9 (fun y=>(cfT F lab y.1).s p*(y.2.1:Rat)) L)/\∀ p,(Cf F lab L).t p=B9 (fun y=>(cfT F lab y.1).t p*(y.2.1:Rat)) L:=by
 intro L;induction L using Ig with
 |h0=>exact⟨rfl,fun _=>rfl,fun _=>rfl⟩
 |h1 L y ih =>
  obtain⟨e,g,h⟩:=ih;rw[Eb];refine⟨?_,fun p=>?_,fun p=>?_⟩<;>rw[Ang]
  ·rw[<-e];rfl
  ·rw[<-g];rfl
  rw[<-h];rfl
def Bc8 {q:Rat}(h:0<q):q≠0:=fun e=>by rw[e]at h;exact absurd h jV
theorem Bcx {α:Type}{f:α->Rat}{x:α}:∀ {l:List α},(∀ y∈l,0<=f y)->x∈l->0<f x->0<B9 f l
 |y::l,h,e,hp=>by
  have j:=h y (A4l ..);have n:=Acs fun y g=>h y (A2f _ g);show 0<f y+B9 f l;rcases A1g.1 e with rfl|e
  ·grind
  have:=Bcx (fun y g=>h y (A2f _ g)) e hp;grind
def Bc7 {α:Type}{f:α->Rat}{l:List α}(h:B9 f l≠0):∃ x∈l,f x≠0:=A3m fun g=>h (Fv fun x j=>A3m fun e=>g ⟨x,j,e⟩)
section
variable {u:PH} {T:List (List UInt8×Nat)} {R:List Br} {F:List Al} {lab:Int} {ss:List (List UInt8)} {L:List Dm} {P:List Par}
def A00 (ok:Bl u T R F lab)(C:Bw T ss)(E:G4 F lab ss=true)(hi:F[i]?=some (a,2,m))(c:List UInt8):(cfT F lab ss).s ((i:Int),c)=if ss.getD a []=c then 1 else 0:=by
 have z:=C.len;rw[Acn ok.feat C ok.l1 (fun l e=>by have:=Iz ok l e;omega) E (by show (0:Int)<=(i:Int);omega)];have n:=(A05.1 hi).1;by_cases e:ss.getD a []=c
 ·rw[if_pos e];refine Kh (Nb F ss F.length (A08 _)) (F9.2 ⟨i,_,n,hi,?_⟩);unfold Jf;rw[if_pos rfl,e]
 rw[if_neg e];refine Na fun H=>?_;obtain⟨x,I,g⟩:=A1b.1 H;obtain⟨k,f,_,t,h⟩:=F9.1 I;have j:=Ow h;rw[g]at j;obtain rfl:k=i:=by have j:(i:Int)=(k:Int):=j;omega
 rw[hi]at t;cases t;unfold Jf at h;rw[if_pos rfl]at h;cases h;cases g;exact e rfl
def Awu (ok:Bl u T R F lab)(j:Bw T ss)(n:G4 F lab ss=false):Ag0 (cfT F lab ss):=by
 have g:=j.len;rcases Pf ok.feat j ok.l1 (fun l e=>by have:=Iz ok l e;omega) with ⟨h,_⟩|⟨_,h⟩
 ·rw[n]at h;cases h
 exact h
def Apr (ok:Bl u T R F lab)(j:Bw T ss)(n:G4 F lab ss=true):Qi (cfT F lab ss):=by
 have g:=j.len;rcases Pf ok.feat j ok.l1 (fun l e=>by have:=Iz ok l e;omega) with ⟨_,h⟩|⟨h,_⟩
 ·exact h
 rw[n]at h;cases h
theorem E2 (ok:Bl u T R F lab)(hT:∀ y∈L,Bw T y.1/\1<=y.2.1)(hi:F[i]?=some (a,2,m))(c:List UInt8):(Cf F lab L).s ((i:Int),c)≠0↔∃ y∈L,G4 F lab y.1=true/\y.1.getD a []=c:=by
 rw[Bc4.2.1];have t:∀ y∈L,(0:Rat)<(y.2.1:Rat):=fun y g=>by
  have:((0:Nat):Rat)<(y.2.1:Rat):=Rat.natCast_lt_natCast.2 (hT y g).2;exact this
 constructor
 ·intro h;obtain⟨y,g,n⟩:=Bc7 h;refine⟨y,g,?_⟩;cases hc:G4 F lab y.1 with
  |false=>exact absurd (by rw[(Awu ok (hT y g).1 hc).s,Ban]) n
  |true =>
   refine⟨rfl,A3m fun e=>n ?_⟩;rw[A00 ok (hT y g).1 hc hi,if_neg e,Ban]
 rintro⟨y,g,hc,e⟩;have:0<B9 (fun y:Dm=>(cfT F lab y.1).s ((i:Int),c)*(y.2.1:Rat)) L:=by
  refine Bcx (fun z j=>?_) g ?_
  ·cases hz':G4 F lab z.1 with
   |false=>rw[(Awu ok (hT z j).1 hz').s,Ban];exact Bcq
   |true =>
    rw[A00 ok (hT z j).1 hz' hi];have:=t z j;split<;>grind
  rw[A00 ok (hT y g).1 hc hi,if_pos e,Rat.one_mul];exact t y g
 exact Bc8 this
end
end
section
variable {H:CF}{X:List (List Rat)}{b:List Rat}{c s:Rat}
section
variable {u:PH} {T:List (List UInt8×Nat)} {R:List Br} {F:List Al} {lab:Int} {L:List Dm} {xv cv:Value} {P:List Par} {K:Nat}
def Atw (ok:Bl u T R F lab)(z:T.length<=8)(hT:∀ y∈L,Bw T y.1/\y.2.1<=7)(g:L.length<=10):CFD 16 (10^75) (Cf F lab L):=by
 obtain⟨d,_⟩:=Alz ok hT;refine d.to oV ?_;have e:12^(16-2*T.length)=144^(8-T.length):=by
  rw[show 16-2*T.length=2*(8-T.length) by omega,Nat.pow_mul]
 have j:144^(8-T.length)<=1374926400^(8-T.length):=Nat.pow_le_pow_left oV _;have m:1374926400^T.length*1374926400^(8-T.length)=1374926400^8:=by rw[<-A4k];congr 1;omega
 have n:1374926400^8*70<=10^75:=jV
 rw[e];have h:L.length*(1374926400^T.length*7)*144^(8-T.length)<=10*(1374926400^T.length*7)*1374926400^(8-T.length):=A25 (A13 _ g) j;have t:10*(1374926400^T.length*7)*1374926400^(8-T.length)=(1374926400^T.length*1374926400^(8-T.length))*70:=by
  generalize 1374926400^T.length=a;generalize 1374926400^(8-T.length)=b;rw[A19 10,A17 a 7 10,A17 a b 70,A17 a (7*10) b,A19 (7*10) b]
 rw[t,m]at h;exact A04 h n
def Ajm (I:H5 u xv T R F lab)(ok:Bl u T R F lab)(m:T.length<=8)(hT:∀ y∈L,Bw T y.1/\y.2.1<=7)(g:L.length<=10)(t:No u cv (Cf F lab L) K)(z:K<=10000)(E:Nn F (Cf F lab L) P)(j:P.length<=24)(e:0<=lab) :
 ∃ k,Te u xv cv T R F lab (Cf F lab L) K k P:=by
 obtain⟨k,J,N⟩:=Arb ok.feat ok.l1 (Iz ok) hT;obtain⟨O,n⟩:=Aee ok m hT oV;have h:=L0 ok ok.l1 (Iz ok) hT;exact⟨k,I,ok,t,O,n,z,Avj,Avn h oV n J oV,E,j,e,Atw ok m hT g⟩
end
section
variable {u:PH} {v cv:Value} {T:List (List UInt8×Nat)} {R:List Br} {F:List Al} {lab:Int} {C:CF} {K k:Nat} {P:List Par}
def Te.w (h:Te u v cv T R F lab C K k P):Aam u v cv T R F lab C K k :=
 ⟨h.sch,h.ok,h.cof,h.sC,h.vC,h.K,h.bel,h.mom,fun g e=>by rw[<-h.prm.eq e];exact h.p24,h.lab0⟩
structure Ug (P:List Par)(C:CF):Prop where
 cd:∃ N,N<=33000000000/\In N C
 pos:0<C.c
 psd:∀ z,0<=Dh z P C
structure Td (F:List Al)(P:List Par)(q:Rat):Prop where
 srt:Hb Bk P
 le:P.length<=11
 par:∀ p∈P,0<=p.1
 pen:Fd q
def H9.okF {q:Rat}(h:H9 P C q X b s c)(hp:Td F P q)(e:Ug P C):Ah3 P X b s c:=by
 obtain⟨N,j,g⟩:=e.cd;exact h.ok g j hp.pen (hp.srt.nodup Et) e.pos e.psd hp.le
def H9.light {q:Rat}{X:List (List Rat)}{b:List Rat}{s c:Rat}(h:H9 P C q X b s c)(hp:Td F P q)(e:Ug P C)(j:P.length<=5):∃ L,Y5 X L 86:=by
 obtain⟨N,m,g⟩:=e.cd;exact h.inv.light g m hp.pen (hp.srt.nodup Et) e.pos e.psd j
def H9.stepF {w q:Rat}(h:H9 P C q X b s c)(hp:Td F P q)(o:Qi H)(e:Ug P (C.add (H.scale w))) :
 byN (P.length+1) (en X) (Fg P H.s) w≠0/\H9 P (C.add (H.scale w)) q (Nj (P.length+1) X (Fg P H.s) w) (Pq P b H.s w (H.s B7)) (s+w*H.s B7*H.s B7) (c+w) :=
 h.step o (hp.srt.nodup Et) e.pos hp.pen.pos e.psd
def Axc:Value:=.agg #[.slice none 0 0,.slice none 0 0,.slice none 0 0,.string (mkS []),.string (mkS []),.string (mkS [])]
def Ma (u:PH)(v:Value)(P:List Par)(X:List (List Rat))(b:List Rat)(s c q:Rat):Prop :=
 ∃ (pa:Option Addr) (pc:Nat) (xa:Option Addr) (xc:Nat) (ra:Option Addr) (rc:Nat),v=.agg #[.slice pa P.length pc,.slice xa X.length xc,.slice ra b.length rc,.string (mkS (Ae s)),.string (mkS (Ae c)),.string (mkS (Ae q))] /\
  Ac u (.slice pa P.length pc) 2 (P.map Ap)/\C7 u (.slice xa X.length xc) (Cv X)/\Cj u (.slice ra b.length rc) (b.map Ae)
def Ma.mono {u j:PH}{v:Value}{X:List (List Rat)}{b:List Rat}{s c q:Rat}(h:Ma u v P X b s c q)(g:PH.le u j):Ma j v P X b s c q:=by
 obtain⟨pa,pc,xa,xc,ra,rc,e,m,n,t⟩:=h;exact⟨pa,pc,xa,xc,ra,rc,e,m.mono g,n.mono g,Ac.mono t g⟩
end
section
variable {u:PH} {T:List (List UInt8×Nat)} {R:List Br} {F:List Al} {lab:Int} {L:List Dm} {C:CF} {P:List Par} {q:Rat}
theorem Vx (ok:Bl u T R F lab)(hT:∀ y∈L,Bw T y.1/\y.2.1<=7)(h13:L.length<=13)(hc:0<(Cf F lab L).c):Ug P (Cf F lab L) :=
 ⟨⟨_,oV,L0 ok ok.l1 (Iz ok) hT⟩,hc,fun z=>Af3 ok.feat ok.l1 (Iz ok) z P fun y hy=>(hT y hy).1⟩
def Al6 (g:Nn F C P)(h:Fd q)(e:P.length<=11):Td F P q :=
 ⟨g.1,e,fun p hp=>by
  rcases (g.2 p).1 hp with ⟨i,f,rfl,_⟩|⟨_,i,f,j,_⟩
  ·show 0<=(i:Int);omega
  omega,h⟩
theorem Als (h:Ag0 H)(w:Rat):C.add (H.scale w)=C:=by
 cases C;simp only[CF.add,CF.scale,h.c]
 congr 1
 ·grind
 ·funext p;rw[h.s];grind
 funext p;rw[h.t];grind
end
end
section
variable {cs:Array Value}{k n:Nat}{ts:List (List UInt8)}{v:Value}
def K6 (ts:List (List UInt8))(n k:Nat):List (List UInt8):=ts.take k++List.replicate (n-k) []
def Aop {t:List UInt8}(h:ts.length=n)(e:ts[k]?=some t):(K6 ts n k).set k t=K6 ts n (k+1):=by
 obtain⟨g,_⟩:=A05.1 e;unfold K6;rw[A4t _ _ (by rw[A1e];omega),A1e,show k-min k ts.length=0 by omega,show n-k=(n-(k+1))+1 by omega,A68,A2p,A1n,e,A2k];rfl
def An1 (g:ts.length=n)(e:k<=n):(K6 ts n k).length=n:=by unfold K6;rw[A1d,A1e,A3k];omega
def Acd {u:PH}{f n:Nat}{cap:List Value}{X:List (List Rat)}(ht:Hx u)(L:Rec n n X)(hn:n<=1000)(hT:∀ r∈X,∀ x∈r,Tx x)(O:∀ args w,(callFunc f args).run prog w=.ok (.enter f args) w)
 (hf:∀ i k,i<n->k<n->∀ U,PH.le u U->Fn0 prog f (.int .i64 i::.int .i64 k::cap) U fun r ag=>Bg ag r (en X i k)) :
 Fn0 prog 123 [.int .i64 n,.int .i64 n,.func (.func f) #[] cap.toArray] u fun r U=>∃ lv,r=.tuple #[lv,.int .i64 0]/\C7 U lv (Cv X):=by
 have ae:∀ i k,i<n->k<n->Tx (en X i k):=fun i k hi hk=>by
  have H:i<X.length:=by rw[L.1];exact hi
  have W:=L.2 i hi;rw[Ch H]at W;have Y:k<X[i].length:=oV;unfold en;rw[Ch H,Cu Y];exact hT _ (A09 H) _ (A09 Y)
 have m:∀ i,i<n->((gM X i).map Ae).length=n:=fun i hi=>by rw[A03];exact L.2 i hi
 have a1:∀ i k,i<n->k<n->((gM X i).map Ae)[k]?=some (Ae (en X i k)):=fun i k hi hk=>by
  have Y:k<(gM X i).length:=by rw[L.2 i hi];exact hk
  rw[A1a,A01 Y];unfold en;rw[Cu Y];rfl
 refine Fn0.o func123<|G.make 46 1 24 (.slice none 0 0) n kV rfl rfl oV oV oV ?_;rintro v1 m1 I ⟨aO,rfl⟩;obtain⟨go,rfl,_⟩:=I.some';refine G.l (ι:=Nat×List Value) (fun i=>[(1,iV n),(2,.v (.func (.func f) #[] cap.toArray)),(8,sV (some ⟨go,0,none⟩) n n),(16,iV n),(17,iV i.1)]) (fun _=>[])
  (fun i U V=>i.1<=n/\i.2.length=n/\(∀ j,j<i.1->∃ a c,i.2[j]?=some (.slice a n c)/\Cj U (.slice a n c) ((gM X j).map Ae))/\Bag V [⟨.slice (some ⟨go,0,none⟩) n n,46,1,i.2⟩]) (fun i=>n-i.1) (0,List.replicate n (.slice none 0 0))
  ⟨oV,mV,fun j hj=>absurd hj (Nat.not_lt_zero _),PH.mt,I,trivial⟩ ?_
 clear I;rintro J ⟨i,es⟩ hJ u2 m2 l2 ⟨hi,P,Q,Z⟩;simp only at hi P Q Z hJ;by_cases g:i<n
 ·refine G.lT i n<|G.make 34 1 16 (.string (mkS [])) n kV rfl rfl oV oV oV ?_;rintro v3 m3 K ⟨aR,rfl⟩;obtain⟨h,rfl,_⟩:=K.some';have a0:Bag m3 [⟨.slice (some ⟨h,0,none⟩) n n,34,1,Cc (K6 ((gM X i).map Ae) n 0)⟩,⟨.slice (some ⟨go,0,none⟩) n n,46,1,es⟩]:=⟨m2,by
   have:Cc (K6 ((gM X i).map Ae) n 0)=List.replicate n (.string (mkS [])):=by unfold K6 Cc;simp
   rw[this];exact K,Z⟩
  obtain⟨mo,E,z⟩:=a0.focus 1 rfl;refine G.a go 0 n n i 1 g<|G.storeA 1 mo es go n n i (.slice (some ⟨h,0,none⟩) n n) kV E oV rfl rfl ?_;intro m4 a8;have C:=z ⟨.slice (some ⟨go,0,none⟩) n n,46,1,es.set i (.slice (some ⟨h,0,none⟩) n n)⟩ m4 a8;rw[A2j,A2p]at C;have a5:(es.set i (.slice (some ⟨h,0,none⟩) n n))[i]?=some (.slice (some ⟨h,0,none⟩) n n):=by rw[A1z,if_pos rfl,if_pos oV]
  have a4:∀ {V:PH} {rs:List Value},Bag V [⟨.slice (some ⟨h,0,none⟩) n n,34,1,rs⟩,⟨.slice (some ⟨go,0,none⟩) n n,46,1,es.set i (.slice (some ⟨h,0,none⟩) n n)⟩]->ElP V go (0+i*1) (.slice (some ⟨h,0,none⟩) n n):=fun hb=>hb.el 1 rfl rfl a5;refine G.a go 0 n n i 1 g<|G.lM none go (0+i*1) _ (a4 C) ?_;clear z E a8 a0 K;refine G.l (ι:=Nat) (fun k=>[(1,iV n),(2,.v (.func (.func f) #[] cap.toArray)),(8,sV (some ⟨go,0,none⟩) n n),(9,iV i),(16,iV n),(17,iV i),(29,iV n),(30,iV k)]) (fun _=>[])
   (fun k U V=>k<=n/\Bag V [⟨.slice (some ⟨h,0,none⟩) n n,34,1,Cc (K6 ((gM X i).map Ae) n k)⟩,⟨.slice (some ⟨go,0,none⟩) n n,46,1,es.set i (.slice (some ⟨h,0,none⟩) n n)⟩]) (fun k=>n-k) 0 ⟨oV,C⟩ ?_
  clear C;rintro J2 k a9 u5 m5 l5 ⟨hk,N⟩;by_cases t:k<n
  ·refine G.lT k n<|G.call0 f (.int .i64 i::.int .i64 k::cap) kV O (hf i k g t u5 (l2.trans l5)) ?_;intro v6 u6 l6 k6;obtain⟨b6,a6,n6,c6,ai,ah,al,aj,rfl⟩:=k6.opn;refine G.c call71 (Uf (ht.mono ((l2.trans l5).trans l6)) k6 (ae i k g t)) ?_;rintro v7 u7 l7 rfl;refine G.nF 0 0<|G.a go 0 n n i 1 g<|G.lM none go (0+i*1) _ (a4 N)<|G.a h 0 n n k 1 t ?_;obtain⟨mr,F,T⟩:=N.focus 0 rfl;refine G.storeA 1 mr _ h n n k (.string (mkS (Ae (en X i k)))) kV F (by rw[Cb,An1 (m i g) hk];exact t) rfl rfl ?_;intro m8 af;have e8:(Cc (K6 ((gM X i).map Ae) n k)).set k (.string (mkS (Ae (en X i k))))=Cc (K6 ((gM X i).map Ae) n (k+1)):=by
    rw[<-Aop (m i g) (a1 i k g t)];unfold Cc;rw[A2g]
   have ac:=T ⟨.slice (some ⟨h,0,none⟩) n n,34,1,Cc (K6 ((gM X i).map Ae) n (k+1))⟩ m8 (by rw[<-e8];exact af);exact G.i k<|G.b (a9 (k+1) _ _ _ cV ((l5.trans l6).trans l7) ⟨oV,ac⟩ oV)
  obtain rfl:k=n:=oV;refine G.lF k k ?_;obtain⟨mo,F,mq,E,ak⟩:=N;have e9:K6 ((gM X i).map Ae) k k=(gM X i).map Ae:=by unfold K6;rw[A4i,A42,A1x,A1j (by rw[m i g];omega)]
  rw[e9]at F;refine G.give mo _ _ kV F (fun _=>.inl rfl) ?_;intro u6 l6 ab;refine G.i i<|G.b (hJ (i+1,es.set i (.slice (some ⟨h,0,none⟩) k k)) _ _ _ cV ((l2.trans l5).trans l6) ⟨dV,by dsimp only;rw[A21];exact P,?_,mq,E,trivial⟩ dV);intro j hj;dsimp only;by_cases a2:i=j
  ·subst a2;exact⟨_,_,a5,ab⟩
  obtain⟨a,c,H,W⟩:=Q j oV;exact⟨a,c,by rw[A1z,if_neg a2];exact H,Ac.mono W (l5.trans l6)⟩
 obtain rfl:i=n:=oV;refine G.lF i i ?_;obtain⟨mb,Z,_⟩:=Z;refine G.give mb es _ kV Z (fun _=>.inl rfl) ?_;intro u3 l3 aa;refine G.drop PH.mt kV (PH.mt_le _)<|G.r (.tuple #[.slice (some ⟨go,0,none⟩) i i,.int .i64 0]) ⟨rfl,_,rfl,es,aa,by rw[P,A3,L.1],fun j r hj=>?_⟩;obtain⟨a3,e⟩:=A05.1 hj;have R:j<i:=by rw[A3,L.1]at a3;exact a3
 obtain⟨a,c,H,W⟩:=Q j R;have hr:r=(gM X j).map Ae:=by
  rw[<-e];have ad:j<X.length:=by rw[L.1];exact R
  simp only[Cv,A3v];rw[Ch ad]
 have a7:r.length=i:=by rw[hr,m j R]
 exact⟨a,c,by rw[a7];exact H,by rw[a7,hr];exact Ac.mono W l3⟩
def Po {u:PH}{g off:Nat}{t:TypeId}{fr:Nat×Nat}(h:u g=some (.cells cs t fr))(e:∀ i y,v.cells[i]?=some y->cs[off+i]?=some y):ElP u g off v:=fun i y j=>⟨cs,t,fr,h,e i y j⟩
def G2 (h:v.cells = #[v])(g:cs[k]?=some v):∀ i y,v.cells[i]?=some y->cs[k+i]?=some y:=fun i y e=>by
 rw[h]at e
 match i,e with
 |0,e=>simp at e;subst e;exact g
def Awo {u:PH}{t W T n c0 g pn pc on oc i k D:Nat}{H a0 pa ao:Option Addr}{fv F:N3}{a2:Bool}{S:List (List Int)}{z:Int}
 (hr:u t=some (.cells #[.slice H n g,.slice pa pn pc,.bool fv.b,.slice fv.a fv.n fv.c,.bool a2] 192 (0,0))) (ha:u W=some (.cells #[.slice a0 n c0] 45 (0,0)))
 (hg:u T=some (.cells #[.bool F.b,.slice F.a F.n F.c,.slice ao on oc] 187 (0,0))) (hS:Nl u (.slice H n g) S) (L:E8 n (n+n) S) (hV:Bi u (nv fv) z) (hD:Bi u (nv F) (D:Int))
 (h1:nl (enZ S i (n+k)).natAbs<=1000000000) (h2:nl z.natAbs<=1000000000) (h3:nl D<=2) (hz:z≠0) (hi:i<n) (hk:k<n) (hn:n<=1000) :
 Fn0 prog 124 [.int .i64 i,.int .i64 k,.pointer (some ⟨t,0,none⟩),.pointer (some ⟨W,0,none⟩),.pointer (some ⟨T,0,none⟩)] u fun r u'=>Bg u' r (Rat.divInt (enZ S i (n+k)*(D:Int)) z):=by
 have C:i<S.length:=by rw[L.1];exact hi
 have Z:S[i]?=some S[i]:=A01 C;have Y:S[i].length=n+n:=by have:=L.2 i hi;rwa[Xj C]at this
 obtain⟨h,E,a4,rfl,K,m⟩:=LP.at hS Z;obtain⟨a3,U,rfl⟩:=LP.opn m;rw[Y]at m K;obtain⟨I,R,a5,rfl,X,J⟩:=LP.at m (j:=n+k) (x:=enZ S i (n+k)) (by
  unfold enZ;rw[Xj C,Ol oV];exact A01 oV)
 obtain⟨V,rfl⟩:=J.opN;have O:nl ((D:Int)).natAbs<=2:=h3;refine Fn0.o func124<|G.f 192 t 0 0 0<|G.lU none t (0+0) (.slice (some ⟨h,E,none⟩) n g) (Po hr (G2 rfl rfl))<|G.a h E n g i 1 hi<|G.lU none h (E+i*1) _ K<|G.lU none W 0 (.slice a0 n c0) (Po ha (G2 rfl rfl))<|G.p n k (n+k:Nat)<|G.a I R (n+n) U (n+k) 2 oV<|G.lU (some 2) I (R+(n+k)*2) (nv V) X<|G.f 187 T 0 0 0<|G.lU (some 2) T (0+0) (nv F) (Po hg fun j y e=>by
  match j,e with
  |0,e=>simpa[nv,Value.cells] using e
  |1,e=>simpa[nv,Value.cells] using e) ?_
 refine G.f 192 t 0 2 2<|G.lU (some 2) t (0+2) (nv fv) ((Po hr fun j y e=>by
  match j,e with
  |0,e=>simpa[nv,Value.cells] using e
  |1,e=>simpa[nv,Value.cells] using e:ElP u t (0+2) (nv fv))) ?_
 refine G.c call126 (Ea J hD (A04 h1 oV) (A04 O oV)) ?_;intro aa a8 a1 P;obtain⟨a6,rfl⟩:=P.opN;have N:nl (enZ S i (n+k)*(D:Int)).natAbs<=2*1000000000:=Bx h1 (A04 O oV);refine G.c call125 (Q6 P (hV.mono a1) (A04 N oV) (A04 h2 oV) hz) ?_;intro ab a9 a7 Q;obtain⟨x1,x2,x3,x4,x5,x6,x7,x8,rfl⟩:=Q.opn;exact G.r (.agg #[.bool x1,.slice x2 x3 x4,.bool x5,.slice x6 x7 x8]) ⟨rfl,Q⟩
end
section
variable {A:List (List Rat)}{D i:Nat}
def P3 (k i:Nat):List Int:=(List.range k).map fun t=>if i=t then 1 else 0
def Ahb (k i:Nat):P3 (k+1) i=P3 k i++[if i=k then 1 else 0]:=by unfold P3;rw[A5d,A1i];rfl
def Oq (D:Nat)(A:List (List Rat))(i k:Nat):Int:=gZ (Bp D (gM A i)) k
def Axn {l:List Int}{n:Nat}(h:l.length=n):(List.range n).map (gZ l)=l:=by
 refine A5l (by simp[h]) fun i g e=>?_;rw[A3v,List.getElem_range,Ol e]
def Aud (h:Sq A)(D:Nat)(hi:i<A.length):gMZ (Iu A.length (Oq D A)) i=Bp D (gM A i)++P3 A.length i:=by
 rw[Sm hi,List.range_add,A1i]
 congr 1
 ·rw[A41 (g:=gZ (Bp D (gM A i))) fun k e=>by rw[if_pos (A6q.1 e)];rfl];exact Axn (by unfold Bp;rw[A03,Ch hi,h.len hi])
 unfold P3;rw[A9h];refine A41 fun k e=>?_;show (if A.length+k<A.length then _ else _)=_;rw[if_neg oV,show A.length+k-A.length=k by omega]
def Ak4 (j:Sq A)(g:∀ r∈A,∀ q∈r,q.den ∣ D){i k:Nat}(hi:i<A.length)(h:k<A.length):en A i k*(D:Rat)=Oq D A i k:=by
 have e:k<(gM A i).length:=by rw[Ch hi,j.len hi];exact h
 unfold Oq;rw[Wf e];unfold en;exact (Aem (g _ (Abw hi) _ (Xr e))).symm
def Avg (z:Sq A)(hT:∀ r∈A,∀ q∈r,Th q)(t:D ∣ 21600):SzZ (Iu A.length (Oq D A)) 2:=fun i j=>by
 refine nlM ?_;have key:∀ a b,a<A.length->b<A.length->(Oq D A a b).natAbs<=3000000000000*21600:=fun a b g u=>by
  have h:b<(gM A a).length:=by rw[Ch g,z.len g];exact u
  unfold Oq;rw[Wf h,A26,A1s];have m:D/(gR (gM A a) b).den<=21600:=A04 (A3u _ _) (A48 oV t);exact A25 (hT _ (Abw g) _ (Xr h)).num m
 by_cases hi:i<A.length
 ·have:=Ald (n:=A.length) (Z:=Oq D A) (M:=3000000000000*21600) key oV i hi j;omega
 have:enZ (Iu A.length (Oq D A)) i j=0:=by
  unfold enZ;have e:gMZ (Iu A.length (Oq D A)) i = []:=by unfold gMZ;rw[A02,A1v (by simp[Iu];omega)];rfl
  rw[e];rfl
 rw[this];omega
def Auu (n D:Nat)(s:BZ):List (List Rat):=sqL n fun j k=>Rat.divInt (enZ s.X j (n+k)*(D:Int)) s.v
def Atl {u:PH}{v:Value}{A:List (List Rat)}(ht:Hx u)(h:C7 u v (Cv A))(hs:Sq A)(h0:0<A.length)(hT:∀ r∈A,∀ q∈r,Th q)(hk:Xu A.length (en A))
 (hX:∀ X,Rec A.length A.length X->Fe A.length (en A) (en X)->∀ r∈X,∀ x∈r,Tx x) :
 Fn0 prog 53 [v] u fun r u'=>∃ X lv,r=.tuple #[lv,.int .i64 0]/\Rec A.length A.length X/\Fe A.length (en A) (en X)/\C7 u' lv (Cv X):=by
 have bv:=fun (v:Value) (hv:C7 u v (Cv A))=>Awb hv hs;have b3:∀ r∈A,∀ q∈r,Tx q:=fun r hr q hq=>(hT r hr q hq).tx;have V:=Asd hT;have a3:=hs.le;have ay:∀ r∈A,r.length<=12:=fun r hr=>by rw[hs.row r hr];exact a3
 obtain⟨a0,c0,rfl⟩:=h.opn;rw[A3]at h⊢;refine Fn0.o func53<|G.c call118 (bv _ h) ?_;rintro v1 u1 l1 rfl;refine G.nF 0 0<|G.c call119 (Aie (N:=12) (K:=17) (ht.mono l1) (h.mono l1) b3 a3 ay oV oV oV V.den V.pos V.nl V.dig) ?_;rintro v3 u3 l3 rfl;have bd:=l1.trans l3;refine G.callO _ _ kV call120 (Akc (h.mono bd) b3 oV (fun r hr=>by have:=ay r hr;omega) V.den V.pos V.nl) ?_;rintro v6 u6 m6 l6 ⟨D,F,a6,c6,ac,bh,b0,bi,rfl,bj,aq,W⟩ _;rw[By];have c1:=bd.trans l6;have ar:=Vu (n:=A.length) (Z:=Oq D A);have T:ac.length=A.length:=by rw[aq.1];simp
 obtain⟨go,co,eo⟩:=W.ptr 0 rfl (by intro e;simp only[oN,A6c]at e;rw[e]at T;simp at T;omega);simp only[oN,A03,T,Value.slice.injEq,true_and]at eo;obtain⟨rfl,rfl⟩:=eo;have bo:∀ i,i<A.length->gMZ (A.map (Bp D)) i=Bp D (gM A i):=fun i hi=>by rw[Xj (by simpa using hi),A3v,Ch hi]
 have bp:∀ i,i<A.length->(Bp D (gM A i)).length=A.length:=fun i hi=>by unfold Bp;rw[A03,Ch hi,hs.len hi]
 have az:∀ (m:List (Value×List Value)) (i:Nat) (r:Value×List Value) (u' m':PH) (k:Nat),m.length=A.length->m[i]?=some r->Bag m' (oN (.slice (some ⟨go,0,none⟩) A.length c6) m::m.map C3)->AtP Bi u' r.2 (Bp D (gM A i)++P3 k i)->i<A.length ->
  ∃ gi ci I,r=(.slice (some ⟨gi,0,none⟩) (A.length+k) ci,I)/\I.length=A.length+k:=by
  rintro m i ⟨vi,I⟩ u' m' k ay a4 t a8 hi;have a9:I.length=A.length+k:=by rw[a8.1,A1d,bp i hi];simp[P3]
  obtain⟨gi,ci,e⟩:=t.ptr (i+1) (x:=C3 (vi,I)) (by simp[a4]) (by intro e;simp only[C3]at e;rw[e]at a9;simp at a9;omega);simp only[C3]at e;rw[a9]at e;subst e;exact⟨gi,ci,I,rfl,a9⟩
 refine G.l (ι:=Nat×List (Value×List Value)) (fun i=>[(1,.p 0 0),(5,.p 6002 0),(21,iV A.length),(22,iV i.1)])
  (fun _=>[(0,⟨45,[sV a0 A.length c0]⟩),(6002,⟨187,[bV F.b,sV F.a F.n F.c,sV (some ⟨go,0,none⟩) A.length c6]⟩)])
  (fun i u' m'=>i.1<=A.length/\i.2.length=A.length/\(∀ j r,i.2[j]?=some r->AtP Bi u' r.2 (Bp D (gM A j)++if j<i.1 then P3 A.length j else []))/\Bag m' (oN (.slice (some ⟨go,0,none⟩) A.length c6) i.2::i.2.map C3)) (fun i=>A.length-i.1) (0,ac)
  ⟨oV,T,fun j r H=>by
   dsimp only at H;have ad:j<A.length:=by
    obtain⟨q1,_⟩:=A05.1 H;omega
   rw[if_neg oV,A1x,<-bo j ad];exact aq.2 j r H,W⟩ ?_
 clear W aq T;rintro J ⟨i,m⟩ hJ u7 m7 l7 ⟨hi,a1,hQ,t⟩;simp only at hi a1 hQ t hJ;by_cases av:i<A.length
 ·refine G.lT i A.length<|G.l (ι:=Nat×List (Value×List Value)) (fun k=>[(1,.p 0 0),(5,.p 6002 0),(6,iV i),(21,iV A.length),(22,iV i),(26,iV A.length),(27,iV k.1)])
   (fun _=>[(0,⟨45,[sV a0 A.length c0]⟩),(6002,⟨187,[bV F.b,sV F.a F.n F.c,sV (some ⟨go,0,none⟩) A.length c6]⟩)])
   (fun k u' m'=>k.1<=A.length/\k.2.length=A.length/\(∀ j r,k.2[j]?=some r->AtP Bi u' r.2 (Bp D (gM A j)++if j<i then P3 A.length j else if j=i then P3 k.1 j else []))/\Bag m' (oN (.slice (some ⟨go,0,none⟩) A.length c6) k.2::k.2.map C3)) (fun k=>A.length-k.1) (0,m)
   ⟨oV,a1,fun j r H=>by
    have:=hQ j r H;dsimp only;by_cases e:j<i
    ·rw[if_pos e]at this⊢;exact this
    rw[if_neg e]at this⊢;split
    ·exact this
    exact this,t⟩ ?_
  clear hQ t a1;rintro J2 ⟨k,m⟩ b1 u8 m8 l8 ⟨bq,a2,hQ,t⟩;simp only at bq a2 hQ t b1;by_cases cc:k<A.length
  ·refine G.lT k A.length ?_;obtain⟨r,a4⟩:∃ r,m[i]?=some r:=⟨_,A01 oV⟩;have a8:=hQ i r a4;rw[if_neg (Nat.lt_irrefl _),if_pos rfl]at a8;obtain⟨gi,ci,I,rfl,a9⟩:=az m i r u8 m8 k a2 a4 t a8 av;have bt:(oN (.slice (some ⟨go,0,none⟩) A.length c6) m::m.map C3)[i+1]?=some (C3 (.slice (some ⟨gi,0,none⟩) (A.length+k) ci,I)):=by simp[a4]
   have bs:ElP m8 go (0+i*1) (.slice (some ⟨gi,0,none⟩) (A.length+k) ci):=t.el 0 (x:=oN _ _) rfl rfl (by show (m.map (·.1))[i]?=_;rw[A1a,a4];rfl);refine G.c call121 (Kf (z:=0) oV oV) ?_;intro v9 u9 l9 k9;obtain⟨f9,rfl⟩:=k9.opN;refine G.join (ι:=N3) (.bool false) (fun f=>[(1,.p 0 0),(5,.p 6002 0),(6,iV i),(8,.p 13001 0),(21,iV A.length),(22,iV i),(26,iV A.length),(27,iV k)])
    (fun f=>[(0,⟨45,[sV a0 A.length c0]⟩),(6002,⟨187,[bV F.b,sV F.a F.n F.c,sV (some ⟨go,0,none⟩) A.length c6]⟩),(13001,⟨141,[bV f.b,sV f.a f.n f.c]⟩)])
    (fun f u' m'=>m'=m8/\Bi u' (nv f) (if i=k then 1 else 0)) (fun _=>kV) kV ?tail ?way
   case way =>
    intro ab;by_cases b4:i=k
    ·refine G.eT i k<|G.c call121 (Kf (z:=1) oV oV) ?_;intro cj be U a5;obtain⟨C,rfl⟩:=a5.opN;exact ab C _ _ _ kV cV U ⟨rfl,by rw[if_pos b4];exact a5⟩
    refine G.eF i k ?_;exact ab f9 _ _ _ kV cV (PH.le_refl _) ⟨rfl,by rw[if_neg b4];exact k9⟩
   rintro C be ce U ⟨rfl,a5⟩;refine G.a go 0 A.length c6 i 1 av<|G.lM none go (0+i*1) _ bs<|G.B 141 2 32 (.agg #[.bool false,.slice none 0 0]) [nv C] (a5.ok) ?_;intro bg c4 a7 bf;obtain⟨mm,b9,b6⟩:=t.focus (i+1) bt;rw[Ack]at b9;refine G.append 141 2 32 (.agg #[.bool false,.slice none 0 0]) mm I [nv C] (.slice (some ⟨gi,0,none⟩) (A.length+k) ci) bg 0 1 1 kV rfl rfl oV b9 bf (a5.ok) rfl oV oV oV ?_;intro c5 c2 al;have ah:=b6 (C3 (c5,I++[nv C])) c2 al;obtain⟨L,O,rfl⟩:=al.shape;rw[A2j]at ah;obtain⟨mo,ba,aw⟩:=ah.focus 0 rfl;rw[Akm]at ba;refine G.a go 0 A.length c6 i 1 av<|G.storeA 1 mo _ go A.length c6 i (.slice L (I++[nv C]).length O) kV ba gV rfl rfl ?_;intro c3 am;rw[show (m.map (·.1)).set i (Value.slice L (I++[nv C]).length O)=(m.set i (Value.slice L (I++[nv C]).length O,I++[nv C])).map (·.1) by rw[A2g]]at am;have ai:=aw (oN (.slice (some ⟨go,0,none⟩) A.length c6) (m.set i (Value.slice L (I++[nv C]).length O,I++[nv C]))) c3 am;rw[A2p,<-A2g]at ai;refine G.i k<|G.b (b1 (k+1,m.set i (Value.slice L (I++[nv C]).length O,I++[nv C])) _ _ _ cV (((l8.trans l9).trans U).trans a7) ⟨dV,by dsimp only;rw[A21];exact a2,?_,ai⟩ dV);have ao:=(l9.trans U).trans a7;intro j r H;dsimp only at H⊢;rw[A1z]at H;by_cases au:i=j
   ·subst au;rw[if_pos rfl,if_pos oV]at H;cases H;rw[if_neg (Nat.lt_irrefl _),if_pos rfl,Ahb,<-A2k];exact (a8.mono (fun _ _ k=>k.mono ao)).snoc (a5.mono a7)
   rw[if_neg au]at H;have Q:=(hQ j r H).mono (fun _ _ k=>k.mono ao);by_cases aa:j<i
   ·rw[if_pos aa]at Q⊢;exact Q
   rw[if_neg aa,if_neg (Ne.symm au)]at Q⊢;exact Q
  obtain rfl:k=A.length:=oV;refine G.lF A.length A.length<|G.i i<|G.b (hJ (i+1,m) _ _ _ cV (l7.trans l8) ⟨dV,a2,?_,t⟩ dV);intro j r H;have Q:=hQ j r H;dsimp only;by_cases aa:j<i
  ·rw[if_pos aa]at Q;rw[if_pos oV];exact Q
  rw[if_neg aa]at Q;by_cases e:j=i
  ·rw[if_pos e]at Q;rw[if_pos oV];exact Q
  rw[if_neg e]at Q;rw[if_neg oV];exact Q
 clear hJ;obtain rfl:i=A.length:=oV;refine G.lF A.length A.length ?_;have bl:NAt u7 m (Iu A.length (Oq D A)):=⟨by rw[a1,ar.1],fun j r H=>by
  have ad:j<A.length:=by
   obtain⟨q1,_⟩:=A05.1 H;omega
  have Q:=hQ j r H;rw[if_pos ad]at Q;rw[Aud hs D ad];exact Q⟩
 clear hQ az;refine G.giveP (ma:=m7) (sm:=PH.mt) kV (by funext g;unfold PH.or;cases m7 g<;>rfl) (fun g=>.inr rfl) (fun g=>.inl rfl) ?_
 intro be U b5;have b2:=Am1 t (bl.mono U) b5;have b8:=Avg (D:=D) hs hT b0;refine G.c call122 (Avp b2 ar oV oV h0 oV b8 oV (Az1 a3)) ?_;rintro ck c4 a7 ⟨L,O,pa,pc,fv,rfl,hS,hV⟩;obtain⟨bk,bm,bz,bn⟩:=Au4 (Z:=Oq D A) hk bh fun i k hi hk=>Ak4 hs bi hi hk;obtain⟨bb,bc⟩:=Aow (n:=A.length) (w:=A.length+A.length) (E:=2) A.length 0 ⟨Iu A.length (Oq D A),[],1,false⟩ b8 (A04 (nl1 (n:=1) oV) (by show 1<=2;omega)) ar (A1t _);rw[A2w]at bb bc;clear a3;have a3:=hs.le;generalize Fm A.length A.length 0 ⟨Iu A.length (Oq D A),[],1,false⟩=s at *
 refine G.lF' s.P.length A.length (by rw[bk];omega) ?_;have an:=Az1 a3;have br:nl D<=2:=nlM (by have:=A48 oV b0;omega);have ap:=(bj.mono l7).mono (U.trans a7);refine G.pub 0 45 [.slice a0 A.length c0] kV kV ?_;intro ga c7 c8;refine G.pub 6002 187 [.bool F.b,.slice F.a F.n F.c,.slice (some ⟨go,0,none⟩) A.length c6] kV kV ?_;intro gt cb aj;refine G.pub 19005 192 [.slice L A.length O,.slice pa s.P.length pc,.bool fv.b,.slice fv.a fv.n fv.c,.bool s.odd] kV kV ?_;intro gr ca Y;generalize ae:((PH.mt.upd ga _).upd gt _).upd gr _=mm;have bw:gt≠ga:=fun e=>by subst e;rw[Ab]at aj;cases aj
 have b7:gr≠gt:=fun e=>by subst e;rw[Ab]at Y;cases Y
 have bu:gr≠ga:=fun e=>by subst e;rw[Ad _ _ b7,Ab]at Y;cases Y
 have e1:mm gr=some (.cells #[.slice L A.length O,.slice pa s.P.length pc,.bool fv.b,.slice fv.a fv.n fv.c,.bool s.odd] 192 (0,0)):=by rw[<-ae,Ab]
 have e2:mm gt=some (.cells #[.bool F.b,.slice F.a F.n F.c,.slice (some ⟨go,0,none⟩) A.length c6] 187 (0,0)):=by rw[<-ae,Ad _ _ (Ne.symm b7),Ab]
 have e3:mm ga=some (.cells #[.slice a0 A.length c0] 45 (0,0)):=by rw[<-ae,Ad _ _ (Ne.symm bu),Ad _ _ (Ne.symm bw),Ab]
 clear ae;refine G.giveP (ma:=mm) (sm:=PH.mt) kV (by funext g;unfold PH.or;cases mm g<;>rfl) (fun g=>.inr rfl) (fun g=>.inl rfl) ?_
 intro cg af R;have ak:Fe A.length (en A) (en (Auu A.length D s)):=fun i k hi hk=>by
  rw[<-bn i k hi hk];exact Ah fun j H=>by
   unfold Auu;rw[N6 H hk,A37,A3c,A2r]
 have ax:=Rh A.length fun j k=>Rat.divInt (enZ s.X j (A.length+k)*(D:Int)) s.v;have bx:=(((ht.mono c1).mono l7).mono (U.trans a7)).mono af;refine G.lU none ga 0 (.slice a0 A.length c0) (Po (R _ _ e3) (G2 rfl rfl))<|G.lU none ga 0 (.slice a0 A.length c0) (Po (R _ _ e3) (G2 rfl rfl))<|G.c call123 (Acd (f:=124) (cap:=[.pointer (some ⟨gr,0,none⟩),.pointer (some ⟨ga,0,none⟩),.pointer (some ⟨gt,0,none⟩)]) (X:=Auu A.length D s) bx ax oV (hX _ ax ak) call124 (fun i k hi hk u' hl=>by
  have Q:=Awo (u:=u') (i:=i) (k:=k) (hl _ _ (R _ _ e1)) (hl _ _ (R _ _ e3)) (hl _ _ (R _ _ e2)) (Nl.mono hS (af.trans hl)) bm (hV.mono (af.trans hl)) (ap.mono (af.trans hl)) (A04 (bb i (A.length+k)) an) (A04 bc an) br bz hi hk oV;have e9:en (Auu A.length D s) i k=Rat.divInt (enZ s.X i (A.length+k)*(D:Int)) s.v:=N6 hi hk;rw[e9];exact Q)) ?_
 rintro cl ch cd ⟨lv,rfl,ag⟩;obtain⟨la,lc,rfl⟩:=ag.opn;exact G.r (.tuple #[_,.int .i64 0]) ⟨rfl,_,_,rfl,ax,ak,ag⟩
end
section
section
variable {u:PH} {v:Value} {P:List Par} {C:CF} {q:Rat} {N:Nat}
def Aa5 (h:In N C)(J:N<=28873454400)(t:Fd q)(j:P.Nodup)(H:0<C.c)(e:∀ z,0<=Dh z P C)(g:P.length<=11):Sq (Eh C P q)/\(Eh C P q).length=P.length+1/\(∀ r∈Eh C P q,∀ x∈r,Th x)/\Xu (Eh C P q).length (en (Eh C P q)) /\
 ∀ X,Rec (Eh C P q).length (Eh C P q).length X->Fe (Eh C P q).length (en (Eh C P q)) (en X)->H6 P C q X/\∀ r∈X,∀ x∈r,Tx x:=by
 have n:=Rx (P:=P) (C:=C) (q:=q);have m:=Azc (P:=P) h J t.sixty;refine⟨At1 m g,n.1,m,by rw[n.1];exact Xx j H t.pos e,fun X I hi=>?_⟩;rw[n.1]at I hi;have E:=H6.of_right I hi;exact⟨E,E.txs h oV t j H e g⟩
def Avf (W:Hx u)(h:C7 u v (Cv (Eh C P q)))(m:In N C)(Q:N<=28873454400)(V:Fd q)(n:P.Nodup)(U:0<C.c)(e:∀ z,0<=Dh z P C)(j:P.length<=11) :
 Fn0 prog 53 [v] u fun r H=>∃ X g,r=.tuple #[g,.int .i64 0]/\H6 P C q X/\C7 H g (Cv X):=by
 obtain⟨I,Y,J,L,E⟩:=Aa5 m Q V n U e j;refine Fn0.weak (Atl W h I oV J L fun X t hi=>(E X t hi).2) ?_;rintro r H ⟨X,g,rfl,t,hi,O⟩;exact⟨X,g,rfl,(E X t hi).1,O⟩
end
section
variable {u:PH} {v cv:Value} {T:List (List UInt8×Nat)} {R:List Br} {F:List Al} {lab:Int} {C:CF} {K k N:Nat} {P:List Par} {q:Rat}
def Afc (P:List Par)(C:CF)(k:Nat)(q:Rat)(r:Value)(u:PH):Prop :=
 (∃ e:Int,(k=0/\e=12\/e=3/\k≠0/\11<P.length)/\r=.tuple #[Axc,.int .i64 e]) \/
  (k≠0/\P.length<=11/\∃ sv X b s c,r=.tuple #[sv,.int .i64 0]/\Ma u sv P X b s c q/\H9 P C q X b s c)
def Aaz (ht:Hx u)(h:Te u v cv T R F lab C K k P)(hq:Fd q)(Y:In N C)(hN:N<=28873454400)(Q:∀ z,0<=Dh z P C) :
 Fn0 prog 13 [v,cv,.string (mkS (Ae q))] u fun r u'=>Afc P C k q r u':=by
 have a5:=(Ahm ht h.w hq.w).giveAll;have O:=h.mom;have hK:=h.K;have a4:=fun (u':PH) (l:PH.le u u')=>Afd B7 B7 (h.cof.mono l) oV;obtain⟨xa,xc,xb,xd,xe,xf,rfl,_⟩:=id h.sch;obtain⟨a1,n1,c1,a2,n2,c2,rfl⟩:=id h.cof.opn;refine Fn0.o func13<|G.c call52 a5 ?_;rintro v1 u1 l1 ⟨u0,a7,a0,J,⟨e,rfl,he⟩|⟨hk,P',pa,pc,ya,yc,ra,rc,a6,H,g,rfl,hL,m,j⟩⟩
 ·refine G.nT' e 0 (by rcases he with ⟨h,_⟩|⟨h,_⟩<;>omega) ?_
  exact G.r (.tuple #[Axc,.int .i64 e]) ⟨rfl,.inl ⟨e,by
   rcases he with ⟨V,W⟩|⟨V,W,P',h3,h4⟩
   ·exact .inl ⟨W,V⟩
   refine .inr ⟨V,W,?_⟩;rw[h.prm.eq h3];exact h4,rfl⟩⟩
 cases h.prm.eq H;refine G.nF 0 0 ?_;have hM:C7 u1 (.slice ya (P.length+1) yc) (Cv (Eh C P q)):=V9 (v:=.bool true) j m J;obtain⟨m0,U,_⟩:=j.focus 0 rfl;rw[D6]at U;have hR:Cj u1 (.slice ra (P.length+1) rc) ((Yz C P).map Ae):=by
  unfold Cj Yz;rw[<-J7];exact U.list J
 have Z:=O.cpos hk;have a3:=H.1.nodup Et;refine G.c call53 (Avf (ht.mono l1) hM Y hN hq a3 Z Q g) ?_;rintro v2 u2 l2 ⟨X,lv,rfl,hS,E⟩;obtain⟨la,lc,L⟩:=id E.opn;rw[A3]at L;subst L;refine G.nF 0 0<|G.c call55 Aq2 ?_;rintro v3 u3 l3 rfl;refine G.c call55 Aq2 ?_;rintro v4 u4 l4 rfl;refine G.c call54 (a4 u4 (((l1.trans l2).trans l3).trans l4)) ?_;rintro v5 u5 l5 rfl;have n:=(l3.trans l4).trans l5;have I:(Yz C P).length=P.length+1:=Ag3;exact G.r (.tuple #[.agg #[.slice pa P.length pc,.slice la X.length lc,.slice ra (P.length+1) rc,.string (mkS (Ae (C.t (Ay B7 B7)))),.string (mkS (Ae C.c)),.string (mkS (Ae q))],.int .i64 0])
  ⟨rfl,.inr ⟨hk,g,_,X,Yz C P,C.t (Ay B7 B7),C.c,rfl,⟨pa,pc,la,lc,ra,rc,by rw[I],hL.mono (a0.trans (l2.trans n)),E.mono n,by rw[I];exact Ac.mono hR (l2.trans n)⟩,⟨hS,rfl,rfl,rfl⟩⟩⟩
end
end
section
variable {ts:List (List UInt8)}{v:Value}
def At2 {u:PH}{q:Rat}(h:Tx q):Fn0 prog 228 [.string (mkS (Ae q))] u fun v _=>v=.bool false:=by
 refine Fn0.o func228<|G.c call169 (Gu h) ?_;rintro j g e rfl;exact G.r (.bool false) ⟨rfl,rfl⟩
def Ue {u:PH}(h:Cj u v ts)(hT:∀ t∈ts,∃ q,t=Ae q/\Tx q)(j:ts.length<=1000):Fn0 prog 177 [v] u fun r _=>r=.bool true:=by
 obtain⟨a,c,rfl⟩:=Ac.opn h;refine Fn0.o func177<|G.c call167 (Lc (fid:=228) h oV call228 (fun t g m _=>?_)) ?_
 ·obtain⟨q,rfl,e⟩:=hT t g;exact At2 e
 rintro C z l2 rfl;exact G.r (.bool true) ⟨rfl,rfl⟩
def Arw {e:List Rat}(h:∀ q∈e,Tx q):∀ t∈e.map Ae,∃ q,t=Ae q/\Tx q:=fun t j=>by
 obtain⟨q,g,rfl⟩:=A1b.1 j;exact⟨q,rfl,h q g⟩
def At4 {u:PH}(h:Cj u v ts)(hT:∀ t∈ts,∃ q,t=Ae q/\Tx q)(e:ts.length<=1000):Fn0 prog 178 [v] u fun r _=>r=.bool false:=by
 have g:=Ue h hT e;obtain⟨a,c,rfl⟩:=Ac.opn h;refine Fn0.o func178<|G.c call177 g ?_;rintro z m j rfl;exact G.r (.bool false) ⟨rfl,rfl⟩
def Amc {u:PH}{g n:Nat}(h:Cj u v ts)(j:ts.length=n)(e:u g=some (.cells #[.int .i64 n] 3 (0,0))):Fn0 prog 176 [v,.pointer (some ⟨g,0,none⟩)] u fun r _=>r=.bool false:=by
 obtain⟨a,c,rfl⟩:=Ac.opn h;rw[Cb,j];exact Fn0.o func176<|G.lU none g 0 (.int .i64 n) (Po e (G2 rfl rfl))<|G.nF n n<|G.r (.bool false) ⟨rfl,rfl⟩
section
variable {u:PH} {pa xa ra a1 a2 a3:Option Addr} {n pc xc rc n1 c1 n2 c2 n3 c3:Nat} {lab:Int} {X:List (List Rat)} {b:List Rat} {s c q:Rat}
def stV (pa:Option Addr)(n pc:Nat)(xa:Option Addr)(xc:Nat)(ra:Option Addr)(rc:Nat)(s c q:Rat)(a1:Option Addr)(n1 c1:Nat)(a2:Option Addr)(n2 c2:Nat)(a3:Option Addr)(n3 c3:Nat)(lab:Int):Value :=
 .agg #[.slice pa n pc,.slice xa (n+1) xc,.slice ra (n+1) rc,.string (mkS (Ae s)),.string (mkS (Ae c)),.string (mkS (Ae q)),.slice a1 n1 c1,.slice a2 n2 c2,.slice a3 n3 c3,.int .i64 lab]
def Xy (C:C7 u (.slice xa (n+1) xc) (Cv X))(t:X.length=n+1)(H:∀ r∈X,r.length=n+1)(K:n<=1000) :
 Fn0 prog 100 [stV pa n pc xa xc ra rc s c q a1 n1 c1 a2 n2 c2 a3 n3 c3 lab] u fun r _=>r=.bool true:=by
 refine Fn0.o func100<|G.i n<|G.pub 1005 3 [.int .i64 (n+1:Nat)] kV kV ?_;intro g E F;generalize e:PH.mt.upd g _=mm;have z:mm g=some (.cells #[.int .i64 (n+1:Nat)] 3 (0,0)):=by rw[<-e,Ab]
 clear e;refine G.giveP (ma:=mm) (sm:=PH.mt) kV (by funext g;unfold PH.or;cases mm g<;>rfl) (fun g=>.inr rfl) (fun g=>.inl rfl) ?_
 intro O l2 j;have h:=j _ _ z;refine G.lU none g 0 (.int .i64 (n+1:Nat)) (Po h (G2 rfl rfl))<|G.eT' (n+1:Nat) (n+1:Nat) rfl<|G.lU none g 0 (.int .i64 (n+1:Nat)) (Po h (G2 rfl rfl))<|G.eT' (n+1:Nat) (n+1:Nat) rfl<|G.c call175 (Gd (fid:=176) (cap:=[.pointer (some ⟨g,0,none⟩)]) (C.mono l2) (by rw[A3];omega) call176 (fun r m N x t I=>?_)) ?_
 ·obtain⟨y,J,rfl⟩:=Mg m;exact Amc I (by rw[A03,H y J]) (t _ _ h)
 rintro Q P L rfl;exact G.r (.bool true) ⟨rfl,rfl⟩
def Uw (H:C7 u (.slice xa (n+1) xc) (Cv X))(E:Cj u (.slice ra (n+1) rc) (b.map Ae))(N:X.length=n+1)(P:∀ r∈X,r.length=n+1)(J:b.length=n+1)(hT:∀ r∈X,∀ x∈r,Tx x)(I:∀ x∈b,Tx x)(Q:Tx s)(K:Tx c)(O:Tx q)(W:n<=900) :
 Fn0 prog 101 [stV pa n pc xa xc ra rc s c q a1 n1 c1 a2 n2 c2 a3 n3 c3 lab] u fun r _=>r=.bool true:=by
 refine Fn0.o func101<|G.c call177 (Ue E (Arw I) (by rw[A03];omega)) ?_;rintro v1 u1 T rfl;refine G.buildU 34 1 16 (.string (mkS [])) (Cc [Ae s,Ae c,Ae q]) kV (Gc _) rfl oV (by simp[Cc]) (by simp[Cc]) ?_;intro g2 V l2 C;have F:Cj V (.slice (some ⟨g2,0,none⟩) 3 3) [Ae s,Ae c,Ae q]:=⟨_,3,rfl,A08 _,fun j e L=>⟨g2,0,rfl,C j e L⟩⟩;refine G.c call177 (Ue F (fun t m=>by
  simp only[A1g,A11,or_false]at m;rcases m with rfl|rfl|rfl
  ·exact⟨_,rfl,Q⟩
  ·exact⟨_,rfl,K⟩
  exact⟨_,rfl,O⟩) mV) ?_
 rintro v3 u3 U rfl;have h:=(T.trans l2).trans U;refine G.c call175 (Gd (fid:=178) (cap:=[]) (H.mono h) (by rw[A3];omega) call178 (fun r g Z x N R=>?_)) ?_
 ·obtain⟨y,z,rfl⟩:=Mg g;exact At4 R (Arw (hT y z)) (by rw[A03,P y z];omega)
 rintro v4 u4 Y rfl;exact G.r (.bool true) ⟨rfl,rfl⟩
end
section
variable {u:PH} {xv yv:Value} {X:List (List Rat)} {x y:List Rat} {n:Nat}
def As6 (hx:F6 u xv x)(hy:F6 u yv y)(hl:x.length=n)(Q:y.length=n)(hn:n<=100){S S':Nat}(hS:SzL x S)(N:SzL y S')(a0:n*(S+S'+1)<=100000000) :
 Fn0 prog 69 [xv,yv] u fun r U=>Bg U r (Vq n (gR x) (gR y))/\Sz (Vq n (gR x) (gR y)) (1+n*(S+S'+1)):=by
 obtain⟨es,L,F⟩:=id hx;obtain⟨es',m,H⟩:=id hy;have hF:AtP Bg u es x:=F;have hF':AtP Bg u es' y:=H;clear F H;obtain⟨a,c,rfl⟩:=L.opn;obtain⟨a',Y,rfl⟩:=m.opn;rw[hF.1,hl]at L⊢;rw[hF'.1,Q]at m⊢;clear hx hy;refine Fn0.o func69<|G.c call128 (Wa (z:=0) oV oV) ?_;intro v1 u1 K T;rw[show ((0:Int):Rat)=0 from rfl]at T;obtain⟨f1,rfl⟩:=T.opF;refine G.l (ι:=Nat×F4) (fun i=>[(0,sV a n c),(1,sV a' n Y),(4,.p 0 0),(5,.p 1001 0),(9,iV n),(10,iV i.1)])
  (fun i=>[(0,⟨143,[bV false,sV none 0 0,bV false,sV none 0 0]⟩),(1001,⟨143,fc i.2⟩)])
  (fun i U m'=>i.1<=n/\Bg U (fv i.2) (Bb i.1 fun t=>gR x t*gR y t)/\Sz (Bb i.1 fun t=>gR x t*gR y t) (1+i.1*(S+S'+1))/\m'=PH.mt) (fun i=>n-i.1) (0,f1) ⟨oV,T,Q3.mono oV,rfl⟩ ?_
 rintro J ⟨i,f⟩ Z u2 m2 l2 ⟨hi,P,h,rfl⟩;simp only at hi P h Z;by_cases I:i<n
 ·refine G.lT i n ?_;have C:i<x.length:=oV;have E:i<y.length:=oV;have hb:i*(S+S'+1)<=n*(S+S'+1):=A13 _ hi;have a4:S+S'+1<=n*(S+S'+1):=Nat.le_mul_of_pos_left _ oV;obtain⟨e,he,k⟩:=hF.at (j:=i) C;obtain⟨e',O,R⟩:=hF'.at (j:=i) E;rw[<-Cu C]at k;rw[<-Cu E]at R;obtain⟨g,rfl⟩:=k.opF;obtain⟨g',rfl⟩:=R.opF;obtain⟨V,o1,rfl,e1⟩:=Ac.at' (L.mono (K.trans l2)) he;obtain⟨W,o2,rfl,e2⟩:=Ac.at' (m.mono (K.trans l2)) O;refine G.a V o1 n c i 4 I<|G.lU (some 4) V (o1+i*4) (fv g) e1<|G.a W o2 n Y i 4 I<|G.lU (some 4) W (o2+i*4) (fv g') e2 ?_;have s1:Sz (gR x i) S:=hS.at C;have s2:Sz (gR y i) S':=N.at E;have sm:=Fx s1 s2;refine G.c call130 (Ga (k.mono (K.trans l2)) (R.mono (K.trans l2)) (s1.mono oV) (s2.mono oV)) ?_;intro v3 u3 l3 k3;obtain⟨f3,rfl⟩:=k3.opF;refine G.c call129 (Lq (P.mono l3) k3 (h.mono oV) (sm.mono oV)) ?_;intro v4 u4 l4 k4;obtain⟨f4,rfl⟩:=k4.opF;refine G.i i<|G.b (Z (i+1,f4) _ _ _ cV ((l2.trans l3).trans l4) ⟨dV,by dsimp only;rw[Ds];exact k4,?_,rfl⟩ dV);dsimp only;rw[Ds];refine (R5 h sm).mono ?_;rw[Nat.succ_mul];omega
 obtain rfl:i=n:=oV;exact G.lF i i<|G.r (fv f) ⟨rfl,P,h⟩
end
end
section
variable {X:List (List Rat)}{n:Nat}{x:List Rat}
def Alj (X:List (List Rat)):Bool->Nat->Nat->Rat
 |false,i,k=>en X i k
 |true,i,k=>en X k i
def Io (n:Nat)(X:List (List Rat))(x:List Rat)(cb:Bool):List Rat:=(List.range n).map fun i=>Bb n fun k=>Alj X cb i k*gR x k
def F1 (n:Nat)(X:List (List Rat))(x:List Rat)(e:Bool):(Io n X x e).length=n:=by simp[Io]
def Xv {e:Bool}{i:Nat}(hi:i<n):gR (Io n X x e) i=Bb n fun k=>Alj X e i k*gR x k:=by
 unfold Io gR;rw[A02,A1a,A31 hi];rfl
def Aeu {u:PH}{av xv:Value}{n S:Nat}(R:Bool)(h:C7 u av (Cv X))(hX:Rec n n X)(hT:∀ r∈X,∀ y∈r,Tx y)(hx:F6 u xv x)(hl:x.length=n)(hn:n<=100)(hS:SzL x S)(ag:n*(400+S+1)<=100000000) :
 Fn0 prog 70 [av,xv,.bool R] u fun r u'=>F6 u' r (Io n X x R)/\SzL (Io n X x R) (1+n*(400+S+1)):=by
 have a2:∀ i k,i<n->k<n->Tx (en X i k):=fun i k hi hk=>by
  have F:i<X.length:=by rw[hX.1];exact hi
  have T:=hX.2 i hi;rw[Ch F]at T;have P:k<X[i].length:=oV;unfold en;rw[Ch F,Cu P];exact hT _ (A09 F) _ (A09 P)
 have V:∀ {u':PH} {a:Option Addr} {c:Nat} (i k:Nat),C7 u' (.slice a n c) (Cv X)->i<n->k<n->∃ b1 o1 b2 o2 c2,a=some ⟨b1,o1,none⟩/\ElP u' b1 (o1+i*1) (.slice (some ⟨b2,o2,none⟩) n c2)/\ElP u' b2 (o2+k*1) (.string (mkS (Ae (en X i k)))):=fun i k hM hi hk=>by
  have F:i<X.length:=by rw[hX.1];exact hi
  have T:=hX.2 i hi;rw[Ch F]at T;have P:k<X[i].length:=oV;obtain⟨b1,o1,b2,o2,c2,e0,e1,e2⟩:=hM.cell F P;refine⟨b1,o1,b2,o2,c2,e0,by rw[<-T];exact e1,?_⟩;unfold en;rw[Ch F,Cu P];exact e2
 obtain⟨es,hL,aa⟩:=id hx;have hF:AtP Bg u es x:=aa;obtain⟨a,c,rfl⟩:=h.opn;obtain⟨xa,xc,rfl⟩:=hL.opn;rw[A3,hX.1]at h⊢;rw[hF.1,hl]at hL⊢;clear hx aa;refine Fn0.o func70<|G.make 143 4 64 zF n kV rfl rfl oV oV oV ?_;rintro v1 m1 a5 ⟨aO,rfl⟩;obtain⟨go,rfl,_⟩:=a5.some';refine G.l (ι:=Nat×List Value) (fun i=>[(0,sV a n c),(1,sV xa n xc),(2,bV R),(7,sV (some ⟨go,0,none⟩) n n),(16,iV n),(17,iV i.1)]) (fun _=>[])
  (fun i u' m'=>i.1<=n/\i.2.length=n/\(∀ j,j<i.1->∃ e,i.2[j]?=some e/\Bg u' e (gR (Io n X x R) j)/\Sz (gR (Io n X x R) j) (1+n*(400+S+1)))/\Af PH.mt m' (.slice (some ⟨go,0,none⟩) n n) 143 4 i.2) (fun i=>n-i.1) (0,List.replicate n zF)
  ⟨oV,mV,fun j H=>absurd H (Nat.not_lt_zero _),a5⟩ ?_
 clear a5;rintro J ⟨i,a0⟩ hJ u2 m2 l2 ⟨hi,L,E,a1⟩;simp only at hi L E a1 hJ;by_cases m:i<n
 ·refine G.lT i n<|G.c call128 (Wa (z:=0) oV oV) ?_;intro v3 u3 l3 k3;rw[show ((0:Int):Rat)=0 from rfl]at k3;obtain⟨f3,rfl⟩:=k3.opF;refine G.a go 0 n n i 4 m<|G.storeA 4 PH.mt a0 go n n i (fv f3) kV a1 oV rfl rfl ?_;intro m4 a9;refine G.l (ι:=Nat×List Value) (fun k=>[(0,sV a n c),(1,sV xa n xc),(2,bV R),(7,sV (some ⟨go,0,none⟩) n n),(8,iV i),(16,iV n),(17,iV i),(24,sV xa n xc),(25,iV n),(26,iV k.1)]) (fun _=>[])
   (fun k u' m'=>k.1<=n/\k.2.length=n/\(∀ j,j<i->∃ e,k.2[j]?=some e/\Bg u' e (gR (Io n X x R) j)/\Sz (gR (Io n X x R) j) (1+n*(400+S+1)))/\(∃ f,k.2[i]?=some (fv f)/\Bg u' (fv f) (Bb k.1 fun t=>Alj X R i t*gR x t)/\Sz (Bb k.1 fun t=>Alj X R i t*gR x t) (1+k.1*(400+S+1)))/\Af PH.mt m' (.slice (some ⟨go,0,none⟩) n n) 143 4 k.2) (fun k=>n-k.1) (0,a0.set i (fv f3))
   ⟨oV,by dsimp only;rw[A21];exact L,fun j H=>by
    obtain⟨e,F,T,P⟩:=E j H;exact⟨e,by dsimp only;rw[A1z,if_neg oV];exact F,T.mono l3,P⟩,⟨f3,by dsimp only;rw[A1z,if_pos rfl,if_pos oV],k3,Q3.mono oV⟩,a9⟩ ?_
  clear E a1 a9 L;rintro J2 ⟨k,U⟩ a7 u5 m5 l5 ⟨hk,N,O,K,Q⟩;simp only at hk N O K Q a7;have a4:=(l2.trans l3).trans l5;by_cases C:k<n
  ·refine G.lT k n ?_;have a3:k<x.length:=oV;obtain⟨e,he,kx⟩:=hF.at (j:=k) a3;rw[<-Cu a3]at kx;obtain⟨g,rfl⟩:=kx.opF;have ab:=kx.mono a4;obtain⟨bx,ox,rfl,ex⟩:=Ac.at' (hL.mono a4) he;refine G.a bx ox n xc k 4 C<|G.lU (some 4) bx (ox+k*4) (fv g) ex ?_;obtain⟨b1,o1,b2,o2,c2,rfl,e1,e2⟩:=V i k (h.mono a4) m C;refine G.a b1 o1 n c i 1 m<|G.lU none b1 (o1+i*1) _ e1<|G.a b2 o2 n c2 k 1 C<|G.lU none b2 (o2+k*1) _ e2 ?_;cases R
   ·have hA:i<n:=m;obtain⟨fq,W,Y,I⟩:=K;have hb:k*(400+S+1)<=n*(400+S+1):=A13 _ hk;have ad:400+S+1<=n*(400+S+1):=Nat.le_mul_of_pos_left _ oV;refine G.a go 0 n n i 4 m<|G.lM (some 4) go (0+i*4) (fv fq) (Q.el W)<|G.c call133 (Gs (a2 i k m C)) ?_;intro v6 u6 l6 k6;obtain⟨f6,rfl⟩:=k6.opF;have s1:Sz (en X i k) 400:=(a2 i k m C).sz;have s2:Sz (gR x k) S:=hS.at a3;have sm:=Fx s1 s2;refine G.c call130 (Ga k6 (ab.mono l6) (s1.mono oV) (s2.mono oV)) ?_;intro v7 u7 l7 k7;obtain⟨f7,rfl⟩:=k7.opF;refine G.c call129 (Lq (Y.mono (l6.trans l7)) k7 (I.mono oV) (sm.mono oV)) ?_;intro v8 u8 l8 k8;obtain⟨f8,rfl⟩:=k8.opF;refine G.a go 0 n n i 4 m<|G.storeA 4 PH.mt U go n n i (fv f8) kV Q oV rfl rfl ?_;intro m9 a6;have Z:=(l6.trans l7).trans l8;refine G.i k<|G.b (a7 (k+1,U.set i (fv f8)) _ _ _ cV (l5.trans Z) ⟨dV,by dsimp only;rw[A21];exact N,?_,?_,a6⟩ dV)
    ·intro j H;obtain⟨e,F,T,P⟩:=O j H;exact⟨e,by dsimp only;rw[A1z,if_neg oV];exact F,T.mono Z,P⟩
    refine⟨f8,by dsimp only;rw[A1z,if_pos rfl,if_pos oV],by dsimp only;rw[Ds];exact k8,?_⟩;dsimp only;rw[Ds];refine (R5 I sm).mono ?_;rw[Nat.succ_mul];omega
   obtain⟨b3,o3,b4,o4,c4,e0,e3,e4⟩:=V k i (h.mono a4) C m;cases e0;refine G.a b1 o1 n c k 1 C<|G.lU none b1 (o1+k*1) _ e3<|G.a b4 o4 n c4 i 1 m<|G.lU none b4 (o4+i*1) _ e4 ?_;obtain⟨fq,W,Y,I⟩:=K;have hb:k*(400+S+1)<=n*(400+S+1):=A13 _ hk;have ad:400+S+1<=n*(400+S+1):=Nat.le_mul_of_pos_left _ oV;refine G.a go 0 n n i 4 m<|G.lM (some 4) go (0+i*4) (fv fq) (Q.el W)<|G.c call133 (Gs (a2 k i C m)) ?_;intro v6 u6 l6 k6;obtain⟨f6,rfl⟩:=k6.opF;have s1:Sz (en X k i) 400:=(a2 k i C m).sz;have s2:Sz (gR x k) S:=hS.at a3;have sm:=Fx s1 s2;refine G.c call130 (Ga k6 (ab.mono l6) (s1.mono oV) (s2.mono oV)) ?_;intro v7 u7 l7 k7;obtain⟨f7,rfl⟩:=k7.opF;refine G.c call129 (Lq (Y.mono (l6.trans l7)) k7 (I.mono oV) (sm.mono oV)) ?_;intro v8 u8 l8 k8;obtain⟨f8,rfl⟩:=k8.opF;refine G.a go 0 n n i 4 m<|G.storeA 4 PH.mt U go n n i (fv f8) kV Q oV rfl rfl ?_;intro m9 a6;have Z:=(l6.trans l7).trans l8;refine G.i k<|G.b (a7 (k+1,U.set i (fv f8)) _ _ _ cV (l5.trans Z) ⟨dV,by dsimp only;rw[A21];exact N,?_,?_,a6⟩ dV)
   ·intro j H;obtain⟨e,F,T,P⟩:=O j H;exact⟨e,by dsimp only;rw[A1z,if_neg oV];exact F,T.mono Z,P⟩
   refine⟨f8,by dsimp only;rw[A1z,if_pos rfl,if_pos oV],by dsimp only;rw[Ds];exact k8,?_⟩;dsimp only;rw[Ds];refine (R5 I sm).mono ?_;rw[Nat.succ_mul];omega
  obtain rfl:k=n:=oV;refine G.lF k k ?_;obtain⟨fq,W,Y,I⟩:=K;refine G.i i<|G.b (hJ (i+1,U) _ _ _ cV ((l2.trans l3).trans l5) ⟨dV,N,?_,Q⟩ dV);intro j H;dsimp only at H⊢;by_cases ae:j=i
  ·subst ae;rw[Xv m];exact⟨_,W,Y,I⟩
  exact O j oV
 obtain rfl:i=n:=oV;refine G.lF i i<|G.give PH.mt a0 _ kV a1 (fun _=>.inl rfl) ?_;intro u3 l3 ac;refine G.r (.slice (some ⟨go,0,none⟩) i i) ⟨rfl,⟨a0,ac,by rw[L,F1],fun j q H=>?_⟩,fun q hq=>?_⟩
 ·obtain⟨a8,e⟩:=A05.1 H;rw[F1]at a8;obtain⟨x1,F,T,_⟩:=E j a8;refine⟨x1,F,?_⟩;rw[<-e,<-Cu (by rw[F1];exact a8)];exact T.mono l3
 obtain⟨j,H,rfl⟩:=A3d.1 hq;have af:j<i:=by rw[F1]at H;exact H
 obtain⟨_,_,_,P⟩:=E j af;rwa[Cu H]at P
end
section
variable [Cl] [Co]
end
def Avx (L:List Par):A9 2 (L.map Ap):=fun x e=>by
 obtain⟨y,_,rfl⟩:=A1b.1 e;exact⟨rfl,A1o.1 rfl⟩
def Ag8 {u:PH}{v:Value}{L:List Par}(h:Ac u v 2 (L.map Ap))(h0:L≠[])(z:L.length<=1000000) :
 Ag prog 155 [v] u PH.mt fun t F n=>Af PH.mt n t 118 2 (L.map Ap):=by
 obtain⟨a,c,rfl⟩:=h.opn;have e:0<(L.map Ap).length:=by rw[A03];exact A4f.2 h0
 obtain⟨b,off,rfl,_⟩:=Ac.at' h (A01 e);refine Ag.o func155<|G.nilF 118 ⟨b,off,none⟩ (L.map Ap).length c kV<|G.build0 118 2 24 (.agg #[.int .i64 0,.string (mkS [])]) kV ?_;intro g C m;refine G.append 118 2 24 (.agg #[.int .i64 0,.string (mkS [])]) PH.mt [] (L.map Ap) (.slice (some ⟨g,0,none⟩) 0 0) b off (L.map Ap).length c kV rfl rfl oV m h.els (Avx L) rfl e gV gV ?_;intro H E j;obtain⟨a2,c2,rfl⟩:=j.shape;exact G.r _ j
section
def Al5 {u:PH}{v:Value}{ts:List (List UInt8)}(h:Cj u v ts)(h0:ts≠[])(n:ts.length<=1000000) :
 Ag prog 156 [v] u PH.mt fun z H t=>Af PH.mt t z 34 1 (Cc ts):=by
 obtain⟨a,c,rfl⟩:=Ac.opn h;have e:0<(Cc ts).length:=by rw[Cb];exact A4f.2 h0
 obtain⟨b,off,rfl,_⟩:=Ac.at' h (A01 e);have C:(Cc ts).length<=1000000:=by rw[Cb];exact n
 refine Ag.o func156<|G.nilF 34 ⟨b,off,none⟩ (Cc ts).length c kV<|G.build0 34 1 16 (.string (mkS [])) kV ?_;intro g E m;refine G.append 34 1 16 (.string (mkS [])) PH.mt [] (Cc ts) (.slice (some ⟨g,0,none⟩) 0 0) b off (Cc ts).length c kV rfl rfl oV m (Ac.els h) (Gc ts) rfl e gV gV ?_;intro I F j;obtain⟨a2,c2,rfl⟩:=j.shape;exact G.r _ j
section
variable {u:PH} {pa xa ra:Option Addr} {pc xc rc:Nat} {P:List Par} {X:List (List Rat)} {b:List Rat} {t1 t2 t3:List UInt8}
def Yg (hP:Ac u (.slice pa P.length pc) 2 (P.map Ap))(hX:C7 u (.slice xa X.length xc) (Cv X))(hR:Cj u (.slice ra b.length rc) (b.map Ae))(h0:P≠[])(a7:b≠[])(af:∀ r∈X,r≠[])(aj:P.length<=1000)(ak:X.length<=1000)(ag:∀ r∈X,r.length<=1000)(al:b.length<=1000) :
 Ag prog 86 [.agg #[.slice pa P.length pc,.slice xa X.length xc,.slice ra b.length rc,.string (mkS t1),.string (mkS t2),.string (mkS t3)]] u PH.mt fun r u' m' =>
  ∃ (L:Option Addr) (N:Nat) (O:Option Addr) (Q:Nat) (z:Option Addr) (C:Nat) (e:List (Value×List Value)),r=.agg #[.slice L P.length N,.slice O X.length Q,.slice z b.length C,.string (mkS t1),.string (mkS t2),.string (mkS t3)] /\
   Ac u' (.slice L P.length N) 2 (P.map Ap)/\e.map (·.2)=X.map txV/\Bag m' (Bu (.slice z b.length C,txV b)::oT (.slice O X.length Q) e::e.map Bu):=by
 refine Ag.o func86<|G.callO _ _ kV call155 (Ag8 hP h0 oV) ?_;intro v1 u1 m1 l1 E _;rw[By];obtain⟨L,N,rfl⟩:=E.shape;rw[A03]at E⊢;refine G.callO _ _ kV call156 (Al5 (Ac.mono hR l1) (by simpa using a7) (by rw[A03];omega)) ?_;intro v2 u2 m2 l2 I ac;have j:=I.join ac;obtain⟨z,C,rfl⟩:=I.shape;rw[Cb,A03]at j⊢;obtain⟨sm,ah,a4,a1⟩:=j.split;refine G.giveP (ma:=m1) (sm:=sm) kV ah a4 (fun g=>.inl rfl) ?_;intro u3 l3 ae;have a2:Ac u3 (.slice L P.length N) 2 (P.map Ap):=by
  have:=E.list ae;simpa using this
 have U:Bag sm (Bu (.slice z b.length C,txV b)::oT (.slice none 0 0) []::([]:List (Value×List Value)).map Bu):=⟨PH.mt,by rw[D6,J7];exact a1,PH.mt,Af.nil _ _ _,trivial⟩;have a3:=hX.mono ((l1.trans l2).trans l3);refine G.l (ι:=Nat×(Option Addr×Nat)×List (Value×List Value)) (fun i=>[(2,.p 1 0),(3,.p 1001 0),(17,sV xa X.length xc),(18,iV X.length),(19,iV i.1)])
  (fun i=>[(1,⟨48,[sV none 0 0,sV none 0 0,sV none 0 0,tV [],tV [],tV []]⟩),(1001,⟨48,[sV L P.length N,sV i.2.1.1 i.1 i.2.1.2,sV z b.length C,tV t1,tV t2,tV t3]⟩)])
  (fun i u' m'=>i.1<=X.length/\i.2.2.map (·.2)=(X.take i.1).map txV/\Bag m' (Bu (.slice z b.length C,txV b)::oT (.slice i.2.1.1 i.1 i.2.1.2) i.2.2::i.2.2.map Bu)) (fun i=>X.length-i.1) (0,(none,0),[]) ⟨oV,rfl,U⟩ ?_
 clear U a1 I j E;rintro J ⟨i,⟨O,Q⟩,e⟩ hJ u4 m4 l4 ⟨hi,h,m⟩;simp only at hi h m hJ;have Y:e.length=i:=by have:=congrArg List.length h;simp at this;omega
 by_cases V:i<X.length
 ·refine G.lT i X.length ?_;obtain⟨r,K⟩:∃ r,X[i]?=some r:=⟨_,A01 V⟩;have Z:=A1k K;have ai:X.take (i+1)=X.take i++[r]:=by rw[A1n,K];rfl
  obtain⟨bx,ox,a5,c5,rfl,e5,s5⟩:=(a3.mono l4).row (Dw K);rw[A03]at e5;refine G.a bx ox X.length xc i 1 V<|G.lU none bx (ox+i*1) (.slice a5 r.length c5) e5 ?_;rw[A03]at s5;refine G.callO _ _ kV call156 (Al5 s5 (by simpa using af r Z) (by rw[A03];have:=ag r Z;omega)) ?_;intro v6 u6 m6 l6 R ad;have H:=R.join ad;obtain⟨n,t,rfl⟩:=R.shape;rw[Cb,A03]at H⊢;have a9:Bag (m4.or m6) (Bu (.slice n r.length t,txV r)::Bu (.slice z b.length C,txV b)::oT (.slice O i Q) e::e.map Bu):=⟨m4,by rw[D6,J7];exact H,m⟩;refine G.B 46 1 24 (.slice none 0 0) [.slice n r.length t] (B5 _ _ _) ?_;intro g7 u7 l7 e7;obtain⟨mo,a0,W⟩:=a9.focus 2 rfl;rw[Aaa]at a0;refine G.k 46 1 24 (.slice none 0 0) mo (e.map (·.1)) [.slice n r.length t] (.slice O i Q) g7 0 1 1 a0 e7 (B5 _ _ _) ?_;intro v8 m8 F;have em:e.map (·.1)++[Value.slice n r.length t]=(e++[(Value.slice n r.length t,txV r)]).map (·.1):=mV;rw[em]at F;obtain⟨a8,c8,rfl⟩:=F.shape;have el:((e++[(Value.slice n r.length t,txV r)]).map (·.1)).length=i+1:=by simp[Y]
  rw[el]at F⊢;have aa:=W (oT (.slice a8 (i+1) c8) (e++[(Value.slice n r.length t,txV r)])) m8 F;have ab:=Bag.perm S8 aa;have T:Bag m8 (Bu (.slice z b.length C,txV b)::oT (.slice a8 (i+1) c8) (e++[(Value.slice n r.length t,txV r)])::(e++[(Value.slice n r.length t,txV r)]).map Bu):=by simpa using ab
  refine G.i i<|G.b (hJ (i+1,(a8,c8),e++[(Value.slice n r.length t,txV r)]) _ _ _ cV ((l4.trans l6).trans l7) ⟨dV,?_,T⟩ dV);dsimp only;rw[A1i,h,ai];simp
 obtain rfl:i=X.length:=oV;refine G.lF X.length X.length ?_;rw[A15]at h;exact G.r (.agg #[.slice L P.length N,.slice O X.length Q,.slice z b.length C,.string (mkS t1),.string (mkS t2),.string (mkS t3)]) ⟨L,N,O,Q,z,C,e,rfl,a2.mono l4,h,m⟩
end
end
section
def Q7 {u:PH}{y:Value}{q r:Rat}{g k:Nat}(C:Hx u)(e:Tx q)(j:Bg u y r)(z:Sz r k)(H:k<=1000000000)(h:Tx (q+r)) :
 Fn0 prog 132 [.string (mkS (Ae q)),y,.pointer (some ⟨g,0,none⟩)] u fun v _=>v=.string (mkS (Ae (q+r))):=by
 obtain⟨E,rfl⟩:=j.opF;refine Fn0.o func132<|G.c call133 (Gs e) ?_;intro N J t m;obtain⟨f1,rfl⟩:=m.opF;refine G.c call129 (Lq m (j.mono t) (e.sz.mono oV) (z.mono oV)) ?_;intro O K l2 n;obtain⟨f2,rfl⟩:=n.opF;refine G.c call71 (Uf (C.mono (t.trans l2)) n h) ?_;rintro Q L I rfl;exact G.nF 0 0<|G.r (.string (mkS (Ae (q+r)))) ⟨rfl,rfl⟩
def Azi {u:PH}{T:List (List UInt8×Nat)}{R:List Br}{F:List Al}{l:Nat}{ss:List (List UInt8)}(ok:Bl u T R F (l:Int))(t:Bw T ss)(m:G4 F (l:Int) ss=true):ss.getD l []≠[]/\ss.getD l []=Ae ((cfT F (l:Int) ss).s B7)/\SmW ((cfT F (l:Int) ss).s B7):=by
 obtain⟨n,E⟩:=ok.l2 l rfl;have O:=(A05.1 E).1;have C:=t.len;have N:l<ss.length:=oV;have z:ss[l]?=some ss[l]:=A01 N;have e:ss.getD l []=ss[l]:=by simp[A02,z]
 have g:ss.getD l []≠[]:=fun h=>by
  unfold G4 at m;rw[A23,h]at m;simp at m
 have j:=Hg (F:=F) (lab:=(l:Int)) z;have L:Gm F (l:Int) l ss[l]=some (some (B7,Lk ss[l])):=by
  unfold Gm;rw[if_pos rfl];unfold Sy;rw[if_neg (by rw[<-e];exact g)];rfl
 rw[L]at j;have H:=Tv ok.feat t ok.l1 (fun l' e=>by have:=Int.ofNat.inj e;omega) m j;have Q:=t.val l _ _ E z;have I:=Hz Q (by rw[<-e];exact g);obtain⟨J,K⟩:=I;refine⟨g,?_,?_⟩
 ·rw[H,e];exact K.symm
 rw[H];exact J
structure Av5 (F:List Al)(l:Nat)(P:List Par)(ss:List (List UInt8)):Prop where
 cnt:G4 F (l:Int) ss=true
 has:∀ x∈Dx F ss F.length,x.1∈P
section
variable {u:PH} {tv:Value} {T:List (List UInt8×Nat)} {R:List Br} {F:List Al} {l:Nat} {ss:List (List UInt8)} {P:List Par} {X:List (List Rat)} {b:List Rat} {s c q:Rat} {w:Int}
variable {pa xa ra a1 a2 a3:Option Addr} {pc xc rc c1 c2 c3:Nat}
def Aog (ht:Hx u)(h:Mv u (.agg #[.slice a1 T.length c1,.slice a2 R.length c2,.slice a3 F.length c3,.int .i64 l]) tv T R F (l:Int) ss)(V:Av5 F l P ss)
 (hP:Ac u (.slice pa P.length pc) 2 (P.map Ap)) (Y:C7 u (.slice xa (P.length+1) xc) (Cv X)) (hR:Cj u (.slice ra (P.length+1) rc) (b.map Ae)) (hp:Td F P q) (j:Ah3 P X b s c) (E:∃ L,Y5 X L 86) (h5:P.length<=5) (aa:w≠0) (ab:-1000000000000<=w) (ac:w<=1000000000000) :
 Fn0 prog 68 [stV pa P.length pc xa xc ra rc s c q a1 T.length c1 a2 R.length c2 a3 F.length c3 (l:Int),tv,.int .i64 w] u fun r e=>∃ xv,r=.tuple #[xv,.bool true,.int .i64 0]/\F6 e xv (Ko P (cfT F (l:Int) ss).s):=by
 have a5:=Lm h;have Z:=fun (e:PH) (C:PH.le u e)=>Yv (h.mono C);have a4:=fun (e:PH) (C:PH.le u e)=>Anh (h.mono C) (hP.mono C) hp.srt V.has oV;have I:=h.lt;have t:=h.fit;have m:=h.ok;have a0:=Avy (P:=P) m.feat t m.l1 I V.cnt hp.par;have a9:=Abm (P:=P) m.feat t m.l1 I V.cnt hp.par;have z:=j.sq;have g:∀ r∈X,r.length=P.length+1:=fun r hr=>by rw[z.row r hr,j.n]
 obtain⟨L,E⟩:=E;have a8:∀ e,PH.le u e->Fn0 prog 100 [stV pa P.length pc xa xc ra rc s c q a1 T.length c1 a2 R.length c2 a3 F.length c3 (l:Int)] e fun r _=>r=.bool true:=fun e W=>Xy (Y.mono W) j.n g oV;have a6:∀ e,PH.le u e->Fn0 prog 101 [stV pa P.length pc xa xc ra rc s c q a1 T.length c1 a2 R.length c2 a3 F.length c3 (l:Int)] e fun r _=>r=.bool true:=fun e W=>Uw (Y.mono W) (Ac.mono hR W) j.n g j.bn z.tx j.bt j.st j.ct hp.pen.tx oV;refine Fn0.o func68<|G.c call89 a5 ?_;rintro v1 u1 C rfl;refine G.nF 0 0<|G.eF' w 0 aa<|G.lF w (-1000000000000)<|G.gF w 1000000000000<|G.c call90 (Z u1 C) ?_;rintro v2 u2 l2 rfl;rw[V.cnt];refine G.lF l 0 ?_;have J:=C.trans l2;refine G.c call140 (a4 u2 J) ?_;rintro v3 u3 l3 ⟨lv,rfl,hS⟩;have O:=J.trans l3;have H:Cj u3 lv ((Ko P (cfT F (l:Int) ss).s).map Ae):=by rw[<-a0];exact hS
 obtain⟨la,lc,rfl⟩:=Ac.opn H;refine G.nF 0 0<|G.c call100 (a8 u3 O) ?_;rintro v4 u4 l4 rfl;have Q:=O.trans l4;refine G.c call101 (a6 u4 Q) ?_;rintro v5 u5 l5 rfl;have U:=Q.trans l5;refine G.gF (P.length+1:Nat) 12<|G.c call119 (Aie (N:=6) (K:=86) (ht.mono U) (Y.mono U) z.tx (by have:=j.n;omega) (fun r hr=>by rw[g r hr];omega) oV oV oV E.den E.pos E.nl E.dig) ?_;rintro v6 u6 l6 rfl;refine G.c call141 (T0 (Ac.mono H ((l4.trans l5).trans l6)) (fun x hx=>(a9 x hx).tx) (by rw[Ad6];omega)) ?_;intro v7 u7 l7 k7;obtain⟨a7,c7,rfl⟩:=k7.lp.opn;exact G.r (.tuple #[.slice a7 (Ko P (cfT F (l:Int) ss).s).length c7,.bool true,.int .i64 0]) ⟨rfl,_,rfl,k7⟩
def Ail {n:Nat}(h:Mv u (.agg #[.slice a1 T.length c1,.slice a2 R.length c2,.slice a3 F.length c3,.int .i64 l]) tv T R F (l:Int) ss)(t:G4 F (l:Int) ss=false)(j:w≠0)(z:-1000000000000<=w)(C:w<=1000000000000) :
 Fn0 prog 68 [stV pa n pc xa xc ra rc s c q a1 T.length c1 a2 R.length c2 a3 F.length c3 (l:Int),tv,.int .i64 w] u fun r _=>r=.tuple #[.slice none 0 0,.bool false,.int .i64 0]:=by
 have g:=Lm h;have e:=fun (E:PH) (m:PH.le u E)=>Yv (h.mono m);refine Fn0.o func68<|G.c call89 g ?_;rintro J H m rfl;refine G.nF 0 0<|G.eF' w 0 j<|G.lF w (-1000000000000)<|G.gF w 1000000000000<|G.c call90 (e H m) ?_;rintro K I l2 rfl;rw[t];exact G.r (.tuple #[.slice none 0 0,.bool false,.int .i64 0]) ⟨rfl,rfl⟩
end
end
section
variable {i n:Nat}{x:Par->Rat}
def Atn {m:PH}{b:Nat}(o:Obj)(h:m b=none):m.upd b o=(Pj b o).or m/\Hp (Pj b o) m:=by
 constructor
 ·funext k
  by_cases e:k=b
  ·subst e;rw[Ab,PH.or_l (Ck k o)]
  rw[Ad _ _ e,PH.or_r (Mz o e)]
 intro k;by_cases e:k=b
 ·subst e;exact .inr h
 exact .inl (Mz o e)
def Ayd {Z:List (List Rat)}{i k:Nat}{y:Rat}(h:Rec n n Z)(hi:i<n)(g:k<n)(a b:Nat):en (Z.set i ((gM Z i).set k y)) a b=if i=a then (if k=b then y else en Z i b) else en Z a b:=by
 unfold en;rw[Kb (by rw[h.1];exact hi)];by_cases e:i=a
 ·rw[if_pos e,if_pos e,Aht (by rw[h.2 i hi];exact g)]
 rw[if_neg e,if_neg e]
def F6.cellG {u:PH}{a:Option Addr}{n c:Nat}{m:List Rat}(h:F6 u (.slice a n c) m){j:Nat}(t:j<m.length):∃ b off f,a=some ⟨b,off,none⟩/\ElP u b (off+j*4) (fv f)/\Bg u (fv f) (gR m j):=by
 obtain⟨b,off,e,rfl,z,g⟩:=LP.at h (A01 t);rw[<-Cu t]at g;obtain⟨f,rfl⟩:=g.opF;exact⟨b,off,f,rfl,z,g⟩
section
variable {u:PH} {tv:Value} {T:List (List UInt8×Nat)} {R:List Br} {F:List Al} {l:Nat} {ss:List (List UInt8)} {P:List Par} {X:List (List Rat)} {b:List Rat} {s c q:Rat} {w:Int} {C:CF}
variable {pa xa ra a1 a2 a3:Option Addr} {pc xc rc c1 c2 c3:Nat}
def Ae6 (hi:i<P.length+1):gR (Io (P.length+1) X (Ko P x) false) i=Fy (P.length+1) (en X) (Fg P x) i:=by
 rw[Xv hi];exact Ah fun k e=>by rw[V1 e];rfl
def Apg (hi:i<P.length+1):gR (Io (P.length+1) X (Ko P x) true) i=Fy (P.length+1) (fun i k=>en X k i) (Fg P x) i:=by
 rw[Xv hi];exact Ah fun k e=>by rw[V1 e];rfl
def Axi {w:Rat}:1+w*Vq (P.length+1) (gR (Ko P x)) (gR (Io (P.length+1) X (Ko P x) false))=byN (P.length+1) (en X) (Fg P x) w:=by
 unfold byN Vq
 congr 2
 exact Ah fun k e=>by rw[V1 e,Ae6 e]
def Amb (ht : Hx u) (h : Mv u (.agg #[.slice a1 T.length c1, .slice a2 R.length c2, .slice a3 F.length c3, .int .i64 (l : Int)]) tv T R F (l : Int) ss) (hc : Av5 F l P ss)
    (hP : Ac u (.slice pa P.length pc) 2 (P.map Ap)) (hX : C7 u (.slice xa (P.length + 1) xc) (Cv X)) (hR : Cj u (.slice ra (P.length + 1) rc) (b.map Ae)) (hp : Td F P q) (eb : P ≠ []) (hB : Ah3 P X b s c) (hL : ∃ L, Y5 X L 86) (h5 : P.length ≤ 5) (ee : w ≠ 0) (ef : -1000000000000 ≤ w) (eg : w ≤ 1000000000000)
    (bo : byN (P.length + 1) (en X) (Fg P (cfT F (l : Int) ss).s) (w : Rat) ≠ 0) (af : Ah3 P (Nj (P.length + 1) X (Fg P (cfT F (l : Int) ss).s) (w : Rat)) (Pq P b (cfT F (l : Int) ss).s (w : Rat) ((cfT F (l : Int) ss).s B7)) (s + (w : Rat) * (cfT F (l : Int) ss).s B7 * (cfT F (l : Int) ss).s B7) (c + (w : Rat))) :
    Fn0 prog 57 [stV pa P.length pc xa xc ra rc s c q a1 T.length c1 a2 R.length c2 a3 F.length c3 (l : Int), tv, .int .i64 w] u fun r u' => ∃ sv, r = .tuple #[sv, .int .i64 0] ∧
      Ma u' sv P (Nj (P.length + 1) X (Fg P (cfT F (l : Int) ss).s) (w : Rat)) (Pq P b (cfT F (l : Int) ss).s (w : Rat) ((cfT F (l : Int) ss).s B7)) (s + (w : Rat) * (cfT F (l : Int) ss).s B7 * (cfT F (l : Int) ss).s B7) (c + (w : Rat)) q := by
  have cg := Aog (w := w) ht h hc hP hX hR hp hB hL h5 ee ef eg
  have e9 := fun (u' : PH) (l1 : PH.le u u') => Amh (h.mono l1)
  obtain ⟨ea, cv, cu⟩ := Azi h.ok h.fit hc.cnt
  have ec := Abm (P := P) h.ok.feat h.fit h.ok.l1 h.lt hc.cnt hp.par
  have b4 : SzL (Ko P (cfT F (l : Int) ss).s) 1 := fun x hx => (ec x hx).sz
  generalize (cfT F (l : Int) ss).s = x at *
  have ab := hB.sq
  have ag : Rec (P.length + 1) (P.length + 1) X := ⟨hB.n, fun i hi => by have := hB.n; rw [Ch oV]; rw [ab.row _ (A09 oV), hB.n]⟩
  have cd : Rec (P.length + 1) (P.length + 1) (Nj (P.length + 1) X (Fg P x) (w : Rat)) := Rh _ _
  have cb : ∀ i k, i < P.length + 1 → k < P.length + 1 → Tx (en X i k) := fun i k hi hk => by
    have O : i < X.length := by rw [ag.1]; exact hi
    have h2 := ag.2 i hi
    rw [Ch O] at h2
    have h3 : k < X[i].length := by omega
    unfold en
    rw [Ch O, Cu h3]
    exact ab.tx _ (A09 O) _ (A09 h3)
  have ce : ∀ i k, i < P.length + 1 → k < P.length + 1 → Tx (Vd (P.length + 1) (en X) (Fg P x) (w : Rat) i k) := fun i k hi hk => by
    rw [← N6 (f := Vd (P.length + 1) (en X) (Fg P x) (w : Rat)) hi hk]
    have O : i < (Nj (P.length + 1) X (Fg P x) (w : Rat)).length := by rw [cd.1]; exact hi
    have h2 := cd.2 i hi
    rw [Ch O] at h2
    have h3 : k < (Nj (P.length + 1) X (Fg P x) (w : Rat))[i].length := by omega
    show Tx (gR (gM (Nj (P.length + 1) X (Fg P x) (w : Rat)) i) k)
    rw [Ch O, Cu h3]
    exact af.sq.tx _ (A09 O) _ (A09 h3)
  have K : Sz (w : Rat) 2 := ⟨A4 (by simp; omega), A4 mV⟩
  have bl := hB.n
  have aa := hB.bn
  have bh := fun (u' : PH) (l1 : PH.le u u') => Yg (t1 := Ae s) (t2 := Ae c) (t3 := Ae q) (hP.mono l1) (show C7 u' (.slice xa X.length xc) (Cv X) by rw [bl]; exact hX.mono l1) (show Cj u' (.slice ra b.length rc) (b.map Ae) by rw [aa]; exact Ac.mono hR l1) eb (by intro e; rw [e] at aa; simp at aa) (fun r hr e => by have := ab.row r hr; rw [e] at this; simp at this; omega) oV oV (fun r hr => by rw [ab.row r hr]; omega) oV
  refine Fn0.o func57 ?_
  refine G.c call68 cg ?_
  rintro v1 u1 l1 ⟨xv, rfl, kx⟩
  obtain ⟨ax, cx, rfl⟩ := kx.lp.opn
  have b5 := Ad6 P x
  rw [b5] at kx ⊢
  refine G.nF 0 0 ?_
  refine G.c call128 (Wa (z := w) oV oV) ?_
  intro v2 u2 l2 kw
  obtain ⟨fw, rfl⟩ := kw.opF
  have dh := l1.trans l2
  refine G.c call70 (Aeu (n := P.length + 1) (S := 1) false (hX.mono dh) ag ab.tx (kx.mono l2) b5 oV b4 oV) ?_
  rintro v3 u3 l3 ⟨kr, sr⟩
  obtain ⟨ar, cr, rfl⟩ := kr.lp.opn
  rw [F1] at kr ⊢
  have di := dh.trans l3
  refine G.c call70 (Aeu (n := P.length + 1) (S := 1) true (hX.mono di) ag ab.tx (kx.mono (l2.trans l3)) b5 oV b4 oV) ?_
  rintro v4 u4 l4 ⟨kc, sc⟩
  obtain ⟨ac, cc, rfl⟩ := kc.lp.opn
  rw [F1] at kc ⊢
  have ei := di.trans l4
  refine G.c call128 (Wa (z := 1) oV oV) ?_
  intro v5 u5 l5 k1
  rw [show ((1 : Int) : Rat) = 1 from rfl] at k1
  obtain ⟨f1, rfl⟩ := k1.opF
  refine G.c call69 (As6 (n := P.length + 1) (S := 1) (S' := 1 + (P.length + 1) * (400 + 1 + 1)) (kx.mono (((l2.trans l3).trans l4).trans l5)) (kr.mono (l4.trans l5)) b5 (F1 _ _ _ _) oV b4 sr (by
    have h6 : (P.length + 1) * (400 + 1 + 1) ≤ 6 * (400 + 1 + 1) := A13 _ oV
    have h7 : (P.length + 1) * (1 + (1 + (P.length + 1) * (400 + 1 + 1)) + 1) ≤ 6 * (1 + (1 + 6 * (400 + 1 + 1)) + 1) := A25 oV oV
    omega)) ?_
  rintro v6 u6 l6 ⟨kd, sd⟩
  have h6 : (P.length + 1) * (400 + 1 + 1) ≤ 6 * (400 + 1 + 1) := A13 _ oV
  have h7 : (P.length + 1) * (1 + (1 + (P.length + 1) * (400 + 1 + 1)) + 1) ≤ 6 * (1 + (1 + 6 * (400 + 1 + 1)) + 1) := A25 oV oV
  replace sr : SzL _ 2413 := sr.mono oV
  replace sc : SzL _ 2413 := sc.mono oV
  replace sd : Sz _ 14500 := sd.mono oV
  obtain ⟨fd, rfl⟩ := kd.opF
  have dp := Fx K sd
  refine G.c call130 (Ga (kw.mono (((l3.trans l4).trans l5).trans l6)) kd (K.mono oV) (sd.mono oV)) ?_
  intro v7 u7 l7 k7
  obtain ⟨f7, rfl⟩ := k7.opF
  have dk : Sz (1 : Rat) 1 := Adt (z := 1) fV
  refine G.c call129 (Lq (k1.mono (l6.trans l7)) k7 (dk.mono oV) (dp.mono oV)) ?_
  intro v8 u8 l8 k8
  have b9 := R5 dk dp
  rw [Axi] at k8 b9
  obtain ⟨f8, rfl⟩ := k8.opF
  refine G.c call131 (Anr k8 b9 oV) ?_
  rintro v9 u9 l9 rfl
  refine G.eF' (sg (byN (P.length + 1) (en X) (Fg P x) (w : Rat))) 0 (fun e => bo (Aip.1 e)) ?_
  have b8 := (((l5.trans l6).trans l7).trans l8).trans l9
  have dj := ei.trans b8
  have bp := bh u9 dj
  rw [bl, aa] at bp
  refine G.callO _ _ kV call86 bp ?_
  rintro fl fh ej aq ⟨qa, qc, ya, yc, sa, E, I, rfl, c7, a0, W⟩ _
  rw [By]
  have bk : I.length = P.length + 1 := by have := congrArg List.length a0; simpa [bl] using this
  obtain ⟨go, co, eo⟩ := W.ptr 1 rfl (fun e => by
    have : (I.map (·.1)).length = 0 := by rw [show I.map (·.1) = [] from e]; rfl
    rw [A03] at this; omega)
  have du : (Value.slice ya (P.length + 1) yc) = .slice (some ⟨go, 0, none⟩) (P.length + 1) co := by
    have e1 : (oT (.slice ya (P.length + 1) yc) I).v = Value.slice ya (P.length + 1) yc := rfl
    rw [e1] at eo
    rw [eo]
    have : (oT (.slice ya (P.length + 1) yc) I).es.length = P.length + 1 := by show (I.map (·.1)).length = _; rw [A03, bk]
    rw [this]
  cases du
  obtain ⟨gs, cs, c4⟩ := W.ptr 0 rfl (fun e => by
    have : (txV b).length = 0 := by rw [show txV b = [] from e]; rfl
    rw [Cw] at this; omega)
  have dy : (Value.slice sa (P.length + 1) E) = .slice (some ⟨gs, 0, none⟩) (P.length + 1) cs := by
    have e1 : (Bu (.slice sa (P.length + 1) E, txV b)).v = Value.slice sa (P.length + 1) E := rfl
    rw [e1] at c4
    rw [c4]
    have : (Bu (.slice sa (P.length + 1) E, txV b)).es.length = P.length + 1 := by show (txV b).length = _; rw [Cw, aa]
    rw [this]
  cases dy
  refine G.pastI ?_
  refine G.pub 12000 39 [.int .i64 0] kV kV ?_
  intro gf f5 ck
  obtain ⟨dw, dx⟩ := Atn (.cells [Value.int .i64 0].toArray 39 (0, 0)) ck
  rw [dw]
  refine G.giveP (ma := Pj gf (.cells [Value.int .i64 0].toArray 39 (0, 0))) (sm := ej) kV rfl dx (fun g => .inl rfl) ?_
  intro er ad cw
  have e7 : er gf = some (.cells #[.int .i64 0] 39 (0, 0)) := cw _ _ (Ck _ _)
  have az := (((l3.trans l4).trans b8).trans aq).trans ad
  refine G.c call134 (Aqz (kw.mono az) (k8.mono ((l9.trans aq).trans ad)) (K.mono oV) (b9.mono oV) bo) ?_
  intro fm fi au bw
  obtain ⟨f9, rfl⟩ := bw.opF
  have dl := Arz K b9 bo
  refine G.c call135 (Asr bw (A04 dl.1 oV)) ?_
  intro fn fj av d4
  obtain ⟨c5, rfl⟩ := d4.opF
  have dm := Asu dl
  have a9 := au.trans av
  have d8 := kr.mono (((((l4.trans b8).trans aq).trans ad).trans au).trans av)
  have d7 := kc.mono ((((b8.trans aq).trans ad).trans au).trans av)
  have da := kx.mono ((l2.trans az).trans a9)
  have d9 := kw.mono (az.trans a9)
  have b0 := (((dj.trans aq).trans ad).trans au).trans av
  have c8 := c7.mono ((ad.trans au).trans av)
  have br := a9 _ _ e7
  have d1 := ht.mono b0
  generalize hY : Nj (P.length + 1) X (Fg P x) (w : Rat) = Y at *
  have bm : ∀ i k, i < P.length + 1 → k < P.length + 1 → en Y i k = en X i k + -((w : Rat) / byN (P.length + 1) (en X) (Fg P x) (w : Rat)) * gR (Io (P.length + 1) X (Ko P x) false) i * gR (Io (P.length + 1) X (Ko P x) true) k := fun i k hi hk => by
    rw [← hY, show en (Nj (P.length + 1) X (Fg P x) (w : Rat)) i k = Vd (P.length + 1) (en X) (Fg P x) (w : Rat) i k from N6 hi hk, Ae6 hi, Apg hk]; rfl
  have bc : ∀ i k, i < P.length + 1 → k < P.length + 1 → Tx (en Y i k) := fun i k hi hk => by
    rw [← hY, show en (Nj (P.length + 1) X (Fg P x) (w : Rat)) i k = Vd (P.length + 1) (en X) (Fg P x) (w : Rat) i k from N6 hi hk]; exact ce i k hi hk
  generalize cy : Io (P.length + 1) X (Ko P x) false = rs at *
  generalize cj : Io (P.length + 1) X (Ko P x) true = cls at *
  have f6 : rs.length = P.length + 1 := by rw [← cy]; exact F1 _ _ _ _
  have f4 : cls.length = P.length + 1 := by rw [← cj]; exact F1 _ _ _ _
  generalize ff : -((w : Rat) / byN (P.length + 1) (en X) (Fg P x) (w : Rat)) = dv at *
  clear cy cj k8 bw kd k7 k1 bh bp cg
  refine G.l (ι := Nat × List (List Rat) × List (Value × List Value)) (fun i => [(1, .v tv), (3, .p 0 0), (6, .p 1 0), (8, sV ax (P.length + 1) cx), (11, .p 6002 0), (12, sV ar (P.length + 1) cr), (13, sV ac (P.length + 1) cc), (15, .p 11003 0), (16, .v (.pointer (some ⟨gf, 0, none⟩))), (17, .v (.func (.func 132) #[] #[.pointer (some ⟨gf, 0, none⟩)])), (18, .p 14004 0), (75, sV (some ⟨go, 0, none⟩) (P.length + 1) yc), (76, iV ((P.length + 1 : Nat) : Int)), (77, iV (i.1 : Int))])
    (fun _ => [(0, ⟨122, [sV pa P.length pc, sV xa (P.length + 1) xc, sV ra (P.length + 1) rc, tV (Ae s), tV (Ae c), tV (Ae q), sV a1 T.length c1, sV a2 R.length c2, sV a3 F.length c3, iV (l : Int)]⟩),
      (1, ⟨48, [.v (.slice none 0 0), .v (.slice none 0 0), .v (.slice none 0 0), .v (.string (mkS [])), .v (.string (mkS [])), .v (.string (mkS []))]⟩), (6002, ⟨143, fc fw⟩),
      (11003, ⟨48, [.v (.slice qa P.length qc), .v (.slice (some ⟨go, 0, none⟩) (P.length + 1) yc), .v (.slice (some ⟨gs, 0, none⟩) (P.length + 1) E), .v (.string (mkS (Ae s))), .v (.string (mkS (Ae c))), .v (.string (mkS (Ae q)))]⟩), (14004, ⟨143, fc c5⟩)])
    (fun i u' m' => i.1 ≤ P.length + 1 ∧ Rec (P.length + 1) (P.length + 1) i.2.1 ∧ (∀ a e, a < P.length + 1 → e < P.length + 1 → en i.2.1 a e = if a < i.1 then en Y a e else en X a e) ∧ i.2.2.map (·.2) = i.2.1.map txV ∧ Bag m' (Bu (.slice (some ⟨gs, 0, none⟩) (P.length + 1) E, txV b) :: oT (.slice (some ⟨go, 0, none⟩) (P.length + 1) yc) i.2.2 :: i.2.2.map Bu)) (fun i => P.length + 1 - i.1)
    (0, X, I) ⟨oV, ag, fun a e _ _ => by rw [if_neg (Nat.not_lt_zero _)], a0, W⟩ ?_
  clear W a0 bk
  rintro J ⟨i, Z, V⟩ hJ et fg bx ⟨hi, H, hZ, t, j⟩
  simp only at hi H hZ t j hJ
  by_cases m : i < P.length + 1
  · refine G.lT (i : Int) ((P.length + 1 : Nat) : Int) ?_
    obtain ⟨gi, ci, a5, e1, _⟩ := Ayw j t H m
    refine G.a go 0 (P.length + 1) yc i 1 m ?_
    refine G.lM none go (0 + i * 1) (.slice (some ⟨gi, 0, none⟩) (P.length + 1) ci) e1 ?_
    refine G.l (ι := Nat × List (List Rat) × List (Value × List Value)) (fun k => [(1, .v tv), (3, .p 0 0), (6, .p 1 0), (8, sV ax (P.length + 1) cx), (11, .p 6002 0), (12, sV ar (P.length + 1) cr), (13, sV ac (P.length + 1) cc), (15, .p 11003 0), (16, .v (.pointer (some ⟨gf, 0, none⟩))), (17, .v (.func (.func 132) #[] #[.pointer (some ⟨gf, 0, none⟩)])), (18, .p 14004 0), (19, iV (i : Int)), (20, sV (some ⟨gi, 0, none⟩) (P.length + 1) ci), (75, sV (some ⟨go, 0, none⟩) (P.length + 1) yc), (76, iV ((P.length + 1 : Nat) : Int)), (77, iV (i : Int)), (83, iV ((P.length + 1 : Nat) : Int)), (84, iV (k.1 : Int))])
      (fun _ => [(0, ⟨122, [sV pa P.length pc, sV xa (P.length + 1) xc, sV ra (P.length + 1) rc, tV (Ae s), tV (Ae c), tV (Ae q), sV a1 T.length c1, sV a2 R.length c2, sV a3 F.length c3, iV (l : Int)]⟩),
        (1, ⟨48, [.v (.slice none 0 0), .v (.slice none 0 0), .v (.slice none 0 0), .v (.string (mkS [])), .v (.string (mkS [])), .v (.string (mkS []))]⟩), (6002, ⟨143, fc fw⟩),
        (11003, ⟨48, [.v (.slice qa P.length qc), .v (.slice (some ⟨go, 0, none⟩) (P.length + 1) yc), .v (.slice (some ⟨gs, 0, none⟩) (P.length + 1) E), .v (.string (mkS (Ae s))), .v (.string (mkS (Ae c))), .v (.string (mkS (Ae q)))]⟩), (14004, ⟨143, fc c5⟩)])
      (fun k u' m' => k.1 ≤ P.length + 1 ∧ k.2.2[i]? = some (.slice (some ⟨gi, 0, none⟩) (P.length + 1) ci, txV (gM k.2.1 i)) ∧ Rec (P.length + 1) (P.length + 1) k.2.1 ∧ (∀ a e, a < P.length + 1 → e < P.length + 1 → en k.2.1 a e = if a < i ∨ a = i ∧ e < k.1 then en Y a e else en X a e) ∧ k.2.2.map (·.2) = k.2.1.map txV ∧ Bag m' (Bu (.slice (some ⟨gs, 0, none⟩) (P.length + 1) E, txV b) :: oT (.slice (some ⟨go, 0, none⟩) (P.length + 1) yc) k.2.2 :: k.2.2.map Bu)) (fun k => P.length + 1 - k.1)
      (0, Z, V) ⟨oV, a5, H, fun a e ha he => by
        dsimp only
        rw [hZ a e ha he]
        by_cases O : a < i
        · rw [if_pos O, if_pos oV]
        rw [if_neg O, if_neg oV], t, j⟩ ?_
    clear a5 e1 H hZ t j
    rintro J2 ⟨k, Z, V⟩ c6 eu ek b6 ⟨hk, a5, H, hZ, t, j⟩
    simp only at hk a5 H hZ t j c6
    have a7 := bx.trans b6
    by_cases Q : k < P.length + 1
    · refine G.lT (k : Int) ((P.length + 1 : Nat) : Int) ?_
      have ai : gR (gM Z i) k = en X i k := by
        have O : gR (gM Z i) k = en Z i k := rfl
        rw [O, hZ i k m Q, if_neg oV]
      have bq : ElP ek gi (0 + k * 1) (.string (mkS (Ae (en X i k)))) := j.el (i + 2) (Lw a5) rfl (by
        show (txV (gM Z i))[k]? = _
        have cq : k < (gM Z i).length := by rw [H.2 i m]; exact Q
        unfold txV
        rw [A1a, A01 cq, ← Cu cq, ai]; rfl)
      have cm : i < rs.length := by omega
      have cp : k < cls.length := by omega
      obtain ⟨b1, o1, g1, rfl, e3, k3⟩ := (d8.mono a7).cellG cm
      obtain ⟨b2, o2, g2, rfl, e4, k4⟩ := (d7.mono a7).cellG cp
      have ak := sr.at cm
      have cz := sc.at cp
      refine G.a gi 0 (P.length + 1) ci k 1 Q ?_
      refine G.lM none gi (0 + k * 1) (.string (mkS (Ae (en X i k)))) bq ?_
      refine G.a b1 o1 (P.length + 1) cr i 4 m ?_
      refine G.lU (some 4) b1 (o1 + i * 4) (fv g1) e3 ?_
      refine G.a b2 o2 (P.length + 1) cc k 4 Q ?_
      refine G.lU (some 4) b2 (o2 + k * 4) (fv g2) e4 ?_
      refine G.c call130 (Ga (d4.mono a7) k3 (dm.mono oV) (ak.mono oV)) ?_
      intro f0 ew aw d5
      obtain ⟨fa, rfl⟩ := d5.opF
      have a8 := Fx dm ak
      refine G.c call130 (Ga d5 (k4.mono aw) (a8.mono oV) (cz.mono oV)) ?_
      intro fp ex N d6
      obtain ⟨fb, rfl⟩ := d6.opF
      have b3 := Fx a8 cz
      refine G.c call132 (Q7 (g := gf) (q := en X i k) (d1.mono ((a7.trans aw).trans N)) (cb i k m Q) d6 b3 oV (by rw [← bm i k m Q]; exact bc i k m Q)) ?_
      rintro ds dq a6 rfl
      rw [← bm i k m Q]
      obtain ⟨m0, am, aj⟩ := j.focus (i + 2) (Lw a5)
      rw [D6] at am
      refine G.a gi 0 (P.length + 1) ci k 1 Q ?_
      refine G.storeA 1 m0 (txV (gM Z i)) gi (P.length + 1) ci k (.string (mkS (Ae (en Y i k)))) kV am (by rw [Cw, H.2 i m]; exact Q) rfl rfl ?_
      intro em ba
      have es : (txV (gM Z i)).set k (.string (mkS (Ae (en Y i k)))) = txV ((gM Z i).set k (en Y i k)) := by unfold txV; rw [A2g]
      rw [es] at ba
      have be := aj (Bu (.slice (some ⟨gi, 0, none⟩) (P.length + 1) ci, txV ((gM Z i).set k (en Y i k)))) em ba
      rw [Agw, ← Aho a5 (es' := txV ((gM Z i).set k (en Y i k)))] at be
      refine G.i k ?_
      have e8 : i < V.length := (A05.1 a5).1
      have e5 := I8 H m (r := (gM Z i).set k (en Y i k)) (by rw [A21]; exact H.2 i m)
      refine G.b (c6 (k + 1, Z.set i ((gM Z i).set k (en Y i k)), V.set i (.slice (some ⟨gi, 0, none⟩) (P.length + 1) ci, txV ((gM Z i).set k (en Y i k)))) _ _ _ cV (((b6.trans aw).trans N).trans a6) ⟨by dsimp only; omega, ?_, e5, fun a e ha he => ?_, ?_, be⟩ (by dsimp only; omega))
      · dsimp only
        rw [A1z, if_pos rfl, if_pos e8, Kb (by rw [H.1]; exact m), if_pos rfl]
      · dsimp only
        rw [Ayd H m Q]
        by_cases O : i = a
        · subst O
          rw [if_pos rfl]
          by_cases h2 : k = e
          · subst h2; rw [if_pos rfl, if_pos oV]
          rw [if_neg h2, hZ i e m he]
          by_cases h3 : e < k
          · rw [if_pos oV, if_pos oV]
          rw [if_neg oV, if_neg oV]
        rw [if_neg O, hZ a e ha he]
        by_cases h3 : a < i
        · rw [if_pos oV, if_pos oV]
        rw [if_neg oV, if_neg oV]
      dsimp only
      rw [A2g, t, ← A2g]
    obtain rfl : k = P.length + 1 := by omega
    refine G.lF ((P.length + 1 : Nat) : Int) ((P.length + 1 : Nat) : Int) ?_
    refine G.i i ?_
    refine G.b (hJ (i + 1, Z, V) _ _ _ cV a7 ⟨by dsimp only; omega, H, fun a e ha he => ?_, t, j⟩ (by dsimp only; omega))
    dsimp only
    rw [hZ a e ha he]
    by_cases O : a < i + 1
    · rw [if_pos O, if_pos oV]
    rw [if_neg O, if_neg oV]
  obtain rfl : i = P.length + 1 := by omega
  refine G.lF ((P.length + 1 : Nat) : Int) ((P.length + 1 : Nat) : Int) ?_
  clear hJ
  have e6 : Z = Y := Aks H (by rw [← hY]; exact Rh _ _) fun a e ha he => by rw [hZ a e ha he, if_pos ha]
  subst e6
  have df := b0.trans bx
  have ah := e9 et df
  rw [if_neg (by rintro (h | h); · omega
                 exact ea h)] at ah
  refine G.c call136 ah ?_
  rintro fo eu b6 rfl
  rw [A23, cv]
  refine G.c call133 (Gs cu.tx) ?_
  intro f0 ew aw ky
  obtain ⟨fy, rfl⟩ := ky.opF
  have U := (bx.trans b6).trans aw
  have dg := b0.trans U
  have db := da.mono U
  have ap := d9.mono U
  have ca := c8.mono U
  have al := ht.mono dg
  have bs := U _ _ br
  have ae : Sz (x B7) 1 := cu.sz
  have ch := af.bt
  have bg : (Pq P b x (w : Rat) (x B7)).length = P.length + 1 := af.bn
  have d0 : ∀ i, i < P.length + 1 → gR (Pq P b x (w : Rat) (x B7)) i = gR b i + (w : Rat) * gR (Ko P x) i * x B7 := fun i hi => by
    unfold Pq
    rw [Aep (by rw [A1a, A31 hi]; rfl), V1 hi]
  generalize fe : Pq P b x (w : Rat) (x B7) = b' at *
  have bd : Z.length = P.length + 1 := H.1
  clear hZ H bm bc ce cb
  refine G.l (ι := Nat × List Rat) (fun i => [(6, .p 1 0), (8, sV ax (P.length + 1) cx), (11, .p 6002 0), (15, .p 11003 0), (16, .v (.pointer (some ⟨gf, 0, none⟩))), (17, .v (.func (.func 132) #[] #[.pointer (some ⟨gf, 0, none⟩)])), (24, .p 25002 0), (120, iV ((P.length + 1 : Nat) : Int)), (121, iV (i.1 : Int))])
    (fun _ => [(1, ⟨48, [sV none 0 0, sV none 0 0, sV none 0 0, tV [], tV [], tV []]⟩), (6002, ⟨143, fc fw⟩),
      (11003, ⟨48, [.v (.slice qa P.length qc), .v (.slice (some ⟨go, 0, none⟩) (P.length + 1) yc), .v (.slice (some ⟨gs, 0, none⟩) (P.length + 1) E), .v (.string (mkS (Ae s))), .v (.string (mkS (Ae c))), .v (.string (mkS (Ae q)))]⟩), (25002, ⟨143, fc fy⟩)])
    (fun i u' m' => i.1 ≤ P.length + 1 ∧ i.2.length = P.length + 1 ∧ (∀ a, a < P.length + 1 → gR i.2 a = if a < i.1 then gR b' a else gR b a) ∧ Bag m' (Bu (.slice (some ⟨gs, 0, none⟩) (P.length + 1) E, txV i.2) :: oT (.slice (some ⟨go, 0, none⟩) (P.length + 1) yc) V :: V.map Bu)) (fun i => P.length + 1 - i.1)
    (0, b) ⟨oV, aa, fun a _ => by rw [if_neg (Nat.not_lt_zero _)], j⟩ ?_
  clear j
  rintro J ⟨i, z⟩ hJ ex c0 N ⟨hi, bv, hz, j⟩
  simp only at hi bv hz j hJ
  by_cases m : i < P.length + 1
  · refine G.lT (i : Int) ((P.length + 1 : Nat) : Int) ?_
    have cn : i < (Ko P x).length := by omega
    have cl : i < b.length := by omega
    have bi : i < b'.length := by omega
    have bu : i < z.length := by omega
    have ai : z[i] = gR b i := by rw [← Cu bu, hz i m, if_neg (Nat.lt_irrefl _)]
    have bq : ElP c0 gs (0 + i * 1) (.string (mkS (Ae (gR b i)))) := j.el 0 rfl rfl (by
      show (txV z)[i]? = _
      unfold txV
      rw [A1a, A01 bu, ai]; rfl)
    obtain ⟨b1, o1, g1, rfl, e3, k3⟩ := (db.mono N).cellG cn
    have ak := b4.at cn
    refine G.a gs 0 (P.length + 1) E i 1 m ?_
    refine G.lM none gs (0 + i * 1) (.string (mkS (Ae (gR b i)))) bq ?_
    refine G.a b1 o1 (P.length + 1) cx i 4 m ?_
    refine G.lU (some 4) b1 (o1 + i * 4) (fv g1) e3 ?_
    refine G.c call130 (Ga (ap.mono N) k3 (K.mono oV) (ak.mono oV)) ?_
    intro ds dq a6 an
    obtain ⟨dz, rfl⟩ := an.opF
    have a8 := Fx K ak
    refine G.c call130 (Ga an (ky.mono (N.trans a6)) (a8.mono oV) (ae.mono oV)) ?_
    intro f2 ey b7 ao
    obtain ⟨e0, rfl⟩ := ao.opF
    have b3 := Fx a8 ae
    have ed : Tx (gR b i) := by rw [Cu cl]; exact hB.bt _ (A09 cl)
    have d2 : Tx (gR b' i) := by rw [Cu bi]; exact ch _ (A09 bi)
    refine G.c call132 (Q7 (g := gf) (q := gR b i) (al.mono ((N.trans a6).trans b7)) ed ao b3 oV (by rw [← d0 i m]; exact d2)) ?_
    rintro f3 ez bz rfl
    rw [← d0 i m]
    obtain ⟨m0, am, aj⟩ := j.focus 0 rfl
    rw [D6] at am
    refine G.a gs 0 (P.length + 1) E i 1 m ?_
    refine G.storeA 1 m0 (txV z) gs (P.length + 1) E i (.string (mkS (Ae (gR b' i)))) kV am (by rw [Cw, bv]; exact m) rfl rfl ?_
    intro ep bb
    have es : (txV z).set i (.string (mkS (Ae (gR b' i)))) = txV (z.set i (gR b' i)) := by unfold txV; rw [A2g]
    rw [es] at bb
    have bf := aj (Bu (.slice (some ⟨gs, 0, none⟩) (P.length + 1) E, txV (z.set i (gR b' i)))) ep bb
    rw [A2p] at bf
    refine G.i i ?_
    refine G.b (hJ (i + 1, z.set i (gR b' i)) _ _ _ cV (((N.trans a6).trans b7).trans bz) ⟨by dsimp only; omega, by dsimp only; rw [A21]; exact bv, fun a ha => ?_, bf⟩ (by dsimp only; omega))
    dsimp only
    rw [Aht bu]
    by_cases O : i = a
    · subst O; rw [if_pos rfl, if_pos oV]
    rw [if_neg O, hz a ha]
    by_cases h2 : a < i
    · rw [if_pos h2, if_pos oV]
    rw [if_neg h2, if_neg oV]
  obtain rfl : i = P.length + 1 := by omega
  refine G.lF ((P.length + 1 : Nat) : Int) ((P.length + 1 : Nat) : Int) ?_
  clear hJ
  have eh : z = b' := A5l oV fun a O h2 => by
    have := hz a oV
    rwa [if_pos oV, Cu O, Cu h2] at this
  subst eh
  refine G.c call130 (Ga (ap.mono N) (ky.mono N) (K.mono oV) (ae.mono oV)) ?_
  intro ds dq a6 an
  obtain ⟨dz, rfl⟩ := an.opF
  have a8 := Fx K ae
  refine G.c call130 (Ga an (ky.mono (N.trans a6)) (a8.mono oV) (ae.mono oV)) ?_
  intro f2 ey b7 ao
  obtain ⟨e0, rfl⟩ := ao.opF
  have b3 := Fx a8 ae
  have ay := (N.trans a6).trans b7
  refine G.c call132 (Q7 (g := gf) (q := s) (al.mono ay) hB.st ao b3 oV af.st) ?_
  rintro f3 ez bz rfl
  have a4 := ay.trans bz
  refine G.c call132 (Q7 (g := gf) (q := c) (al.mono a4) hB.ct (ap.mono a4) K oV af.ct) ?_
  rintro fq fk dc rfl
  refine G.giveP (ma := c0) (sm := PH.mt) kV (by funext g; unfold PH.or; cases c0 g <;> rfl) (fun g => .inr rfl) (fun g => .inl rfl) ?_
  intro dr dd bj
  refine G.lU none gf 0 (.int .i64 0) (Po (((a4.trans dc).trans dd) _ _ bs) (G2 rfl rfl)) ?_
  refine G.nF 0 0 ?_
  have hM : C7 dr (.slice (some ⟨go, 0, none⟩) (P.length + 1) yc) (Cv Z) := V9 (v := .bool true) j t bj
  obtain ⟨mf, d3, _⟩ := j.focus 0 rfl
  rw [D6] at d3
  have e2 : Cj dr (.slice (some ⟨gs, 0, none⟩) (P.length + 1) E) (z.map Ae) := by
    unfold Cj; rw [← J7]; exact d3.list bj
  exact G.r (.tuple #[.agg #[.slice qa P.length qc, .slice (some ⟨go, 0, none⟩) (P.length + 1) yc, .slice (some ⟨gs, 0, none⟩) (P.length + 1) E, .string (mkS (Ae (s + (w : Rat) * x B7 * x B7))), .string (mkS (Ae (c + (w : Rat)))), .string (mkS (Ae q))], .int .i64 0])
    ⟨rfl, _, rfl, qa, qc, some ⟨go, 0, none⟩, yc, some ⟨gs, 0, none⟩, E, by rw [bd, bg], ca.mono ((a4.trans dc).trans dd), by rw [bd]; exact hM, by rw [bg]; exact e2⟩
end
end
section
section
variable {u:PH} {tv sv:Value} {T:List (List UInt8×Nat)} {R:List Br} {F:List Al} {l:Nat} {ss:List (List UInt8)} {P:List Par} {X:List (List Rat)} {b:List Rat} {s c q:Rat} {w:Int} {C:CF}
variable {a1 a2 a3:Option Addr} {c1 c2 c3:Nat}
def Af7 (h:Ma u sv P X b s c q)(K:P≠[])(H:Ah3 P X b s c)(Z:P.length<=900):Fn0 prog 86 [sv] u fun r N=>Ma N r P X b s c q:=by
 obtain⟨pa,pc,xa,xc,ra,rc,rfl,V,W,Y⟩:=h;have a0:=H.n;have m:=H.bn;have z:=H.sq;have hc:=(Yg (t1:=Ae s) (t2:=Ae c) (t3:=Ae q) V W Y K (by intro e;rw[e]at m;simp at m) (fun r L e=>by have:=z.row r L;rw[e]at this;simp at this;omega) oV oV (fun r L=>by rw[z.row r L];omega) oV).giveAll;refine Fn0.weak hc ?_;rintro r N ⟨u0,m0,J,t,qa,qc,ya,yc,Q,U,O,rfl,I,j,g⟩;obtain⟨mf,E,_⟩:=g.focus 0 rfl;rw[D6]at E;have hR:Cj N (.slice Q b.length U) (b.map Ae):=by
  unfold Cj;rw[<-J7];exact E.list t
 exact⟨qa,qc,ya,yc,Q,U,rfl,I.mono J,V9 (v:=.bool true) g j t,hR⟩
def Anb (h:Mv u (.agg #[.slice a1 T.length c1,.slice a2 R.length c2,.slice a3 F.length c3,.int .i64 l]) tv T R F (l:Int) ss)(O:G4 F (l:Int) ss=false){pa xa ra:Option Addr}{pc xc rc:Nat}
 (N:Ma u (.agg #[.slice pa P.length pc,.slice xa (P.length+1) xc,.slice ra (P.length+1) rc,.string (mkS (Ae s)),.string (mkS (Ae c)),.string (mkS (Ae q))]) P X b s c q) (t:P≠[]) (L:Ah3 P X b s c) (g:P.length<=900) (z:w≠0) (E:-1000000000000<=w) (H:w<=1000000000000) :
 Fn0 prog 57 [stV pa P.length pc xa xc ra rc s c q a1 T.length c1 a2 R.length c2 a3 F.length c3 (l:Int),tv,.int .i64 w] u fun r J=>∃ e,r=.tuple #[e,.int .i64 0]/\Ma J e P X b s c q:=by
 have j:=Ail (pa:=pa) (n:=P.length) (pc:=pc) (xa:=xa) (xc:=xc) (ra:=ra) (rc:=rc) (s:=s) (c:=c) (q:=q) (w:=w) h O z E H;have m:=fun (J:PH) (I:PH.le u J)=>Af7 (N.mono I) t L g;refine Fn0.o func57<|G.c call68 j ?_;rintro v1 Y I rfl;refine G.nF 0 0<|G.c call86 (m Y I) ?_;rintro v2 u2 l2 K;obtain⟨Q,U,Z,yc,V,W,rfl,h1,h2,h3⟩:=id K;exact G.r (.tuple #[.agg #[.slice Q P.length U,.slice Z X.length yc,.slice V b.length W,.string (mkS (Ae s)),.string (mkS (Ae c)),.string (mkS (Ae q))],.int .i64 0]) ⟨rfl,_,rfl,K⟩
def Aqi (F:List Al)(l:Nat)(P:List Par)(ss:List (List UInt8)):Prop:=G4 F (l:Int) ss=false\/Av5 F l P ss
def Sg {zv:Value}(ht:Hx u)(h:Mv u zv tv T R F (l:Int) ss)(E:Aqi F l P ss)(hS:Ma u sv P X b s c q)(V:H9 P C q X b s c)(hp:Td F P q)(K:P≠[])(hC:Ug P C)(H:Ug P (C.add ((cfT F (l:Int) ss).scale (w:Rat))))(h5:P.length<=5)(L:w≠0)(N:-1000000000000<=w)(O:w<=1000000000000) :
 Fn0 prog 15 [zv,sv,tv,.int .i64 w] u fun r Q=>∃ g m b' z t,r=.tuple #[g,.int .i64 0]/\Ma Q g P m b' z t q/\H9 P (C.add ((cfT F (l:Int) ss).scale (w:Rat))) q m b' z t:=by
 have U:=V.okF hp hC;have I:=U.n;have J:=U.bn;have j:∀ (pa xa ra a1 a2 a3:Option Addr) (pc xc rc c1 c2 c3:Nat),zv=.agg #[.slice a1 T.length c1,.slice a2 R.length c2,.slice a3 F.length c3,.int .i64 l]->sv=.agg #[.slice pa P.length pc,.slice xa (P.length+1) xc,.slice ra (P.length+1) rc,.string (mkS (Ae s)),.string (mkS (Ae c)),.string (mkS (Ae q))] ->
  Fn0 prog 57 [stV pa P.length pc xa xc ra rc s c q a1 T.length c1 a2 R.length c2 a3 F.length c3 (l:Int),tv,.int .i64 w] u fun r Q=>∃ g m b' z t,r=.tuple #[g,.int .i64 0]/\Ma Q g P m b' z t q/\H9 P (C.add ((cfT F (l:Int) ss).scale (w:Rat))) q m b' z t:=by
  rintro pa xa ra a1 a2 a3 pc xc rc c1 c2 c3 rfl rfl;rcases E with E|E
  ·refine Fn0.weak (Anb h E hS K U oV L N O) ?_;rintro r Q ⟨g,rfl,k⟩;refine⟨g,X,b,s,c,rfl,k,?_⟩;rw[Als (Awu h.ok h.fit E)];exact V
  have o:=Apr h.ok h.fit E.cnt;obtain⟨h1,Z⟩:=V.stepF hp o H;obtain⟨_,_,_,_,_,_,e,W,Y,k3⟩:=hS;rw[I]at e Y;rw[J]at e k3;cases e;refine Fn0.weak (Amb ht h E W Y k3 hp K U (V.light hp hC h5) h5 L N O h1 (Z.okF hp H)) ?_;rintro r Q ⟨g,rfl,k⟩;exact⟨g,_,_,_,_,rfl,k,Z⟩
 obtain⟨⟨a1,c1,a2,c2,a3,c3,rfl,_⟩,_⟩:=id h;obtain⟨pa,pc,xa,xc,ra,rc,rfl,_⟩:=id hS;rw[I,J]at j⊢;refine Fn0.o func15<|G.c call57 (j pa xa ra a1 a2 a3 pc xc rc c1 c2 c3 rfl rfl) ?_;rintro v1 u1 l1 ⟨g,m,b',z,t,rfl,W,Y⟩;obtain⟨qa,qc,ya,yc,sa,sc,rfl,h1,Z,h3⟩:=id W;exact G.r (.tuple #[.agg #[.slice qa P.length qc,.slice ya m.length yc,.slice sa b'.length sc,.string (mkS (Ae z)),.string (mkS (Ae t)),.string (mkS (Ae q))],.int .i64 0]) ⟨rfl,_,m,b',z,t,rfl,W,Y⟩
end
end
section
variable {v v':Value}
def Ad9 {u:PH}{L g:List Par}(h:Ac u v 2 (L.map Ap))(H:Ac u v' 2 (g.map Ap))(hl:L.length<=1000000)(a0:g.length<=1000000) :
 Fn0 prog 38 [v,v'] u fun r _=>r=.bool (decide (L=g)):=by
 obtain⟨a,c,rfl⟩:=h.opn;obtain⟨V,N,rfl⟩:=H.opn;rw[A03]at h H⊢;rw[A03];refine Fn0.o func38 ?_;by_cases hn:L.length=g.length
 ·refine G.nF L.length g.length<|G.l (ι:=Nat) (fun i=>[(0,sV a L.length c),(1,sV V g.length N),(12,iV L.length),(13,iV i)]) (fun _=>[])
   (fun i u' O=>(i<=L.length/\L.take i=g.take i)/\O=PH.mt) (fun i=>L.length-i) 0 ⟨⟨oV,mV⟩,rfl⟩ ?_
  rintro J k Z u' O n ⟨⟨hk,m⟩,rfl⟩;by_cases t:k<L.length
  ·refine G.lT k L.length ?_;obtain⟨p,hp⟩:∃ p,L[k]?=some p:=⟨_,A01 t⟩;obtain⟨q,E⟩:∃ q,g[k]?=some q:=⟨_,A01 oV⟩;obtain⟨I,Q,rfl,W⟩:=Ac.at' (h.mono n) (j:=k) (e:=Ap p) (by simp[hp]);obtain⟨K,U,rfl,Y⟩:=Ac.at' (H.mono n) (j:=k) (e:=Ap q) (by simp[E]);refine G.a I Q L.length c k 2 t<|G.lU (some 2) I (Q+k*2) (.agg #[.int .i64 p.1,.string (mkS p.2)]) W<|G.a K U g.length N k 2 oV<|G.lU (some 2) K (U+k*2) (.agg #[.int .i64 q.1,.string (mkS q.2)]) Y ?_;by_cases z:p=q
   ·exact G.neAgg 118 #[.int .i64 p.1,.string (mkS p.2)] #[.int .i64 q.1,.string (mkS q.2)] true kV kV kV (fun w=>by rw[<-decide_eq_true z];exact Bq.eq p q w)<|G.i k<|G.b (Z (k+1) _ _ _ cV n ⟨⟨oV,by rw[A1n,A1n,m,hp,E,z]⟩,rfl⟩ oV)
   exact G.neAgg 118 #[.int .i64 p.1,.string (mkS p.2)] #[.int .i64 q.1,.string (mkS q.2)] false kV kV kV (fun w=>by rw[<-decide_eq_false z];exact Bq.eq p q w)<|G.r (.bool false) ⟨rfl,by rw[decide_eq_false];rintro rfl;rw[hp]at E;cases E;exact z rfl⟩
  refine G.lF k L.length ?_;have:L=g:=by rw[A1j oV,A1j oV]at m;exact m
  exact G.r (.bool true) ⟨rfl,by simp[this]⟩
 exact G.nT L.length g.length<|G.r (.bool false) ⟨rfl,by rw[decide_eq_false];rintro rfl;exact hn rfl⟩
def Amp {u:PH}{X:List (List Rat)}(h:C7 u v (Cv X))(j:C7 u v' (Cv X))(hl:X.length<=1000)(O:∀ r∈X,r.length<=1000) :
 Fn0 prog 19 [v,v'] u fun r _=>r=.bool true:=by
 obtain⟨a,c,rfl⟩:=h.opn;obtain⟨I,z,rfl⟩:=j.opn;rw[A3]at h j⊢;refine Fn0.o func19<|G.nF X.length X.length<|G.l (ι:=Nat) (fun i=>[(0,sV a X.length c),(1,sV I X.length z),(12,iV X.length),(13,iV i)]) (fun _=>[])
  (fun i u' U=>i<=X.length/\U=PH.mt) (fun i=>X.length-i) 0 ⟨oV,rfl⟩ ?_
 rintro J i N u1 m1 m ⟨hi,rfl⟩;by_cases e:i<X.length
 ·refine G.lT i X.length ?_;obtain⟨r,g⟩:∃ r,X[i]?=some r:=⟨_,A01 e⟩;have Q:=O r (A1k g);obtain⟨n,E,Y,c5,rfl,K,V⟩:=(h.mono m).row (Dw g);obtain⟨t,H,Z,c6,rfl,L,W⟩:=(j.mono m).row (Dw g);refine G.a n E X.length c i 1 e<|G.lU none n (E+i*1) _ K<|G.a t H X.length z i 1 e<|G.lU none t (H+i*1) _ L<|G.c call64 (Ag2 V W (by rw[A03];omega) (by rw[A03];omega)) ?_;rintro v2 u2 l2 rfl;rw[decide_eq_true rfl];exact G.i i<|G.b (N (i+1) _ _ _ cV (m.trans l2) ⟨oV,rfl⟩ oV)
 exact G.lF i X.length<|G.r (.bool true) ⟨rfl,rfl⟩
section
variable {u:PH} {sv sv':Value} {T:List (List UInt8×Nat)} {R:List Br} {F:List Al} {l:Nat} {P:List Par} {X:List (List Rat)} {b:List Rat} {s c q:Rat} {C:CF}
theorem Ah6 (h:Ma u sv P X b s c q)(h':Ma u sv' P X b s c q)(hP:P.length<=1000)(hX:X.length<=1000)(hr:∀ r∈X,r.length<=1000)(hb:b.length<=1000):Fn0 prog 20 [sv,sv'] u fun r _=>r=.bool true:=by
 obtain⟨pa,pc,xa,xc,ra,rc,rfl,h1,h2,h3⟩:=h;obtain⟨qa,qc,ya,yc,sa,sc,rfl,k1,k2,k3⟩:=h';refine Fn0.o func20 ?_;refine G.c call38 (Ad9 h1 k1 oV oV) ?_;rintro v1 u1 l1 rfl;rw[decide_eq_true rfl];refine G.c call19 (Amp (h2.mono l1) (k2.mono l1) hX hr) ?_;rintro v2 u2 l2 rfl;have l12:=l1.trans l2;refine G.c call64 (Ag2 (Ac.mono h3 l12) (Ac.mono k3 l12) (by rw[A03];omega) (by rw[A03];omega)) ?_;rintro v3 u3 l3 rfl;rw[decide_eq_true rfl];refine G.q (Ae s) (Ae s) rfl ?_;refine G.q (Ae c) (Ae c) rfl ?_;refine G.q (Ae q) (Ae q) rfl ?_;exact G.r (.bool true) ⟨rfl,rfl⟩
def T9 {j:List (List Rat)}{b':List Rat}{z m:Rat}(h:Ma u sv P X b s c q)(K:Ma u sv' P j b' z m q)(t:H9 P C q X b s c)(g:H9 P C q j b' z m)(hp:Td F P q)(L:Ug P C):Fn0 prog 20 [sv,sv'] u fun r _=>r=.bool true:=by
 obtain⟨E,H,I,J⟩:=t.uniq g;subst E H I J;have e:=t.okF hp L;have Q:=hp.le;have N:=e.n;have O:=e.bn;exact Ah6 h K oV oV (fun r U=>by rw[e.sq.row r U];omega) oV
def Vb {p t:Nat}(hp:p<=100000)(e:t<=100000):Fn0 prog 39 [.int .i64 p,.int .i64 t] u fun r _=>r=.bool (decide (t<=p/2+p%2)):=by
 refine Fn0.o func39<|G.hT p 0<|G.hT t 0<|G.quo (p:Int) 2 ((p/2:Nat):Int) kV oV oV oV oV<|G.rem (p:Int) 2 ((p%2:Nat):Int) kV oV oV oV oV<|G.p (p/2:Nat) (p%2:Nat) (p/2+p%2:Nat) ?_;by_cases h:t<=p/2+p%2
 ·exact G.kT t (p/2+p%2:Nat)<|G.r (.bool true) ⟨rfl,by rw[decide_eq_true h]⟩
 exact G.kF t (p/2+p%2:Nat)<|G.r (.bool false) ⟨rfl,by rw[decide_eq_false h]⟩
end
end
section
variable {i j:Nat}
def U9 (v p g:Int)(k:Nat)(R row:List Int):List Int:=(List.range row.length).map fun j=>if k<j then (gZ row j*p-g*gZ R j)/v else gZ row j
def Abe (v p g:Int)(k:Nat)(R row:List Int):(U9 v p g k R row).length=row.length:=by simp[U9]
def Afq {v p g:Int}{k:Nat}{R row:List Int}(h:j<row.length):gZ (U9 v p g k R row) j=if k<j then (gZ row j*p-g*gZ R j)/v else gZ row j:=by
 unfold U9;exact Abr _ h
def LdN (n k:Nat)(v:Int)(X Y:List (List Int))(i:Nat):Prop:=E8 n n Y/\∀ r,r<n->gMZ Y r=if k<r/\r<i then U9 v (enZ X k k) (enZ X r k) k (gMZ X k) (gMZ X r) else gMZ X r
def LdN.init {n k:Nat}{v:Int}{X:List (List Int)}(h:E8 n n X):LdN n k v X X (k+1):=⟨h,fun r e=>by rw[if_neg oV]⟩
def LdN.row {n k:Nat}{v:Int}{X Y:List (List Int)}(h:LdN n k v X Y i)(m:E8 n n X)(hi:i<n)(t:k<i):LdN n k v X (Y.set i (U9 v (enZ X k k) (enZ X i k) k (gMZ X k) (gMZ X i))) (i+1):=by
 refine⟨Lt h.1 hi (by rw[Abe];exact m.2 i hi),fun r u=>?_⟩;rw[Kv (by rw[h.1.1];exact hi)];by_cases e:i=r
 ·subst e;rw[if_pos rfl,if_pos ⟨t,oV⟩]
 rw[if_neg e,h.2 r u];by_cases g:k<r/\r<i
 ·rw[if_pos g,if_pos ⟨g.1,oV⟩]
 rw[if_neg g,if_neg oV]
def LdN.at {n k:Nat}{v:Int}{X Y:List (List Int)}(h:LdN n k v X Y n)(t:E8 n n X){i j:Nat}(hi:i<n)(u:j<n):enZ Y i j=if k<i/\k<j then (enZ X i j*enZ X k k-enZ X i k*enZ X k j)/v else enZ X i j:=by
 have m:=h.2 i hi;unfold enZ at m⊢;rw[m];by_cases e:k<i
 ·rw[if_pos ⟨e,hi⟩,Afq (by rw[t.2 i hi];exact u)];by_cases g:k<j
  ·rw[if_pos g,if_pos ⟨e,g⟩]
  rw[if_neg g,if_neg oV]
 rw[if_neg oV,if_neg oV]
structure Tc (n:Nat)(M:Nat->Nat->Int)(E k:Nat)(v:Int)(X:List (List Int)):Prop where
 rc:E8 n n X
 v0:0<v
 vs:nl v.natAbs<=zs E k
 sz:∀ i j,i<n->j<n->nl (enZ X i j).natAbs<=zs E k
 bar:∃ P S,Bar n M P k v S/\∀ i j,k<=i->i<n->k<=j->j<n->S i j=enZ X i j
 sch:∀ i j,k<=i->i<n->k<=j->j<n->(enZ X i j:Rat)=(v:Rat)*C6 (fun i j=>(M i j:Rat)) k i j
section
variable {n:Nat} {M:Nat->Nat->Int} {E k:Nat} {v:Int} {X Y:List (List Int)}
def Tc.init (m:E8 n n X)(h:∀ i j,i<n->j<n->enZ X i j=M i j)(t:∀ i j,i<n->j<n->nl (M i j).natAbs<=E)(g:1<=E):Tc n M E 0 1 X :=
 ⟨m,fV,A04 (nl1 (n:=1) oV) g,fun i j hi e=>by rw[h i j hi e];exact t i j hi e,⟨fun _=>0,M,Bar.init n M _,fun i j _ hi _ e=>(h i j hi e).symm⟩,
  fun i j _ hi _ e=>by rw[h i j hi e];show _=((1:Int):Rat)*(M i j:Rat);rw[show ((1:Int):Rat)=1 from rfl,Rat.one_mul]⟩
def Tc.piv (h:Tc n M E k v X)(z:∀ i k,i<n->k<n->(M i k:Rat)=(M k i:Rat))(hp:∀ x,(∃ i,i<n/\x i≠0)->0<frm n (fun i j=>(M i j:Rat)) x)(e:k<n):0<enZ X k k:=by
 have m:=h.sch k k (A08 _) e (A08 _) e;have t:=Akt z hp e;have u:(0:Rat)<(v:Rat):=by exact_mod_cast h.v0
 have g:=Rat.mul_pos u t;rw[<-m]at g
 exact_mod_cast g
def Tc.fit (h:Tc n M E k v X)(e:k<n)(hi:i<n)(g:j<n):nl (enZ X i j*enZ X k k).natAbs<=2*zs E k/\nl (enZ X i k*enZ X k j).natAbs<=2*zs E k/\nl (enZ X i j*enZ X k k-enZ X i k*enZ X k j).natAbs<=2*zs E k+1/\nl ((enZ X i j*enZ X k k-enZ X i k*enZ X k j)/v).natAbs<=2*zs E k+1 :=
 Vw (h.sz k k e e) (h.sz i k hi e) (h.sz i j hi g) (h.sz k j e g)
theorem Tc.step (h : Tc n M E k v X) (L : ∀ i k, i < n → k < n → (M i k : Rat) = (M k i : Rat)) (hp : ∀ x, (∃ i, i < n ∧ x i ≠ 0) → 0 < frm n (fun i j => (M i j : Rat)) x) (g : k < n) (R : LdN n k v X Y n) : Tc n M E (k + 1) (enZ X k k) Y := by
  have K := h.piv L hp g
  obtain ⟨P, S, Q, C⟩ := h.bar
  have u : S k k = enZ X k k := C k k (A08 _) g (A08 _) g
  have T : S k k ≠ 0 := by rw [u]; omega
  have hz : zs E (k + 1) = 2 * zs E k + 2 := rfl
  have H := fun (i j : Nat) (hi : i < n) (J : i ≠ k) => Q.dvdAll g T i j hi J
  have F := fun (i j : Nat) (hi : i < n) (I : j < n) => R.at h.rc hi I
  refine ⟨R.1, K, A04 (h.sz k k g g) oV, fun i j hi I => ?_, ⟨Kc P k k, fun i j => if i = k then S k j else (S i j * S k k - S i k * S k j) / v, ?_, fun i j Z m h3 t => ?_⟩, fun i j Z m h3 t => ?_⟩
  · rw [F i j hi I]
    split
    · have := (h.fit g hi I).2.2.2; omega
    have := h.sz i j hi I; omega
  · rw [← u]
    refine Q.step g T (fun j => by rw [if_pos rfl]) fun i hi J j => ?_
    rw [if_neg J]
    exact Int.mul_ediv_cancel' (H i j hi J)
  · dsimp only
    rw [if_neg oV, F i j m t, if_pos ⟨oV, by omega⟩, u, C i j oV m oV t, C i k oV m (A08 _) g, C k j (A08 _) g oV t]
  have U : v * enZ Y i j = enZ X i j * enZ X k k - enZ X i k * enZ X k j := by
    rw [F i j m t, if_pos ⟨oV, by omega⟩]
    refine Int.mul_ediv_cancel' ?_
    have := H i j m oV
    rwa [u, C i j oV m oV t, C i k oV m (A08 _) g, C k j (A08 _) g oV t] at this
  have O : (v : Rat) * (enZ Y i j : Rat) = (enZ X i j : Rat) * (enZ X k k : Rat) - (enZ X i k : Rat) * (enZ X k j : Rat) := by exact_mod_cast congrArg (fun z : Int => (z : Rat)) U
  have hv : (v : Rat) ≠ 0 := by have := h.v0; intro e; have : v = 0 := by exact_mod_cast e
                                omega
  have a0 := Akt L hp g
  have N := O9 L k j k t g
  rw [h.sch i j oV m oV t, h.sch k k (A08 _) g (A08 _) g, h.sch i k oV m (A08 _) g, h.sch k j (A08 _) g oV t] at O
  rw [h.sch k k (A08 _) g (A08 _) g]
  show _ = _ * (C6 _ k i j - C6 _ k i k / C6 _ k k k * (C6 _ k j k / C6 _ k k k) * C6 _ k k k)
  rw [N]
  generalize (enZ Y i j : Rat) = y at *
  generalize C6 (fun i j => (M i j : Rat)) k i j = a at *
  generalize C6 (fun i j => (M i j : Rat)) k i k = b at *
  generalize C6 (fun i j => (M i j : Rat)) k k j = c at *
  generalize C6 (fun i j => (M i j : Rat)) k k k = d at *
  have hd : d ≠ 0 := by grind
  have e3 : (v : Rat) * y = (v : Rat) * ((v : Rat) * (a * d - b * c)) := by rw [O]; grind
  have V : y = (v : Rat) * (a * d - b * c) := by grind
  rw [V]
  have W : b / d * (c / d) * d = b * c / d := by grind
  rw [W]
  have e6 : b * c / d * d = b * c := by grind
  generalize b * c / d = w at *
  grind
end
end
end Go.Proofs.YtemmheaocgmebaaGreatDoor
