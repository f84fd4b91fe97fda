import Derived.Test.YtemmheaocgmebaaGreatDoorV13
set_option linter.defProp false
set_option linter.unusedVariables false
set_option linter.unusedSimpArgs false
set_option linter.unusedSectionVars false
set_option maxHeartbeats 16000000
namespace Go.Proofs.YtemmheaocgmebaaGreatDoor
open Go.Proofs.Tryz
open Go.RowKit Go.MapKept
section
variable {f:Nat->Nat->Rat}{i n:Nat}{x:Nat->Rat}
def sqL (n:Nat)(f:Nat->Nat->Rat):zM:=(List.range n).map fun i=>(List.range n).map fun k=>f i k
def Aj7 (hi:i<n):gM (sqL n f) i=(List.range n).map fun k=>f i k:=by
 unfold sqL gM;rw[A02,A1a,A31 hi];rfl
def Rh (n:Nat)(f:Nat->Nat->Rat):Rec n n (sqL n f):=⟨by simp[sqL],fun i hi=>by rw[Aj7 hi];simp⟩
def N6 {i k:Nat}(hi:i<n)(e:k<n):en (sqL n f) i k=f i k:=by
 unfold en gR;rw[Aj7 hi,A02,A1a,A31 e];rfl
def Aik {X Y A:Nat->Nat->Rat}(h:Fe n X A)(e:∀ i k,i<n->k<n->Y i k=X i k):Fe n Y A:=fun i k hi t=>by
 rw[<-h i k hi t];exact Ah fun j m=>by rw[e i j hi m]
def Nj (n:Nat)(X:zM)(x:Nat->Rat)(w:Rat):zM:=sqL n (Vd n (en X) x w)
section
variable {P:List Par} {C H:CF} {q w:Rat} {X:zM}
def H6.step (h:H6 P C q X)(o:Qi H)(j:P.Nodup)(u:0<(C.add (H.scale w)).c)(F:0<q)(e:∀ z,0<=Dh z P (C.add (H.scale w))) :
 byN (P.length+1) (en X) (Fg P H.s) w≠0/\H6 P (C.add (H.scale w)) q (Nj (P.length+1) X (Fg P H.s) w):=by
 obtain⟨m,t⟩:=Apz o j u F e h.inv;exact⟨m,Rh _ _,Aik t fun i k hi E=>N6 hi E⟩
def H6.of_right (e:Rec (P.length+1) (P.length+1) X)(h:Fe (P.length+1) (en (Eh C P q)) (en X)):H6 P C q X:=⟨e,Apf Mn h⟩
theorem Bea {X:Nat->Nat->Rat}{w:Rat}(i k:Nat)(e:byN n X x w≠0):X i k-w*Fy n X x i*Fy n (fun i k=>X k i) x k/byN n X x w=Vd n X x w i k:=by
 unfold Vd;generalize byN n X x w=d at *
 grind
theorem Bek {X:Nat->Nat->Rat}{w:Rat}:1+Bb n (fun i=>w*x i*Fy n X x i)=byN n X x w:=by
 unfold byN Vq;rw[<-B4];have e:Bb n (fun i=>w*x i*Fy n X x i)=Bb n (fun i=>w*(x i*Fy n X x i)):=Ah fun j h=>by grind
 rw[e]
theorem Ah5 (o:Qi H):(An P).map (Bh (C.add (H.scale w)))=(An P).map fun e=>Bh C e+w*Zg H.s e*H.s B7 :=
 A41 fun e _=>by rw[Bde,o.right];grind
end
end
section
structure H9 (P:List Par)(C:CF)(q:Rat)(X:zM)(b:zR)(s c:Rat):Prop where
 inv:H6 P C q X
 rt:b=(An P).map (Bh C)
 sq:s=C.t (Ay B7 B7)
 ct:c=C.c
section
variable {P:List Par} {C H G:CF} {q w v s c s' c':Rat} {X X':zM} {b b':zR}
def H9.uniq (h:H9 P C q X b s c)(e:H9 P C q X' b' s' c'):X=X'/\b=b'/\s=s'/\c=c' :=
 ⟨h.inv.uniq e.inv,by rw[h.rt,e.rt],by rw[h.sq,e.sq],by rw[h.ct,e.ct]⟩
def Pq (P:List Par)(b:zR)(x:Par->Rat)(w y:Rat):zR:=(List.range (P.length+1)).map fun i=>gR b i+w*Fg P x i*y
def Aqv (o:Qi H):Pq P ((An P).map (Bh C)) H.s w (H.s B7)=(An P).map (Bh (C.add (H.scale w))):=by
 rw[Ah5 o];refine A4g fun i=>?_;unfold Pq;rw[A1a,A1a];by_cases hi:i<P.length+1
 ·have e:i<(An P).length:=by rw[Cp];exact hi
  rw[A31 hi,A01 e];unfold Fg;have h:(An P).getD i none=(An P)[i]:=by rw[A02,A01 e];rfl
  have j:gR ((An P).map (Bh C)) i=Bh C (An P)[i]:=by
   unfold gR;rw[A02,A1a,A01 e];rfl
  show some (gR ((An P).map (Bh C)) i+w*Zg H.s ((An P).getD i none)*H.s B7)=_;rw[h,j];rfl
 rw[A1v (by rw[List.length_range];omega),A1v (by rw[Cp];omega)];rfl
theorem H9.step (h:H9 P C q X b s c)(o:Qi H)(j:P.Nodup)(E:0<(C.add (H.scale w)).c)(F:0<q)(e:∀ z,0<=Dh z P (C.add (H.scale w))) :
 byN (P.length+1) (en X) (Fg P H.s) w≠0/\H9 P (C.add (H.scale w)) q (Nj (P.length+1) X (Fg P H.s) w) (Pq P b H.s w (H.s B7)) (s+w*H.s B7*H.s B7) (c+w):=by
 obtain⟨m,u⟩:=h.inv.step o j E F e;refine⟨m,u,by rw[h.rt,Aqv o],?_,?_⟩
 ·show s+w*H.s B7*H.s B7=C.t (Ay B7 B7)+H.t (Ay B7 B7)*w;rw[h.sq,o.t];grind
 show c+w=C.c+H.c*w;rw[h.ct,o.c];grind
end
end
section
variable {F:List Al}{T:zC}{lab:Int}{ss:zW}{x:Rat}
def Ko (P:List Par)(x:Par->Rat):zR:=(An P).map (Zg x)
def Ad6 (P:List Par)(x:Par->Rat):(Ko P x).length=P.length+1:=by unfold Ko;rw[A03,Cp]
def V1 {P:List Par}{x:Par->Rat}{i:Nat}(hi:i<P.length+1):gR (Ko P x) i=Fg P x i:=by
 have e:i<(An P).length:=by rw[Cp];exact hi
 unfold Ko Fg gR;rw[A02,A1a,A02,A01 e];rfl
def Avy {P:List Par}(hF:Da T F lab)(t:Bw T ss)(h:-1<=lab)(j:∀ l:Nat,lab=(l:Int)->l<ss.length)(m:G4 F lab ss=true)(hp:∀ p∈P,0<=p.1) :
 F5 P (Dx F ss F.length)=(Ko P (cfT F lab ss).s).map Ae:=by
 unfold F5 Ko An;rw[A2u,A2u,A9h,A9h]
 congr 1
 ·exact Sv.symm
 exact A41 fun p e=>by
  show Ae (Fo p _)=Ae ((cfT F lab ss).s p);rw[Acn hF t h j m (hp p e)]
def Abm {P:List Par}(hF:Da T F lab)(t:Bw T ss)(H:-1<=lab)(I:∀ l:Nat,lab=(l:Int)->l<ss.length)(J:G4 F lab ss=true)(hp:∀ p∈P,0<=p.1):∀ x∈Ko P (cfT F lab ss).s,SmW x:=fun x u=>by
 unfold Ko at u;obtain⟨e,h,rfl⟩:=A1b.1 u;unfold An at h;rcases A1g.1 h with rfl|h
 ·exact I7
 obtain⟨p,j,rfl⟩:=A1b.1 h;show SmW ((cfT F lab ss).s p);rw[Acn hF t H I J (hp p j)];by_cases m:p∈(Dx F ss F.length).map (·.1)
 ·obtain⟨y,E,rfl⟩:=A1b.1 m;rw[Kh (a:=y.1) (q:=y.2) (Nb F ss F.length (A08 _)) E];exact Att hF t y E
 rw[Na m];exact Afe
section
variable {P:List Par} {C:CF} {q:Rat} {N:Nat} {X:zM} {b:zR} {s c:Rat}
def H6.cell (h:H6 P C q X){r:zR}(E:r∈X)(H:x∈r):∃ j k,j<P.length+1/\k<P.length+1/\x=en X j k:=by
 obtain⟨j,m,rfl⟩:=A3d.1 E;obtain⟨k,u,rfl⟩:=A3d.1 H;have e:j<P.length+1:=by rw[<-h.rc.1];exact m
 have t:=h.rc.2 j e;rw[Ch m]at t;refine⟨j,k,e,by rw[<-t];exact u,?_⟩;unfold en;rw[Ch m,Cu u]
def H6.sqr (h:H6 P C q X)(e:P.length<=11)(hT:∀ r∈X,∀ x∈r,Tx x):Sq X:=by
 refine⟨by rw[h.rc.1];omega,fun r j=>?_,hT⟩;obtain⟨i,hi,rfl⟩:=A3d.1 j;have:=h.rc.2 i (by have:=h.rc.1;omega);rw[Ch hi]at this;rw[this,h.rc.1]
def H6.txs (h:H6 P C q X)(t:In N C)(E:N<=33000000000)(K:Fd q)(u:P.Nodup)(H:0<C.c)(e:∀ z,0<=Dh z P C)(m:P.length<=11):∀ r∈X,∀ x∈r,Tx x:=fun r L x Q=>by
 obtain⟨j,k,I,J,rfl⟩:=h.cell L Q;exact (h.de t E K u H e m j k I J).tx oV oV oV oV
def Air {N:Nat}(h:Dn 2 N x)(e:N<=33000000000):De 11 3 x:=h.de oV fV
def Av6 (h:In N C)(j:N<=33000000000):∀ x∈Yz C P,De 11 3 x:=fun x m=>by
 obtain⟨e,_,rfl⟩:=A1b.1 m;exact Air (h.r e) j
structure Ah3 (P:List Par)(X:zM)(b:zR)(s c:Rat):Prop where
 n:X.length=P.length+1
 bn:b.length=P.length+1
 sq:Sq X
 bt:∀ x∈b,Tx x
 st:Tx s
 ct:Tx c
def H9.ok (h:H9 P C q X b s c)(e:In N C)(t:N<=33000000000)(I:Fd q)(u:P.Nodup)(H:0<C.c)(m:∀ z,0<=Dh z P C)(j:P.length<=11):Ah3 P X b s c where
 n:=h.inv.rc.1
 bn:=by rw[h.rt,A03,Cp]
 sq:=h.inv.sqr j (h.inv.txs e t I u H m j)
 bt:=fun x E=>by
  rw[h.rt]at E;exact (Av6 (P:=P) e t x E).tx oV oV oV oV
 st:=by rw[h.sq];exact (Air e.l t).tx oV oV oV oV
 ct:=by rw[h.ct];exact (Air (e.c none none) t).tx oV oV oV oV
def Bdv {n:Nat}{f:Nat->Int}{M:Nat}:(∀ i,i<n->(f i).natAbs<=M)->∃ z:Int,(Bb n fun i=>(f i:Rat))=z/\z.natAbs<=n*M:=by
 induction n with
 |zero=>exact fun _=>⟨0,rfl,mV⟩
 |succ n ih =>
  intro h;obtain⟨z,e,j⟩:=ih fun i hi=>h i oV;refine⟨z+f n,by rw[Ds,e,A7d],?_⟩;have:=h n oV;rw[Nat.succ_mul];omega
end
end
theorem Ad4 {α:Type}[DecidableEq α]{f:α->Rat}{x:α}:∀ {l:List α},l.Nodup->x∈l->B9 (fun y=>if y=x then f y else 0) l=f x
 |y::l,hn,hx=>by
  obtain⟨j,m⟩:=A4j.1 hn;show (if y=x then f y else 0)+B9 (fun y=>if y=x then f y else 0) l=f x;by_cases e:y=x
  ·subst e;rw[if_pos rfl,Fv fun z t=>if_neg fun (e:z=y)=>j (e▸t)];grind
  rw[if_neg e,Ad4 m ((A1g.1 hx).resolve_left fun h=>e h.symm)];grind
section
section
variable {u:PH} {T:zC} {R:List Br} {F:List Al} {lab:Int} {ss:zW} {L:List Dm} {P:List Par}
def A00 (ok:Bl u T R F lab)(I:Bw T ss)(J:G4 F lab ss=true){i:Nat}{a m:Nat}(hi:F[i]?=some (a,2,m))(c:zB):(cfT F lab ss).s ((i:Int),c)=if ss.getD a []=c then 1 else 0:=by
 have H:=I.len;rw[Acn ok.feat I ok.l1 (fun l e=>by have:=Iz ok l e;omega) J (by show (0:Int)<=(i:Int);omega)];have C:=(A05.1 hi).1;by_cases e:ss.getD a []=c
 ·rw[if_pos e];refine Kh (Nb F ss F.length (A08 _)) (F9.2 ⟨i,_,C,hi,?_⟩);unfold Jf;rw[if_pos rfl,e]
 rw[if_neg e];refine Na fun K=>?_;obtain⟨x,Q,h⟩:=A1b.1 K;obtain⟨k,f,_,E,j⟩:=F9.1 Q;have t:=Ow j;rw[h]at t;obtain rfl:k=i:=by have t:(i:Int)=(k:Int):=t;omega
 rw[hi]at E;cases E;unfold Jf at j;rw[if_pos rfl]at j;cases j;cases h;exact e rfl
def Awu (ok:Bl u T R F lab)(m:Bw T ss)(t:G4 F lab ss=false):Ag0 (cfT F lab ss):=by
 have j:=m.len;rcases Pf ok.feat m ok.l1 (fun l e=>by have:=Iz ok l e;omega) with ⟨h,_⟩|⟨_,h⟩
 ·rw[t]at h;cases h
 exact h
def Apr (ok:Bl u T R F lab)(m:Bw T ss)(t:G4 F lab ss=true):Qi (cfT F lab ss):=by
 have j:=m.len;rcases Pf ok.feat m ok.l1 (fun l e=>by have:=Iz ok l e;omega) with ⟨_,h⟩|⟨h,_⟩
 ·exact h
 rw[t]at h;cases h
end
end
section
variable {H:CF}{X:zM}{b:zR}{c s:Rat}
section
variable {u:PH} {T:zC} {R:List Br} {F:List Al} {lab:Int} {L:List Dm} {xv cv:Value} {P:List Par} {K:Nat}
def Atw (ok:Bl u T R F lab)(J:T.length<=8)(hT:∀ y∈L,Bw T y.1/\y.2.1<=7)(h:L.length<=10):CFD 16 (10^75) (Cf F lab L):=by
 obtain⟨d,_⟩:=Alz ok hT;refine d.to oV ?_;have e:12^(16-2*T.length)=144^(8-T.length):=by
  rw[show 16-2*T.length=2*(8-T.length) by omega,Nat.pow_mul]
 have m:144^(8-T.length)<=1374926400^(8-T.length):=Nat.pow_le_pow_left oV _;have t:1374926400^T.length*1374926400^(8-T.length)=1374926400^8:=by rw[<-A4k];congr 1;omega
 have E:1374926400^8*70<=10^75:=jV
 rw[e];have j:L.length*(1374926400^T.length*7)*144^(8-T.length)<=10*(1374926400^T.length*7)*1374926400^(8-T.length):=A25 (A13 _ h) m;have I:10*(1374926400^T.length*7)*1374926400^(8-T.length)=(1374926400^T.length*1374926400^(8-T.length))*70:=by
  generalize 1374926400^T.length=a;generalize 1374926400^(8-T.length)=b;rw[A19 10,A17 a 7 10,A17 a b 70,A17 a (7*10) b,A19 (7*10) b]
 rw[I,t]at j;exact A04 j E
def Ajm (U:H5 u xv T R F lab)(ok:Bl u T R F lab)(t:T.length<=8)(hT:∀ y∈L,Bw T y.1/\y.2.1<=7)(h:L.length<=10)(I:No u cv (Cf F lab L) K)(J:K<=10000)(Q:Nn F (Cf F lab L) P)(m:P.length<=24)(e:0<=lab) :
 ∃ k,Te u xv cv T R F lab (Cf F lab L) K k P:=by
 obtain⟨k,V,W⟩:=Arb ok.feat ok.l1 (Iz ok) hT;obtain⟨Y,E⟩:=Aee ok t hT oV;have j:=L0 ok ok.l1 (Iz ok) hT;exact⟨k,U,ok,I,Y,E,J,Avj,Avn j oV E V oV,Q,m,e,Atw ok t hT h⟩
end
section
variable {u:PH} {v cv:Value} {T:zC} {R:List Br} {F:List Al} {lab:Int} {C:CF} {K k:Nat} {P:List Par}
def Te.w (h:Te u v cv T R F lab C K k P):Aam u v cv T R F lab C K k :=
 ⟨h.sch,h.ok,h.cof,h.sC,h.vC,h.K,h.bel,h.mom,fun j e=>by rw[<-h.prm.eq e];exact h.p24,h.lab0⟩
structure Ug (P:List Par)(C:CF):Prop where
 cd:∃ N,N<=33000000000/\In N C
 pos:0<C.c
 psd:∀ z,0<=Dh z P C
structure Td (F:List Al)(P:List Par)(q:Rat):Prop where
 srt:Hb Bk P
 le:P.length<=11
 par:∀ p∈P,0<=p.1
 pen:Fd q
def H9.okF {q:Rat}(h:H9 P C q X b s c)(hp:Td F P q)(e:Ug P C):Ah3 P X b s c:=by
 obtain⟨N,m,j⟩:=e.cd;exact h.ok j m hp.pen (hp.srt.nodup Et) e.pos e.psd hp.le
def H9.light {q:Rat}{X:zM}{b:zR}{s c:Rat}(h:H9 P C q X b s c)(hp:Td F P q)(e:Ug P C)(m:P.length<=5):∃ L,Y5 X L 86:=by
 obtain⟨N,t,j⟩:=e.cd;exact h.inv.light j t hp.pen (hp.srt.nodup Et) e.pos e.psd m
def H9.stepF {w q:Rat}(h:H9 P C q X b s c)(hp:Td F P q)(o:Qi H)(e:Ug P (C.add (H.scale w))) :
 byN (P.length+1) (en X) (Fg P H.s) w≠0/\H9 P (C.add (H.scale w)) q (Nj (P.length+1) X (Fg P H.s) w) (Pq P b H.s w (H.s B7)) (s+w*H.s B7*H.s B7) (c+w) :=
 h.step o (hp.srt.nodup Et) e.pos hp.pen.pos e.psd
def Axc:Value:=.agg #[zN,zN,zN,zE,zE,zE]
def Ma (u:PH)(v:Value)(P:List Par)(X:zM)(b:zR)(s c q:Rat):Prop :=
 ∃ (pa:zP) (pc:Nat) (xa:zP) (xc:Nat) (ra:zP) (rc:Nat),v=.agg #[.slice pa P.length pc,.slice xa X.length xc,.slice ra b.length rc,zS (Ae s),zS (Ae c),zS (Ae q)] /\
  Ac u (.slice pa P.length pc) 2 (P.map Ap)/\C7 u (.slice xa X.length xc) (Cv X)/\Cj u (.slice ra b.length rc) (b.map Ae)
def Ma.mono {u m:PH}{v:Value}{X:zM}{b:zR}{s c q:Rat}(h:Ma u v P X b s c q)(j:PH.le u m):Ma m v P X b s c q:=by
 obtain⟨pa,pc,xa,xc,ra,rc,e,t,E,I⟩:=h;exact⟨pa,pc,xa,xc,ra,rc,e,t.mono j,E.mono j,Ac.mono I j⟩
end
section
variable {u:PH} {T:zC} {R:List Br} {F:List Al} {lab:Int} {L:List Dm} {C:CF} {P:List Par} {q:Rat}
theorem Vx (ok:Bl u T R F lab)(hT:∀ y∈L,Bw T y.1/\y.2.1<=7)(h13:L.length<=13)(hc:0<(Cf F lab L).c):Ug P (Cf F lab L) :=
 ⟨⟨_,oV,L0 ok ok.l1 (Iz ok) hT⟩,hc,fun z=>Af3 ok.feat ok.l1 (Iz ok) z P fun y hy=>(hT y hy).1⟩
def Al6 (h:Nn F C P)(j:Fd q)(e:P.length<=11):Td F P q :=
 ⟨h.1,e,fun p hp=>by
  rcases (h.2 p).1 hp with ⟨i,f,rfl,_⟩|⟨_,i,f,m,_⟩
  ·show 0<=(i:Int);omega
  omega,j⟩
theorem Als (h:Ag0 H)(w:Rat):C.add (H.scale w)=C:=by
 cases C;simp only[CF.add,CF.scale,h.c]
 congr 1
 ·grind
 ·funext p;rw[h.s];grind
 funext p;rw[h.t];grind
end
end
def Axa (n:Nat)(X:zM)(y:Nat->Rat):Prop:=∀ i,i<n->Bb n (fun j=>en X i j*y j)=0
theorem Aq3 {n w r c p:Nat}{X:zM}{y:Nat->Rat}(h:Rec n w X)(U:n<=w)(t:r<n)(hp:p<n)(T:c<n)(h0:en X p c≠0)(Q:Axa n (J8 X r c p) y):Axa n X y:=by
 have H:Rec n w (if p=r then X else If X p r):=by
  split
  ·exact h
  exact Mk h hp t
 have m:∀ i j,en (if p=r then X else If X p r) i j=if i=r then en X p j else if i=p then en X r j else en X i j:=fun i j=>by
  split
  ·rename_i e;subst e;split
   ·rename_i e;rw[e]
   rfl
  rw[Si h hp t]
 have F:∀ k j,k<n->j<w->en (J8 X r c p) k j=if k=r then en X p j*(1/en X p c) else (if k=p then en X r j else en X k j)-(if k=p then en X r c else en X k c)*(en X p j*(1/en X p c)):=by
  intro k j L K;unfold J8;rw[h.1,Acm t oV n 0 _ oV (R8 H t) k j K,Jd H t k j,Jd H t k c,Jd H t r j,if_pos rfl,m k j,m k c,m r j,m r c,if_pos rfl,if_pos rfl];by_cases e:k=r
  ·rw[if_neg oV,if_pos e,if_pos e,if_pos e]
  rw[if_pos ⟨oV,oV,e⟩,if_neg e,if_neg e,if_neg e,if_neg e,if_neg e]
 have R:en X p c*(1/en X p c)=1:=by grind
 generalize 1/en X p c=q at *
 have E:Bb n (fun j=>en X p j*y j)=0:=by
  have u:=Q r t;rw[Ah (g:=fun j=>(en X p j*q)*y j) fun j K=>by rw[F r j t oV,if_pos rfl],Afg]at u;generalize Bb n (fun j=>en X p j*y j)=S at *
  have:en X p c*(q*S)=en X p c*0:=by rw[u]
  grind
 have C:∀ k,k<n->k≠r->Bb n (fun j=>(if k=p then en X r j else en X k j)*y j)=0:=by
  intro k L P;have u:=Q k L;rw[Ah (g:=fun j=>((if k=p then en X r j else en X k j)-((if k=p then en X r c else en X k c)*q)*en X p j)*y j) fun j K=>by rw[F k j L oV,if_neg P];grind,Aes,E]at u;grind
 intro i hi;by_cases I:i=p
 ·rw[I];exact E
 by_cases J:i=r
 ·have u:=C p hp (fun e=>I (by rw[J,e]));rw[J];simpa using u
 have u:=C i hi J;simpa[I] using u
def Aak (n i:Nat)(f:Nat->Rat)(hi:i<n):Bb n (fun k=>if k=i then f k else 0)=f i:=by
 unfold Bb;exact Ad4 (f:=f) List.nodup_range (A6q.2 hi)
theorem Af4 {n w:Nat}(H:n<=w):∀ f c P X d,c+f=n->P.length=c->Rec n w X->(∀ i j,i<n->j<c->en X i j=if i=j then 1 else 0) ->
 (Bn f c P X d).1.length<n->∃ y,Axa n X y/\∃ j,j<n/\y j≠0
 |0,c,P,X,d,hc,hP,h,hu,t=>by
  have L:Bn 0 c P X d=(P,X,d):=rfl;rw[L]at t;simp only at t;omega
 |f+1,c,P,X,d,hc,hP,h,hu,t=>by
  revert t
  unfold Bn;rw[if_pos (show P.length<X.length by rw[h.1];omega)];obtain⟨W,Y⟩:=Ss X c (X.length-P.length) P.length;have R:=Yq X c (X.length-P.length) P.length;have T:=W7 X c (X.length-P.length) P.length;generalize El X c (X.length-P.length) P.length=p at *
  have V:=h.1;split
  ·rename_i hpx;intro _;have Q:∀ i,c<=i->i<n->en X i c=0:=fun i I J=>R i oV oV;obtain⟨y,K⟩:∃ y:Nat->Rat,y=fun j=>if j<c then -(en X j c) else if j=c then 1 else 0:=⟨_,rfl⟩
   refine⟨y,fun i hi=>?_,c,oV,?_⟩
   ·rw[Ah (g:=fun j=>(if j=c then en X i c else 0)+if j=i then (if i<c then -(en X i c) else 0) else 0) fun j U=>by
     rw[K];dsimp only;by_cases E:j<c
     ·rw[if_pos E,hu i j hi E,if_neg (show ¬ j=c by omega)];by_cases m:i=j
      ·rw[if_pos m,if_pos m.symm,if_pos oV,m];grind
      rw[if_neg m,if_neg (Ne.symm m)];grind
     rw[if_neg E];by_cases m:j=c
     ·rw[if_pos m,if_pos m,m];by_cases C:c=i
      ·rw[if_pos C,if_neg oV];grind
      rw[if_neg C];grind
     rw[if_neg m,if_neg m];by_cases C:j=i
     ·rw[if_pos C,if_neg oV];grind
     rw[if_neg C];grind,F7,Aak n c (fun _=>en X i c) oV,Aak n i (fun _=>if i<c then -(en X i c) else 0) hi]
    by_cases e:i<c
    ·rw[if_pos e];grind
    rw[if_neg e,Q i oV hi];decide +kernel
   rw[K];dsimp only;rw[if_neg (Nat.lt_irrefl _),if_pos rfl];decide +kernel
  rename_i hpx;intro t;have u:p<n:=oV;have h0:=T oV;rw[hP]at t;have F:=Yt h H (show c<n by omega) u oV h0 hu;obtain⟨y,I,J⟩:=Af4 H f (c+1) (P++[c]) (J8 X c c p) _ oV (by simp[hP]) (Xw h oV u) F t;exact⟨y,Aq3 h H oV u oV h0 I,J⟩
section
variable {A:zM}{i n:Nat}
def Lf (n:Nat)(A:zM):zM:=(List.range n).map fun i=>gM A i++(List.range n).map fun k=>idN i k
def Sp (hi:i<n):gM (Lf n A) i=gM A i++(List.range n).map fun k=>idN i k:=by
 unfold Lf gM;rw[A02,A1a,A31 hi];rfl
def Rd (e:Rec n n A):Rec n (n+n) (Lf n A) :=
 ⟨by simp[Lf],fun i hi=>by rw[Sp hi,A1d,e.2 i hi];simp⟩
def Ah9 (e:Rec n n A){i j:Nat}(hi:i<n)(h:j<n):en (Lf n A) i j=en A i j:=by
 unfold en;rw[Sp hi];unfold gR;rw[A02,A02,A1r (by rw[e.2 i hi];exact h)]
def Arm (e:Rec n n A){i k:Nat}(hi:i<n)(h:k<n):en (Lf n A) i (n+k)=idN i k:=by
 unfold en;rw[Sp hi];unfold gR;rw[A02,A18 (by rw[e.2 i hi];omega),e.2 i hi,Nat.add_sub_cancel_left,A1a,A31 h];rfl
def Ao3 (e:Rec n n A)(C:¬ (Bn n 0 [] (Lf n A) 1).1.length<n):Fe n (en A) (fun j k=>en (Bn n 0 [] (Lf n A) 1).2.1 j (n+k)):=fun i k hi u=>by
 have h:=Z5 (n:=n) (w:=n+n) (m:=n+k) oV oV n 0 [] (Lf n A) 1 oV rfl (Rd e) (fun i j _ t=>absurd t (Nat.not_lt_zero _)) C i hi;rw[Arm e hi u]at h;unfold Uj;rw[<-h];exact Ah fun j t=>by rw[Ah9 e hi t]
theorem Au4 {n D:Nat}{A:Nat->Nat->Rat}{Z:Nat->Nat->Int}(hi:Xu n A)(K:0<D)(H:∀ i k,i<n->k<n->A i k*(D:Rat)=Z i k) :
 (Fm n n 0 ⟨Iu n Z,[],1,false⟩).P.length=n/\E8 n (n+n) (Fm n n 0 ⟨Iu n Z,[],1,false⟩).X/\(Fm n n 0 ⟨Iu n Z,[],1,false⟩).v≠0 /\
  Fe n A (fun j k=>(enZ (Fm n n 0 ⟨Iu n Z,[],1,false⟩).X j (n+k):Rat)*(D:Rat)/((Fm n n 0 ⟨Iu n Z,[],1,false⟩).v:Rat)):=by
 have L:(D:Rat)≠0:=T4 K;rcases Za (Vu (n:=n) (Z:=Z)) with ⟨R,T,C,F⟩|⟨⟨y,⟨j0,u,E⟩,V⟩,_⟩
 ·refine⟨R,T,C,?_⟩;generalize Fm n n 0 ⟨Iu n Z,[],1,false⟩=s at C F;have U:(s.v:Rat)≠0:=fun e=>C (A7f.1 (by rw[e];rfl));intro i k hi Q;have e:=congrArg (fun z:Int=>(z:Rat)) (F i hi (n+k));simp only[Oy,A3c]at e;rw[Ao5 hi Q]at e;have J:(((if i=k then 1 else 0:Int)):Rat)=idN i k:=by unfold idN;split<;>rfl
  rw[J]at e;unfold Uj;rw[Ah (g:=fun j=>(1/(s.v:Rat))*((enZ s.X j (n+k):Rat)*(enZ (Iu n Z) i j:Rat))) fun j t=>by
   rw[Afx hi t,<-H i j hi t];grind,B4,e]
  grind
 refine absurd (hi (fun j=>(y j:Rat)) (fun i m=>?_) j0 u) fun e=>E (A7f.1 (by rw[e];rfl));have e:=congrArg (fun z:Int=>(z:Rat)) (V i m);simp only[Oy,A3c]at e;unfold Fy;have I:Bb n (fun j=>A i j*(y j:Rat))*(D:Rat)=0:=by
  rw[<-Jp,Ah (g:=fun j=>(y j:Rat)*(enZ (Iu n Z) i j:Rat)) fun j t=>by rw[Afx m t,<-H i j m t];grind,e];rfl
 rcases A40.1 I with h|h
 ·exact h
 exact absurd h L
end
section
variable {A:zM}{n:Nat}
def Y1 (m:Rec n n A)(u:Xu n (en A)):¬ (Bn n 0 [] (Lf n A) 1).1.length<n:=fun h=>by
 obtain⟨y,t,j,e,C⟩:=Af4 (w:=n+n) oV n 0 [] (Lf n A) 1 oV rfl (Rd m) (fun i j _ e=>absurd e (Nat.not_lt_zero _)) h;exact C (u y (fun i hi=>(Ah fun j e=>by rw[Ah9 m hi e]).trans (t i hi)) j e)
def Xs (e:Sq A):Rec A.length A.length A:=⟨rfl,fun i hi=>by rw[Ch hi];exact e.len hi⟩
def Pv (n:Nat)(X:zM):zM:=sqL n fun j k=>en X j (n+k)
def Lu (n:Nat)(X:zM):Rec n n (Pv n X):=Rh _ _
def Am6 (h:Rec n n A)(t:Xu n (en A)):Fe n (en A) (en (Pv n (Bn n 0 [] (Lf n A) 1).2.1)):=fun i k hi e=>by
 rw[<-Ao3 h (Y1 h t) i k hi e];exact Ah fun j m=>by rw[show en (Pv n (Bn n 0 [] (Lf n A) 1).2.1) j k=en (Bn n 0 [] (Lf n A) 1).2.1 j (n+k) from N6 m e]
def Th.tq {q:Rat}(h:Th q):Tq q:=⟨h.tx,h.den,h.num⟩
def Au7 (t:Sq A)(hT:∀ r∈A,∀ q∈r,Tq q):SzM (Lf A.length A) 2:=Aco (Rd (Xs t)) (fun i j hi C=>by
 have u:=Xs t;by_cases m:j<A.length
 ·have h:j<A[i].length:=by rw[t.len hi];exact m
  have e:=Ah9 u hi m;unfold en at e;rw[e,Ch hi,Cu h];exact (hT _ (A09 hi) _ (A09 h)).sz
 obtain⟨k,rfl⟩:∃ k,j=A.length+k:=⟨j-A.length,oV⟩;have e:=Arm u hi (k:=k) oV;unfold en at e;rw[e];unfold idN;split
 ·exact (Adt (z:=1) fV).mono oV
 exact Q3.mono oV)
end
section
variable {es:zV}{sz:Nat}{u:PH}{v:Value}
def QsP (u:PH)(v:Value)(qs:zR):Prop:=LP QP 4 u v qs
def Aa8 (u:PH)(v:Value)(X:zM):Prop:=LP QsP 1 u v X
def QsP.mono {u m:PH}{v:Value}{j:zR}(h:QsP u v j)(e:PH.le u m):QsP m v j:=LP.mono (fun _ _ k=>k.mono e) h e
def Aa8.mono {u j:PH}{v:Value}{X:zM}(h:Aa8 u v X)(e:PH.le u j):Aa8 j v X:=LP.mono (fun _ _ k=>QsP.mono k e) h e
def Aot {X:zM}(h:Aa8 u v X)(hT:∀ r∈X,∀ x∈r,Tx x)(hl:X.length<=1000)(hr:∀ r∈X,r.length<=1000) :
 zF 63 [v] u fun r V=>∃ U,r=.tuple #[U,zO]/\C7 V U (Cv X):=by
 obtain⟨a,c,rfl⟩:=LP.opn h;refine Fn0.o func63<|G.l (ι:=Nat×(zP×Nat)×zV) (fun i=>[(4,sV i.2.1.1 i.2.2.length i.2.1.2),(9,sV a X.length c),(10,iV X.length),(11,iV i.1)]) (fun _=>[])
  (fun i V m'=>i.1<=X.length/\N4 V i.2.2 (Cv (X.take i.1))/\Af PH.mt m' (.slice i.2.1.1 i.2.2.length i.2.1.2) 46 1 i.2.2) (fun i=>X.length-i.1) (0,(none,0),[])
  ⟨oV,⟨rfl,fun j r hj=>by simp[Cv]at hj⟩,Af.nil _ _ _⟩ ?_
 rintro J ⟨i,⟨pa,pc⟩,es⟩ W u1 m1 Z ⟨hi,C,I⟩;simp only at hi C I W;have a0:es.length=i:=by rw[C.1];simp[Cv];omega
 by_cases E:i<X.length
 ·refine G.lT i X.length ?_;obtain⟨x,m⟩:∃ x,X[i]?=some x:=⟨_,A01 E⟩;have H:=A1k m;have Q:X.take (i+1)=X.take i++[x]:=by rw[A1n,m];rfl
  obtain⟨b,o,e,rfl,e1,Y⟩:=LP.at (Aa8.mono h Z) m;obtain⟨qa,qc,rfl⟩:=LP.opn Y;obtain⟨a2,L,F⟩:=Y;have a1:=F.1;refine G.N X.length c E e1<|G.c call83 (Apw L F (hT x H) (hr x H)) ?_;rintro v2 u2 l2 ⟨U,rfl,K⟩;obtain⟨la,T,rfl⟩:=Ac.opn K;have P:(Cc (x.map Ae)).length=(x.map Ae).length:=Cb _;rw[P]at K⊢;refine G.nF 0 0<|G.B 46 1 24 zN [.slice la (x.map Ae).length T] (B5 _ _ _) ?_;intro g3 u3 R e3;refine G.append 46 1 24 zN PH.mt es [.slice la (x.map Ae).length T] _ g3 0 1 1 kV rfl rfl oV I e3 (B5 _ _ _) rfl oV oV oV ?_;intro v4 m4 t;obtain⟨a4,c4,rfl⟩:=t.shape;refine G.i i<|G.b (W (i+1,(a4,c4),es++[.slice la (x.map Ae).length T]) _ _ _ cV ((Z.trans l2).trans R) ⟨dV,?_,t⟩ dV);have e5:Cv (X.take (i+1))=Cv (X.take i)++[x.map Ae]:=by rw[Q];simp[Cv]
  dsimp only;rw[e5];exact (C.mono (l2.trans R)).snoc1 (r:=x.map Ae) (Ac.mono K R)
 obtain rfl:i=X.length:=oV;refine G.lF X.length X.length ?_;rw[A15]at C;refine G.give _ _ _ kV I (fun g=>.inl rfl) ?_;intro u6 l6 hF;exact G.r (.tuple #[.slice pa es.length pc,zO]) ⟨rfl,_,rfl,es,hF,C.mono l6⟩
def Af.split {m0 m:PH}{t:TypeId}(h:Af m0 m v t sz es):∃ sm,m=m0.or sm/\Hp m0 sm/\Af PH.mt sm v t sz es:=by
 obtain⟨E,h⟩:=h;rcases h with ⟨j,C,rfl⟩|⟨g,cap,rest,j,rfl,C,F,H,I⟩
 ·refine⟨PH.mt,?_,fun _=>.inr rfl,E,.inl ⟨j,C,rfl⟩⟩
  funext g;unfold PH.or;cases m g<;>rfl
 refine⟨PH.mt.upd g _,?_,fun k=>?_,E,.inr ⟨g,cap,rest,rfl,rfl,C,F,H,I⟩⟩
 ·funext k
  unfold PH.or;by_cases e:k=g
  ·subst e;rw[j,Ab,Ab]
  rw[Ad _ _ e,Ad _ _ e];cases m0 k<;>rfl
 by_cases e:k=g
 ·subst e;exact .inl j
 exact .inr (Ad _ _ e)
def Ac.dropL {g off n c sz k:Nat}(h:Ac u (.slice (some ⟨g,off,none⟩) n c) sz es)(J:k<=n):Ac u (.slice (some ⟨g,off+k*sz,none⟩) (n-k) (c-k)) sz (es.drop k):=by
 obtain⟨F,H,e,I,E⟩:=h;cases e;refine⟨_,c-k,by rw[A4y],by rw[A4y];omega,fun j e m=>?_⟩;rw[A39]at m;obtain⟨b,o,t,C⟩:=E (k+j) e m;cases t;exact⟨g,off+k*sz,rfl,by rw[show off+k*sz+j*sz=off+(k+j)*sz by rw[A16];omega];exact C⟩
def Vf (k j:Nat):zR:=(List.range k).map fun t=>idN j t
def Ahi (k j:Nat):Vf (k+1) j=Vf k j++[idN j k]:=by unfold Vf;rw[A5d,A1i];rfl
def Av1 {A:zM}(h:C7 u v (Cv A))(hs:Sq A)(h0:0<A.length)(hT:∀ r∈A,∀ q∈r,Tq q)(hk:Xu A.length (en A))(hX:∀ r∈Pv A.length (Bn A.length 0 [] (Lf A.length A) 1).2.1,∀ x∈r,Tx x) :
 zF 65 [v] u fun r Y=>∃ lv,r=.tuple #[lv,zO]/\C7 Y lv (Cv (Pv A.length (Bn A.length 0 [] (Lf A.length A) 1).2.1)):=by
 obtain⟨a0,c0,rfl⟩:=h.opn;rw[A3]at h⊢;have af:=hs.le;refine Fn0.o func65<|G.c call61 (And h hs) ?_;rintro v1 u1 l1 rfl;refine G.nF 0 0<|G.nF A.length A.length ?_;have h1:=h.mono l1;clear h;refine G.c call138 (Amo (n:=A.length) (w:=A.length) h1 af hs.row af hT af) ?_;rintro v3 u3 l3 rfl;refine G.callO _ _ kV call62 (Ane (h1.mono l3) hs) ?_;rintro v6 u6 m6 l6 ⟨a6,V,ad,rfl,an,Z⟩ _;rw[By];have ab:ad.length=A.length:=an.1;obtain⟨go,c4,eo⟩:=Z.ptr 0 rfl (by intro e;simp only[oQ,A6c]at e;rw[e]at ab;simp at ab;omega);simp only[oQ,A03,ab,Value.slice.injEq,true_and]at eo;obtain⟨rfl,rfl⟩:=eo;clear h1;have b0:∀ (m:List (Value×zV)) (i:Nat) (r:Value×zV) (Y m':PH) (k:Nat),m.length=A.length->m[i]?=some r->Bag m' (oQ (zG go A.length V) m::m.map Ej)->AtP QP Y r.2 (gM A i++Vf k i)->i<A.length ->
  ∃ R L C,r=(zG R (A.length+k) L,C)/\C.length=A.length+k:=by
  rintro m i ⟨vi,C⟩ Y m' k T I t W hi;have K:C.length=A.length+k:=by rw[W.1,A1d,Ch hi,hs.len hi];simp[Vf]
  obtain⟨R,L,e⟩:=t.ptr (i+1) (x:=Ej (vi,C)) (by simp[I]) (by intro e;simp only[Ej]at e;rw[e]at K;simp at K;omega);simp only[Ej]at e;rw[K]at e;subst e;exact⟨R,L,C,rfl,K⟩
 refine G.l (ι:=Nat×List (Value×zV)) (fun i=>[(4,iV A.length),(5,iV A.length),(7,sV (zA go) A.length V),(32,iV A.length),(33,iV i.1)]) (fun _=>[])
  (fun i Y m'=>i.1<=A.length/\i.2.length=A.length/\(∀ j r,i.2[j]?=some r->AtP QP Y r.2 (gM A j++if j<i.1 then Vf A.length j else []))/\Bag m' (oQ (zG go A.length V) i.2::i.2.map Ej)) (fun i=>A.length-i.1) (0,ad)
  ⟨oV,ab,fun j r F=>by rw[if_neg oV,A1x];exact an.2 j r F,Z⟩ ?_
 clear Z an ab;rintro J ⟨i,m⟩ hJ u7 m7 l7 ⟨hi,T,hQ,t⟩;simp only at hi T hQ t hJ;by_cases U:i<A.length
 ·refine G.lT i A.length<|G.l (ι:=Nat×List (Value×zV)) (fun k=>[(4,iV A.length),(5,iV A.length),(7,sV (zA go) A.length V),(32,iV A.length),(33,iV i),(8,iV i),(9,iV k.1)]) (fun _=>[])
   (fun k Y m'=>k.1<=A.length/\k.2.length=A.length/\(∀ j r,k.2[j]?=some r->AtP QP Y r.2 (gM A j++if j<i then Vf A.length j else if j=i then Vf k.1 j else []))/\Bag m' (oQ (zG go A.length V) k.2::k.2.map Ej)) (fun k=>A.length-k.1) (0,m)
   ⟨oV,T,fun j r F=>by
    have:=hQ j r F;dsimp only;by_cases e:j<i
    ·rw[if_pos e]at this⊢;exact this
    rw[if_neg e]at this⊢;split
    ·exact this
    exact this,t⟩ ?_
  clear hQ t T;rintro J2 ⟨k,m⟩ b2 u8 m8 l8 ⟨bq,T,hQ,t⟩;simp only at bq T hQ t b2;by_cases c7:k<A.length
  ·refine G.lT k A.length ?_;obtain⟨r,I⟩:∃ r,m[i]?=some r:=⟨_,A01 oV⟩;have W:=hQ i r I;rw[if_neg (Nat.lt_irrefl _),if_pos rfl]at W;obtain⟨R,L,C,rfl,K⟩:=b0 m i r u8 m8 k T I t W U;have bs:(oQ (zG go A.length V) m::m.map Ej)[i+1]?=some (Ej (zG R (A.length+k) L,C)):=by simp[I]
   have br:ElP m8 go (0+i*1) (zG R (A.length+k) L):=t.el 0 (x:=oQ _ _) rfl rfl (by simp[oQ,I]);refine G.join (ι:=Int) zL (fun z=>[(4,iV A.length),(5,iV A.length),(7,sV (zA go) A.length V),(32,iV A.length),(33,iV i),(8,iV i),(9,iV k),(10,iV z)]) (fun _=>[])
    (fun z Y m'=>m'=m8/\Y=u8/\z=if i=k then 1 else 0) (fun _=>kV) kV ?tail ?way
   case way =>
    intro aa;by_cases b6:i=k
    ·refine G.eT i k<|G.pastI ?_;exact aa 1 _ _ _ kV cV (PH.le_refl _) ⟨rfl,rfl,by rw[if_pos b6]⟩
    refine G.eF i k ?_;exact aa 0 _ _ _ kV cV (PH.le_refl _) ⟨rfl,rfl,by rw[if_neg b6]⟩
   rintro z u9 m9 l9 ⟨rfl,rfl,hz⟩;have bw:((z:Int):Rat)=idN i k:=by
    rw[hz];unfold idN;split<;>rfl
   have c8:0<=z/\z<=1:=by rw[hz];split<;>omega
   refine G.O A.length V U br<|G.c call22 (P6 (z:=z) oV oV) ?_;intro cd cb aw av;rw[bw]at av;obtain⟨H,rfl⟩:=av.opQ;refine G.B 69 4 64 zQ [qv H] (Akh H) ?_;intro bj az a3 bi;obtain⟨mm,bd,b8⟩:=t.focus (i+1) bs;rw[Rg]at bd;refine G.append 69 4 64 zQ mm C [qv H] (zG R (A.length+k) L) bj 0 1 1 kV rfl rfl oV bd bi (Akh H) rfl oV oV oV ?_;intro c3 ay aj;have ah:=b8 (Ej (c3,C++[qv H])) ay aj;obtain⟨a4,a5,rfl⟩:=aj.shape;rw[A2j]at ah;obtain⟨mo,bf,ar⟩:=ah.focus 0 rfl;rw[Al7]at bf;refine G.a go 0 A.length V i 1 U<|G.storeA 1 mo _ go A.length V i (.slice a4 (C++[qv H]).length a5) kV bf gV rfl rfl ?_;intro bh ak;rw[show (m.map (·.1)).set i (Value.slice a4 (C++[qv H]).length a5)=(m.set i (Value.slice a4 (C++[qv H]).length a5,C++[qv H])).map (·.1) by rw[A2g]]at ak;have ai:=ar (oQ (zG go A.length V) (m.set i (Value.slice a4 (C++[qv H]).length a5,C++[qv H]))) bh ak;rw[A2p,<-A2g]at ai;refine G.i k<|G.b (b2 (k+1,m.set i (Value.slice a4 (C++[qv H]).length a5,C++[qv H])) _ _ _ cV ((l8.trans aw).trans a3) ⟨dV,by dsimp only;rw[A21];exact T,?_,ai⟩ dV);intro j r F;dsimp only at F⊢;rw[A1z]at F;by_cases a2:i=j
   ·subst a2;rw[if_pos rfl,if_pos oV]at F;cases F;rw[if_neg (Nat.lt_irrefl _),if_pos rfl,Ahi,<-A2k];exact (W.mono (fun _ _ k=>k.mono (aw.trans a3))).snoc (av.mono a3)
   rw[if_neg a2]at F;have P:=(hQ j r F).mono (fun _ _ k=>k.mono (aw.trans a3));by_cases X:j<i
   ·rw[if_pos X]at P⊢;exact P
   rw[if_neg X,if_neg (Ne.symm a2)]at P⊢;exact P
  obtain rfl:k=A.length:=oV;refine G.lF A.length A.length<|G.i i<|G.b (hJ (i+1,m) _ _ _ cV (l7.trans l8) ⟨dV,T,?_,t⟩ dV);intro j r F;have P:=hQ j r F;dsimp only;by_cases X:j<i
  ·rw[if_pos X]at P;rw[if_pos oV];exact P
  rw[if_neg X]at P;by_cases e:j=i
  ·rw[if_pos e]at P;rw[if_pos oV];exact P
  rw[if_neg e]at P;rw[if_neg oV];exact P
 clear hJ;obtain rfl:i=A.length:=oV;refine G.lF A.length A.length ?_;have ao:=Rd (Xs hs);have bm:=Au7 hs hT;have bl:QAt u7 m (Lf A.length A):=⟨by rw[T,ao.1],fun j r F=>by
  have a9:j<A.length:=by
   obtain⟨q1,_⟩:=A05.1 F;omega
  have P:=hQ j r F;rw[if_pos a9]at P;rw[Sp a9];exact P⟩
 clear hQ b0;refine G.A call139 (Apb ao oV oV oV bm oV (es1 af) bl t) ?_;rintro v8 u8 m8 l8 ⟨pa,pc,f,Q,rfl,_,am,ap⟩ _;rw[By];have bp:=Y1 (Xs hs) hk;have hE:=Wp A.length 0 [] (Lf A.length A) 1 ao;generalize c6:Bn A.length 0 [] (Lf A.length A) 1=E at *
 refine G.lF E.1.length A.length ?_;obtain⟨m9,be,bo⟩:=ap;refine G.drop m9 kV (Ad3 be) ?_;clear be;obtain⟨bz,ac,a7⟩:=bo;rw[Al7]at ac;obtain⟨sm,bt,bn,bg⟩:=ac.split;refine G.giveP (ma:=bz) (sm:=sm) kV bt bn (fun g=>.inl rfl) ?_;intro az a3 b7;have b9:Q.length=A.length:=by rw[am.1,hE.1]
 have ba:∀ j,j<A.length->∃ R L C,Q[j]?=some (zG R (A.length+A.length) L,C)/\A.length+A.length<=L/\Ac az (zG R (A.length+A.length) L) 4 C/\AtP QP az C (gM E.2.1 j):=fun j F=>by
  obtain⟨⟨vi,C⟩,I⟩:∃ r,Q[j]?=some r:=⟨_,A01 oV⟩;have W:=am.2 j _ I;have K:C.length=A.length+A.length:=by rw[W.1,hE.2 j F]
  obtain⟨R,L,e⟩:=a7.ptr j (x:=Ej (vi,C)) (by simp[I]) (by intro e;simp only[Ej]at e;rw[e]at K;simp at K;omega);simp only[Ej]at e;rw[K]at e;subst e;obtain⟨mf,au,_⟩:=a7.focus j (x:=Ej (zG R (A.length+A.length) L,C)) (by simp[I]);rw[Rg]at au;have a8:=au.cap;exact⟨R,L,C,I,a8,by simpa[K] using au.list b7,W.mono (fun _ _ k=>k.mono a3)⟩
 clear a7 am t ac;have bb:∀ (R L:Nat) (C:zV) (j:Nat) (Y:PH),j<A.length->A.length+A.length<=L->Ac Y (zG R (A.length+A.length) L) 4 C->AtP QP Y C (gM E.2.1 j)->QsP Y (.slice (some ⟨R,0+A.length*4,none⟩) (A.length+A.length-A.length) (L-A.length)) (gM (Pv A.length E.2.1) j):=fun R L C j Y F hc hL hA=>by
  have b5:(gM (Pv A.length E.2.1) j).length=A.length:=(Lu A.length E.2.1).2 j F;have K:C.length=A.length+A.length:=by rw[hA.1,hE.2 j F]
  have hg:∀ k,k<A.length->gR (gM (Pv A.length E.2.1) j) k=gR (gM E.2.1 j) (A.length+k):=fun k hk=>N6 (f:=fun j k=>en E.2.1 j (A.length+k)) F hk;refine⟨C.drop A.length,hL.dropL oV,by rw[A4y,K,b5];omega,fun k x hx=>?_⟩;obtain⟨hk,bu⟩:=A05.1 hx;rw[b5]at hk;obtain⟨e,h1,h2⟩:=hA.2 (A.length+k) (gR (gM E.2.1 j) (A.length+k)) (by
   have hl:A.length+k<(gM E.2.1 j).length:=by rw[hE.2 j F];omega
   rw[A01 hl,Cu hl])
  refine⟨e,by rw[A39];exact h1,?_⟩;have:x=gR (gM E.2.1 j) (A.length+k):=by rw[<-hg k hk,<-bu,Cu]
  rw[this];exact h2
 refine G.l (ι:=Nat×zV) (fun i=>[(5,iV A.length),(7,sV (zA go) A.length V),(67,iV A.length),(68,iV i.1)]) (fun _=>[])
  (fun i Y m'=>i.1<=A.length/\i.2.length=A.length/\(∀ j,j<A.length->if j<i.1 then ∃ e,i.2[j]?=some e/\QsP Y e (gM (Pv A.length E.2.1) j) else i.2[j]?=(Q.map (·.1))[j]?)/\Af PH.mt m' (zG go A.length V) 131 1 i.2) (fun i=>A.length-i.1) (0,Q.map (·.1))
  ⟨oV,by rw[A03];exact b9,fun j _=>by rw[if_neg (Nat.not_lt_zero _)],bg⟩ ?_
 clear bg;rintro J ⟨i,es⟩ hJ c1 ay ax ⟨hi,a1,ae,hA⟩;simp only at hi a1 ae hA hJ;by_cases U:i<A.length
 ·refine G.lT i A.length ?_;obtain⟨R,L,C,I,a8,hL,bk⟩:=ba i U;have b4:=ae i U;rw[if_neg (Nat.lt_irrefl _),A1a,I]at b4;refine G.O A.length V U (hA.el b4)<|G.sliceFrom R 0 (A.length+A.length) L A.length 4 kV oV oV<|G.a go 0 A.length V i 1 U<|G.storeA 1 PH.mt _ go A.length V i (.slice (some ⟨R,0+A.length*4,none⟩) (A.length+A.length-A.length) (L-A.length)) kV hA oV rfl rfl ?_;intro bh b1;refine G.i i<|G.b (hJ (i+1,es.set i (.slice (some ⟨R,0+A.length*4,none⟩) (A.length+A.length-A.length) (L-A.length))) _ _ _ cV ax ⟨dV,by dsimp only;rw[A21];exact a1,?_,b1⟩ dV);intro j F;dsimp only;rw[A1z];by_cases a2:i=j
  ·subst a2;rw[if_pos oV,if_pos rfl,if_pos oV];exact⟨_,rfl,bb R L C i c1 U a8 (hL.mono ax) (bk.mono (fun _ _ k=>k.mono ax))⟩
  rw[if_neg a2];have P:=ae j F;by_cases X:j<i
  ·rw[if_pos X]at P;rw[if_pos oV];exact P
  rw[if_neg X]at P;rw[if_neg oV];exact P
 clear hJ;obtain rfl:i=A.length:=oV;refine G.lF A.length A.length ?_;have c5:Af PH.mt ay (zG go es.length V) 131 1 es:=by rw[a1];exact hA
 refine G.give PH.mt es _ kV hA (fun g=>.inl rfl) ?_;intro c2 bx b3;have hM:Aa8 c2 (zG go A.length V) (Pv A.length E.2.1):=by
  refine⟨es,b3,by rw[a1,(Lu A.length E.2.1).1],fun j r F=>?_⟩;obtain⟨aq,e⟩:=A05.1 F;have a9:j<A.length:=by rw[(Lu A.length E.2.1).1]at aq;exact aq
  have P:=ae j a9;rw[if_pos a9]at P;obtain⟨x,h1,h2⟩:=P;rw[Ch aq,e]at h2;exact⟨x,h1,QsP.mono h2 bx⟩
 have al:=Lu A.length E.2.1;refine G.c call63 (Aot hM hX (by rw[al.1];omega) (fun r hr=>by
  obtain⟨j,F,rfl⟩:=A3d.1 hr;have:=al.2 j (by have:=al.1;omega);rw[Ch F]at this;omega)) ?_
 rintro ce cc ca ⟨lv,rfl,ag⟩;obtain⟨la,lc,rfl⟩:=ag.opn;exact G.r (.tuple #[_,zO]) ⟨rfl,_,rfl,ag⟩
end
section
variable {cs:Array Value}{k n:Nat}{ts:zW}{v:Value}
def K6 (ts:zW)(n k:Nat):zW:=ts.take k++List.replicate (n-k) []
def Aop {t:zB}(j:ts.length=n)(e:ts[k]?=some t):(K6 ts n k).set k t=K6 ts n (k+1):=by
 obtain⟨h,_⟩:=A05.1 e;unfold K6;rw[A4t _ _ (by rw[A1e];omega),A1e,show k-min k ts.length=0 by omega,show n-k=(n-(k+1))+1 by omega,A68,A2p,A1n,e,A2k];rfl
def An1 (h:ts.length=n)(e:k<=n):(K6 ts n k).length=n:=by unfold K6;rw[A1d,A1e,A3k];omega
def Acd {u:PH}{f n:Nat}{cap:zV}{X:zM}(ht:Hx u)(Q:Rec n n X)(hn:n<=1000)(hT:∀ r∈X,∀ x∈r,Tx x)(T:∀ args w,(callFunc f args).run prog w=.ok (.enter f args) w)
 (hf:∀ i k,i<n->k<n->∀ Z,PH.le u Z->zF f (zI i::zI k::cap) Z fun r ag=>Bg ag r (en X i k)) :
 zF 123 [zI n,zI n,.func (.func f) #[] cap.toArray] u fun r Z=>∃ lv,r=.tuple #[lv,zO]/\C7 Z lv (Cv X):=by
 have ae:∀ i k,i<n->k<n->Tx (en X i k):=fun i k hi hk=>by
  have K:i<X.length:=by rw[Q.1];exact hi
  have h2:=Q.2 i hi;rw[Ch K]at h2;have h3:k<X[i].length:=oV;unfold en;rw[Ch K,Cu h3];exact hT _ (A09 K) _ (A09 h3)
 have t:∀ i,i<n->((gM X i).map Ae).length=n:=fun i hi=>by rw[A03];exact Q.2 i hi
 have a1:∀ i k,i<n->k<n->((gM X i).map Ae)[k]?=some (Ae (en X i k)):=fun i k hi hk=>by
  have h3:k<(gM X i).length:=by rw[Q.2 i hi];exact hk
  rw[A1a,A01 h3];unfold en;rw[Cu h3];rfl
 refine Fn0.o func123<|G.make 46 1 24 zN n kV rfl rfl oV oV oV ?_;rintro v1 m1 L ⟨aO,rfl⟩;obtain⟨go,rfl,_⟩:=L.some';refine G.l (ι:=Nat×zV) (fun i=>[(1,iV n),(2,.v (.func (.func f) #[] cap.toArray)),(8,sV (zA go) n n),(16,iV n),(17,iV i.1)]) (fun _=>[])
  (fun i Z m'=>i.1<=n/\i.2.length=n/\(∀ j,j<i.1->∃ a c,i.2[j]?=some (.slice a n c)/\Cj Z (.slice a n c) ((gM X j).map Ae))/\Bag m' [⟨zG go n n,46,1,i.2⟩]) (fun i=>n-i.1) (0,List.replicate n zN)
  ⟨oV,mV,fun j hj=>absurd hj (Nat.not_lt_zero _),PH.mt,L,trivial⟩ ?_
 clear L;rintro J ⟨i,es⟩ hJ u2 m2 l2 ⟨hi,U,V,hA⟩;simp only at hi U V hA hJ;by_cases h:i<n
 ·refine G.lT i n<|G.make 34 1 16 zE n kV rfl rfl oV oV oV ?_;rintro v3 m3 P ⟨aR,rfl⟩;obtain⟨m,rfl,_⟩:=P.some';have a0:Bag m3 [⟨zG m n n,34,1,Cc (K6 ((gM X i).map Ae) n 0)⟩,⟨zG go n n,46,1,es⟩]:=⟨m2,by
   have:Cc (K6 ((gM X i).map Ae) n 0)=List.replicate n zE:=by unfold K6 Cc;simp
   rw[this];exact P,hA⟩
  obtain⟨mo,H,E⟩:=a0.focus 1 rfl;refine G.a go 0 n n i 1 h<|G.storeA 1 mo es go n n i (zG m n n) kV H oV rfl rfl ?_;intro m4 a8;have F:=E ⟨zG go n n,46,1,es.set i (zG m n n)⟩ m4 a8;rw[A2j,A2p]at F;have a5:(es.set i (zG m n n))[i]?=some (zG m n n):=by rw[A1z,if_pos rfl,if_pos oV]
  have a4:∀ {m':PH} {rs:zV},Bag m' [⟨zG m n n,34,1,rs⟩,⟨zG go n n,46,1,es.set i (zG m n n)⟩]->ElP m' go (0+i*1) (zG m n n):=fun hb=>hb.el 1 rfl rfl a5;refine G.O n n h (a4 F) ?_;clear E H a8 a0 P;refine G.l (ι:=Nat) (fun k=>[(1,iV n),(2,.v (.func (.func f) #[] cap.toArray)),(8,sV (zA go) n n),(9,iV i),(16,iV n),(17,iV i),(29,iV n),(30,iV k)]) (fun _=>[])
   (fun k Z m'=>k<=n/\Bag m' [⟨zG m n n,34,1,Cc (K6 ((gM X i).map Ae) n k)⟩,⟨zG go n n,46,1,es.set i (zG m n n)⟩]) (fun k=>n-k) 0 ⟨oV,F⟩ ?_
  clear F;rintro J2 k a9 u5 m5 l5 ⟨hk,R⟩;by_cases C:k<n
  ·refine G.lT k n<|G.call0 f (zI i::zI k::cap) kV T (hf i k h C u5 (l2.trans l5)) ?_;intro v6 u6 l6 k6;obtain⟨b6,a6,n6,c6,ai,ah,al,aj,rfl⟩:=k6.opn;refine G.c call71 (Uf (ht.mono ((l2.trans l5).trans l6)) k6 (ae i k h C)) ?_;rintro v7 u7 l7 rfl;refine G.nF 0 0<|G.O n n h (a4 R)<|G.a m 0 n n k 1 C ?_;obtain⟨mr,I,Y⟩:=R.focus 0 rfl;refine G.storeA 1 mr _ m n n k (zS (Ae (en X i k))) kV I (by rw[Cb,An1 (t i h) hk];exact C) rfl rfl ?_;intro m8 af;have e8:(Cc (K6 ((gM X i).map Ae) n k)).set k (zS (Ae (en X i k)))=Cc (K6 ((gM X i).map Ae) n (k+1)):=by
    rw[<-Aop (t i h) (a1 i k h C)];unfold Cc;rw[A2g]
   have ac:=Y ⟨zG m n n,34,1,Cc (K6 ((gM X i).map Ae) n (k+1))⟩ m8 (by rw[<-e8];exact af);exact G.i k<|G.b (a9 (k+1) _ _ _ cV ((l5.trans l6).trans l7) ⟨oV,ac⟩ oV)
  obtain rfl:k=n:=oV;refine G.lF k k ?_;obtain⟨mo,I,mq,H,ak⟩:=R;have e9:K6 ((gM X i).map Ae) k k=(gM X i).map Ae:=by unfold K6;rw[A4i,A42,A1x,A1j (by rw[t i h];omega)]
  rw[e9]at I;refine G.give mo _ _ kV I (fun _=>.inl rfl) ?_;intro u6 l6 ab;refine G.i i<|G.b (hJ (i+1,es.set i (zG m k k)) _ _ _ cV ((l2.trans l5).trans l6) ⟨dV,by dsimp only;rw[A21];exact U,?_,mq,H,trivial⟩ dV);intro j hj;dsimp only;by_cases a2:i=j
  ·subst a2;exact⟨_,_,a5,ab⟩
  obtain⟨a,c,K,h2⟩:=V j oV;exact⟨a,c,by rw[A1z,if_neg a2];exact K,Ac.mono h2 (l5.trans l6)⟩
 obtain rfl:i=n:=oV;refine G.lF i i ?_;obtain⟨mb,hA,_⟩:=hA;refine G.give mb es _ kV hA (fun _=>.inl rfl) ?_;intro u3 l3 aa;refine G.drop PH.mt kV (PH.mt_le _)<|G.r (.tuple #[zG go i i,zO]) ⟨rfl,_,rfl,es,aa,by rw[U,A3,Q.1],fun j r hj=>?_⟩;obtain⟨a3,e⟩:=A05.1 hj;have W:j<i:=by rw[A3,Q.1]at a3;exact a3
 obtain⟨a,c,K,h2⟩:=V j W;have hr:r=(gM X j).map Ae:=by
  rw[<-e];have ad:j<X.length:=by rw[Q.1];exact W
  simp only[Cv,A3v];rw[Ch ad]
 have a7:r.length=i:=by rw[hr,t j W]
 exact⟨a,c,by rw[a7];exact K,by rw[a7,hr];exact Ac.mono h2 l3⟩
def Po {u:PH}{g off:Nat}{t:TypeId}{fr:Nat×Nat}(h:u g=some (.cells cs t fr))(e:∀ i y,v.cells[i]?=some y->cs[off+i]?=some y):ElP u g off v:=fun i y j=>⟨cs,t,fr,h,e i y j⟩
def G2 (h:v.cells = #[v])(j:cs[k]?=some v):∀ i y,v.cells[i]?=some y->cs[k+i]?=some y:=fun i y e=>by
 rw[h]at e
 match i,e with
 |0,e=>simp at e;subst e;exact j
def Awo {u:PH}{C Z W n c0 h pn pc on oc i k D:Nat}{I a0 pa ao:Option Addr}{fv H:N3}{a5:Bool}{S:List (List Int)}{z:Int}
 (hr:u C=some (.cells #[.slice I n h,.slice pa pn pc,.bool fv.b,.slice fv.a fv.n fv.c,.bool a5] 192 (0,0))) (ha:u Z=some (.cells #[.slice a0 n c0] 45 (0,0)))
 (hg:u W=some (.cells #[.bool H.b,.slice H.a H.n H.c,.slice ao on oc] 187 (0,0))) (hS:Nl u (.slice I n h) S) (P:E8 n (n+n) S) (hV:Bi u (nv fv) z) (hD:Bi u (nv H) (D:Int))
 (h1:nl (enZ S i (n+k)).natAbs<=1000000000) (h2:nl z.natAbs<=1000000000) (h3:nl D<=2) (hz:z≠0) (hi:i<n) (hk:k<n) (hn:n<=1000) :
 Fn0 prog 124 [.int .i64 i,.int .i64 k,.pointer (some ⟨C,0,none⟩),.pointer (some ⟨Z,0,none⟩),.pointer (some ⟨W,0,none⟩)] u fun r u'=>Bg u' r (Rat.divInt (enZ S i (n+k)*(D:Int)) z):=by
 have E:i<S.length:=by rw[P.1];exact hi
 have a3:S[i]?=some S[i]:=A01 E;have a2:S[i].length=n+n:=by have:=P.2 i hi;rwa[Xj E]at this
 obtain⟨m,F,a7,rfl,L,t⟩:=LP.at hS a3;obtain⟨a6,X,rfl⟩:=LP.opn t;rw[a2]at t L;obtain⟨J,V,a8,rfl,a1,K⟩:=LP.at t (j:=n+k) (x:=enZ S i (n+k)) (by
  unfold enZ;rw[Xj E,Ol oV];exact A01 oV)
 obtain⟨Y,rfl⟩:=K.opN;have R:nl ((D:Int)).natAbs<=2:=h3;refine Fn0.o func124<|G.f 192 C 0 0 0<|G.lU none C (0+0) (.slice (some ⟨m,F,none⟩) n h) (Po hr (G2 rfl rfl))<|G.a m F n h i 1 hi<|G.lU none m (F+i*1) _ L<|G.lU none Z 0 (.slice a0 n c0) (Po ha (G2 rfl rfl))<|G.p n k (n+k:Nat)<|G.a J V (n+n) X (n+k) 2 oV<|G.lU (some 2) J (V+(n+k)*2) (nv Y) a1<|G.f 187 W 0 0 0<|G.lU (some 2) W (0+0) (nv H) (Po hg fun j y e=>by
  match j,e with
  |0,e=>simpa[nv,Value.cells] using e
  |1,e=>simpa[nv,Value.cells] using e) ?_
 refine G.f 192 C 0 2 2<|G.lU (some 2) C (0+2) (nv fv) ((Po hr fun j y e=>by
  match j,e with
  |0,e=>simpa[nv,Value.cells] using e
  |1,e=>simpa[nv,Value.cells] using e:ElP u C (0+2) (nv fv))) ?_
 refine G.c call126 (Ea K hD (A04 h1 oV) (A04 R oV)) ?_;intro ad ab a4 T;obtain⟨a9,rfl⟩:=T.opN;have Q:nl (enZ S i (n+k)*(D:Int)).natAbs<=2*1000000000:=Bx h1 (A04 R oV);refine G.c call125 (Q6 T (hV.mono a4) (A04 Q oV) (A04 h2 oV) hz) ?_;intro ae ac aa U;obtain⟨x1,x2,x3,x4,x5,x6,x7,x8,rfl⟩:=U.opn;exact G.r (.agg #[.bool x1,.slice x2 x3 x4,.bool x5,.slice x6 x7 x8]) ⟨rfl,U⟩
end
section
variable {A:zM}{D i:Nat}
def P3 (k i:Nat):List Int:=(List.range k).map fun t=>if i=t then 1 else 0
def Ahb (k i:Nat):P3 (k+1) i=P3 k i++[if i=k then 1 else 0]:=by unfold P3;rw[A5d,A1i];rfl
def Oq (D:Nat)(A:zM)(i k:Nat):Int:=gZ (Bp D (gM A i)) k
def Axn {l:List Int}{n:Nat}(h:l.length=n):(List.range n).map (gZ l)=l:=by
 refine A5l (by simp[h]) fun i j e=>?_;rw[A3v,List.getElem_range,Ol e]
def Aud (h:Sq A)(D:Nat)(hi:i<A.length):gMZ (Iu A.length (Oq D A)) i=Bp D (gM A i)++P3 A.length i:=by
 rw[Sm hi,List.range_add,A1i]
 congr 1
 ·rw[A41 (g:=gZ (Bp D (gM A i))) fun k e=>by rw[if_pos (A6q.1 e)];rfl];exact Axn (by unfold Bp;rw[A03,Ch hi,h.len hi])
 unfold P3;rw[A9h];refine A41 fun k e=>?_;show (if A.length+k<A.length then _ else _)=_;rw[if_neg oV,show A.length+k-A.length=k by omega]
def Ak4 (m:Sq A)(h:∀ r∈A,∀ q∈r,q.den ∣ D){i k:Nat}(hi:i<A.length)(j:k<A.length):en A i k*(D:Rat)=Oq D A i k:=by
 have e:k<(gM A i).length:=by rw[Ch hi,m.len hi];exact j
 unfold Oq;rw[Wf e];unfold en;exact (Aem (h _ (Abw hi) _ (Xr e))).symm
def Avg (E:Sq A)(hT:∀ r∈A,∀ q∈r,Th q)(u:D ∣ 21600):SzZ (Iu A.length (Oq D A)) 2:=fun i j=>by
 refine nlM ?_;have key:∀ a b,a<A.length->b<A.length->(Oq D A a b).natAbs<=3000000000000*21600:=fun a b h C=>by
  have m:b<(gM A a).length:=by rw[Ch h,E.len h];exact C
  unfold Oq;rw[Wf m,A26,A1s];have t:D/(gR (gM A a) b).den<=21600:=A04 (A3u _ _) (A48 oV u);exact A25 (hT _ (Abw h) _ (Xr m)).num t
 by_cases hi:i<A.length
 ·have:=Ald (n:=A.length) (Z:=Oq D A) (M:=3000000000000*21600) key oV i hi j;omega
 have:enZ (Iu A.length (Oq D A)) i j=0:=by
  unfold enZ;have e:gMZ (Iu A.length (Oq D A)) i = []:=by unfold gMZ;rw[A02,A1v (by simp[Iu];omega)];rfl
  rw[e];rfl
 rw[this];omega
def Auu (n D:Nat)(s:BZ):zM:=sqL n fun j k=>Rat.divInt (enZ s.X j (n+k)*(D:Int)) s.v
def Atl {u:PH}{v:Value}{A:List (List Rat)}(ht:Hx u)(h:C7 u v (Cv A))(hs:Sq A)(h0:0<A.length)(hT:∀ r∈A,∀ q∈r,Th q)(hk:Xu A.length (en A))
 (hX:∀ X,Rec A.length A.length X->Fe A.length (en A) (en X)->∀ r∈X,∀ x∈r,Tx x) :
 Fn0 prog 53 [v] u fun r u'=>∃ X lv,r=.tuple #[lv,.int .i64 0]/\Rec A.length A.length X/\Fe A.length (en A) (en X)/\C7 u' lv (Cv X):=by
 have bz:=fun (v:Value) (hv:C7 u v (Cv A))=>Awb hv hs;have b4:∀ r∈A,∀ q∈r,Tx q:=fun r hr q hq=>(hT r hr q hq).tx;have W:=Asd hT;have a4:=hs.le;have az:∀ r∈A,r.length<=12:=fun r hr=>by rw[hs.row r hr];exact a4
 obtain⟨a0,c0,rfl⟩:=h.opn;rw[A3]at h⊢;refine Fn0.o func53<|G.c call118 (bz _ h) ?_;rintro v1 u1 l1 rfl;refine G.nF 0 0<|G.c call119 (Aie (N:=12) (K:=17) (ht.mono l1) (h.mono l1) b4 a4 az oV oV oV W.den W.pos W.nl W.dig) ?_;rintro v3 u3 l3 rfl;have bf:=l1.trans l3;refine G.callO _ _ kV call120 (Akc (h.mono bf) b4 oV (fun r hr=>by have:=az r hr;omega) W.den W.pos W.nl) ?_;rintro v6 u6 m6 l6 ⟨D,F,a6,c6,ad,bj,b1,bk,rfl,bl,ar,Y⟩ _;rw[By];have c4:=bf.trans l6;have au:=Vu (n:=A.length) (Z:=Oq D A);have U:ad.length=A.length:=by rw[ar.1];simp
 obtain⟨go,co,eo⟩:=Y.ptr 0 rfl (by intro e;simp only[oN,A6c]at e;rw[e]at U;simp at U;omega);simp only[oN,A03,U,Value.slice.injEq,true_and]at eo;obtain⟨rfl,rfl⟩:=eo;have bq:∀ i,i<A.length->gMZ (A.map (Bp D)) i=Bp D (gM A i):=fun i hi=>by rw[Xj (by simpa using hi),A3v,Ch hi]
 have br:∀ i,i<A.length->(Bp D (gM A i)).length=A.length:=fun i hi=>by unfold Bp;rw[A03,Ch hi,hs.len hi]
 have b0:∀ (m:List (Value×List Value)) (i:Nat) (r:Value×List Value) (u' m':PH) (k:Nat),m.length=A.length->m[i]?=some r->Bag m' (oN (.slice (some ⟨go,0,none⟩) A.length c6) m::m.map C3)->AtP Bi u' r.2 (Bp D (gM A i)++P3 k i)->i<A.length ->
  ∃ gi ci I,r=(.slice (some ⟨gi,0,none⟩) (A.length+k) ci,I)/\I.length=A.length+k:=by
  rintro m i ⟨vi,I⟩ u' m' k az a5 t a9 hi;have aa:I.length=A.length+k:=by rw[a9.1,A1d,br i hi];simp[P3]
  obtain⟨gi,ci,e⟩:=t.ptr (i+1) (x:=C3 (vi,I)) (by simp[a5]) (by intro e;simp only[C3]at e;rw[e]at aa;simp at aa;omega);simp only[C3]at e;rw[aa]at e;subst e;exact⟨gi,ci,I,rfl,aa⟩
 refine G.l (ι:=Nat×List (Value×List Value)) (fun i=>[(1,.p 0 0),(5,.p 6002 0),(21,iV A.length),(22,iV i.1)])
  (fun _=>[(0,⟨45,[sV a0 A.length c0]⟩),(6002,⟨187,[bV F.b,sV F.a F.n F.c,sV (some ⟨go,0,none⟩) A.length c6]⟩)])
  (fun i u' m'=>i.1<=A.length/\i.2.length=A.length/\(∀ j r,i.2[j]?=some r->AtP Bi u' r.2 (Bp D (gM A j)++if j<i.1 then P3 A.length j else []))/\Bag m' (oN (.slice (some ⟨go,0,none⟩) A.length c6) i.2::i.2.map C3)) (fun i=>A.length-i.1) (0,ad)
  ⟨oV,U,fun j r H=>by
   dsimp only at H;have ae:j<A.length:=by
    obtain⟨q1,_⟩:=A05.1 H;omega
   rw[if_neg oV,A1x,<-bq j ae];exact ar.2 j r H,Y⟩ ?_
 clear Y ar U;rintro J ⟨i,m⟩ hJ u7 m7 l7 ⟨hi,a2,hQ,t⟩;simp only at hi a2 hQ t hJ;by_cases aw:i<A.length
 ·refine G.lT i A.length<|G.l (ι:=Nat×List (Value×List Value)) (fun k=>[(1,.p 0 0),(5,.p 6002 0),(6,iV i),(21,iV A.length),(22,iV i),(26,iV A.length),(27,iV k.1)])
   (fun _=>[(0,⟨45,[sV a0 A.length c0]⟩),(6002,⟨187,[bV F.b,sV F.a F.n F.c,sV (some ⟨go,0,none⟩) A.length c6]⟩)])
   (fun k u' m'=>k.1<=A.length/\k.2.length=A.length/\(∀ j r,k.2[j]?=some r->AtP Bi u' r.2 (Bp D (gM A j)++if j<i then P3 A.length j else if j=i then P3 k.1 j else []))/\Bag m' (oN (.slice (some ⟨go,0,none⟩) A.length c6) k.2::k.2.map C3)) (fun k=>A.length-k.1) (0,m)
   ⟨oV,a2,fun j r H=>by
    have:=hQ j r H;dsimp only;by_cases e:j<i
    ·rw[if_pos e]at this⊢;exact this
    rw[if_neg e]at this⊢;split
    ·exact this
    exact this,t⟩ ?_
  clear hQ t a2;rintro J2 ⟨k,m⟩ b2 u8 m8 l8 ⟨bs,a3,hQ,t⟩;simp only at bs a3 hQ t b2;by_cases cg:k<A.length
  ·refine G.lT k A.length ?_;obtain⟨r,a5⟩:∃ r,m[i]?=some r:=⟨_,A01 oV⟩;have a9:=hQ i r a5;rw[if_neg (Nat.lt_irrefl _),if_pos rfl]at a9;obtain⟨gi,ci,I,rfl,aa⟩:=b0 m i r u8 m8 k a3 a5 t a9 aw;have bw:(oN (.slice (some ⟨go,0,none⟩) A.length c6) m::m.map C3)[i+1]?=some (C3 (.slice (some ⟨gi,0,none⟩) (A.length+k) ci,I)):=by simp[a5]
   have bu:ElP m8 go (0+i*1) (.slice (some ⟨gi,0,none⟩) (A.length+k) ci):=t.el 0 (x:=oN _ _) rfl rfl (by show (m.map (·.1))[i]?=_;rw[A1a,a5];rfl);refine G.c call121 (Kf (z:=0) oV oV) ?_;intro v9 u9 l9 k9;obtain⟨f9,rfl⟩:=k9.opN;refine G.join (ι:=N3) (.bool false) (fun f=>[(1,.p 0 0),(5,.p 6002 0),(6,iV i),(8,.p 13001 0),(21,iV A.length),(22,iV i),(26,iV A.length),(27,iV k)])
    (fun f=>[(0,⟨45,[sV a0 A.length c0]⟩),(6002,⟨187,[bV F.b,sV F.a F.n F.c,sV (some ⟨go,0,none⟩) A.length c6]⟩),(13001,⟨141,[bV f.b,sV f.a f.n f.c]⟩)])
    (fun f u' m'=>m'=m8/\Bi u' (nv f) (if i=k then 1 else 0)) (fun _=>kV) kV ?tail ?way
   case way =>
    intro ac;by_cases b5:i=k
    ·refine G.eT i k<|G.c call121 (Kf (z:=1) oV oV) ?_;intro cm bg V a7;obtain⟨C,rfl⟩:=a7.opN;exact ac C _ _ _ kV cV V ⟨rfl,by rw[if_pos b5];exact a7⟩
    refine G.eF i k ?_;exact ac f9 _ _ _ kV cV (PH.le_refl _) ⟨rfl,by rw[if_neg b5];exact k9⟩
   rintro C bg cj V ⟨rfl,a7⟩;refine G.a go 0 A.length c6 i 1 aw<|G.lM none go (0+i*1) _ bu<|G.B 141 2 32 (.agg #[.bool false,.slice none 0 0]) [nv C] (a7.ok) ?_;intro bi c8 a8 bh;obtain⟨mm,ba,b7⟩:=t.focus (i+1) bw;rw[Ack]at ba;refine G.append 141 2 32 (.agg #[.bool false,.slice none 0 0]) mm I [nv C] (.slice (some ⟨gi,0,none⟩) (A.length+k) ci) bi 0 1 1 kV rfl rfl oV ba bh (a7.ok) rfl oV oV oV ?_;intro ca c5 am;have ai:=b7 (C3 (ca,I++[nv C])) c5 am;obtain⟨L,Q,rfl⟩:=am.shape;rw[A2j]at ai;obtain⟨mo,bb,ax⟩:=ai.focus 0 rfl;rw[Akm]at bb;refine G.a go 0 A.length c6 i 1 aw<|G.storeA 1 mo _ go A.length c6 i (.slice L (I++[nv C]).length Q) kV bb gV rfl rfl ?_;intro c7 an;rw[show (m.map (·.1)).set i (Value.slice L (I++[nv C]).length Q)=(m.set i (Value.slice L (I++[nv C]).length Q,I++[nv C])).map (·.1) by rw[A2g]]at an;have aj:=ax (oN (.slice (some ⟨go,0,none⟩) A.length c6) (m.set i (Value.slice L (I++[nv C]).length Q,I++[nv C]))) c7 an;rw[A2p,<-A2g]at aj;refine G.i k<|G.b (b2 (k+1,m.set i (Value.slice L (I++[nv C]).length Q,I++[nv C])) _ _ _ cV (((l8.trans l9).trans V).trans a8) ⟨dV,by dsimp only;rw[A21];exact a3,?_,aj⟩ dV);have ap:=(l9.trans V).trans a8;intro j r H;dsimp only at H⊢;rw[A1z]at H;by_cases av:i=j
   ·subst av;rw[if_pos rfl,if_pos oV]at H;cases H;rw[if_neg (Nat.lt_irrefl _),if_pos rfl,Ahb,<-A2k];exact (a9.mono (fun _ _ k=>k.mono ap)).snoc (a7.mono a8)
   rw[if_neg av]at H;have R:=(hQ j r H).mono (fun _ _ k=>k.mono ap);by_cases ab:j<i
   ·rw[if_pos ab]at R⊢;exact R
   rw[if_neg ab,if_neg (Ne.symm av)]at R⊢;exact R
  obtain rfl:k=A.length:=oV;refine G.lF A.length A.length<|G.i i<|G.b (hJ (i+1,m) _ _ _ cV (l7.trans l8) ⟨dV,a3,?_,t⟩ dV);intro j r H;have R:=hQ j r H;dsimp only;by_cases ab:j<i
  ·rw[if_pos ab]at R;rw[if_pos oV];exact R
  rw[if_neg ab]at R;by_cases e:j=i
  ·rw[if_pos e]at R;rw[if_pos oV];exact R
  rw[if_neg e]at R;rw[if_neg oV];exact R
 clear hJ;obtain rfl:i=A.length:=oV;refine G.lF A.length A.length ?_;have bn:NAt u7 m (Iu A.length (Oq D A)):=⟨by rw[a2,au.1],fun j r H=>by
  have ae:j<A.length:=by
   obtain⟨q1,_⟩:=A05.1 H;omega
  have R:=hQ j r H;rw[if_pos ae]at R;rw[Aud hs D ae];exact R⟩
 clear hQ b0;refine G.giveP (ma:=m7) (sm:=PH.mt) kV (by funext g;unfold PH.or;cases m7 g<;>rfl) (fun g=>.inr rfl) (fun g=>.inl rfl) ?_
 intro bg V b6;have b3:=Am1 t (bn.mono V) b6;have b9:=Avg (D:=D) hs hT b1;refine G.c call122 (Avp b3 au oV oV h0 oV b9 oV (Az1 a4)) ?_;rintro cn c8 a8 ⟨L,Q,pa,pc,fv,rfl,hS,hV⟩;obtain⟨bm,bo,c3,bp⟩:=Au4 (Z:=Oq D A) hk bj fun i k hi hk=>Ak4 hs bk hi hk;obtain⟨bd,be⟩:=Aow (n:=A.length) (w:=A.length+A.length) (E:=2) A.length 0 ⟨Iu A.length (Oq D A),[],1,false⟩ b9 (A04 (nl1 (n:=1) oV) (by show 1<=2;omega)) au (A1t _);rw[A2w]at bd be;clear a4;have a4:=hs.le;generalize Fm A.length A.length 0 ⟨Iu A.length (Oq D A),[],1,false⟩=s at *
 refine G.lF' s.P.length A.length (by rw[bm];omega) ?_;have ao:=Az1 a4;have bt:nl D<=2:=nlM (by have:=A48 oV b1;omega);have aq:=(bl.mono l7).mono (V.trans a8);refine G.pub 0 45 [.slice a0 A.length c0] kV kV ?_;intro ga cb cc;refine G.pub 6002 187 [.bool F.b,.slice F.a F.n F.c,.slice (some ⟨go,0,none⟩) A.length c6] kV kV ?_;intro gt ce ak;refine G.pub 19005 192 [.slice L A.length Q,.slice pa s.P.length pc,.bool fv.b,.slice fv.a fv.n fv.c,.bool s.odd] kV kV ?_;intro gr cd a1;generalize af:((PH.mt.upd ga _).upd gt _).upd gr _=mm;have c1:gt≠ga:=fun e=>by subst e;rw[Ab]at ak;cases ak
 have b8:gr≠gt:=fun e=>by subst e;rw[Ab]at a1;cases a1
 have bx:gr≠ga:=fun e=>by subst e;rw[Ad _ _ b8,Ab]at a1;cases a1
 have e1:mm gr=some (.cells #[.slice L A.length Q,.slice pa s.P.length pc,.bool fv.b,.slice fv.a fv.n fv.c,.bool s.odd] 192 (0,0)):=by rw[<-af,Ab]
 have e2:mm gt=some (.cells #[.bool F.b,.slice F.a F.n F.c,.slice (some ⟨go,0,none⟩) A.length c6] 187 (0,0)):=by rw[<-af,Ad _ _ (Ne.symm b8),Ab]
 have e3:mm ga=some (.cells #[.slice a0 A.length c0] 45 (0,0)):=by rw[<-af,Ad _ _ (Ne.symm bx),Ad _ _ (Ne.symm c1),Ab]
 clear af;refine G.giveP (ma:=mm) (sm:=PH.mt) kV (by funext g;unfold PH.or;cases mm g<;>rfl) (fun g=>.inr rfl) (fun g=>.inl rfl) ?_
 intro ck ag T;have al:Fe A.length (en A) (en (Auu A.length D s)):=fun i k hi hk=>by
  rw[<-bp i k hi hk];exact Ah fun j H=>by
   unfold Auu;rw[N6 H hk,A37,A3c,A2r]
 have ay:=Rh A.length fun j k=>Rat.divInt (enZ s.X j (A.length+k)*(D:Int)) s.v;have c2:=(((ht.mono c4).mono l7).mono (V.trans a8)).mono ag;refine G.lU none ga 0 (.slice a0 A.length c0) (Po (T _ _ e3) (G2 rfl rfl))<|G.lU none ga 0 (.slice a0 A.length c0) (Po (T _ _ e3) (G2 rfl rfl))<|G.c call123 (Acd (f:=124) (cap:=[.pointer (some ⟨gr,0,none⟩),.pointer (some ⟨ga,0,none⟩),.pointer (some ⟨gt,0,none⟩)]) (X:=Auu A.length D s) c2 ay oV (hX _ ay al) call124 (fun i k hi hk u' hl=>by
  have R:=Awo (u:=u') (i:=i) (k:=k) (hl _ _ (T _ _ e1)) (hl _ _ (T _ _ e3)) (hl _ _ (T _ _ e2)) (Nl.mono hS (ag.trans hl)) bo (hV.mono (ag.trans hl)) (aq.mono (ag.trans hl)) (A04 (bd i (A.length+k)) ao) (A04 be ao) bt c3 hi hk oV;have e9:en (Auu A.length D s) i k=Rat.divInt (enZ s.X i (A.length+k)*(D:Int)) s.v:=N6 hi hk;rw[e9];exact R)) ?_
 rintro cp cl ch ⟨lv,rfl,ah⟩;obtain⟨la,lc,rfl⟩:=ah.opn;exact G.r (.tuple #[_,.int .i64 0]) ⟨rfl,_,_,rfl,ay,al,ah⟩
end
section
section
variable {u:PH} {v:Value} {P:List Par} {C:CF} {q:Rat} {N:Nat}
def Aa5 (j:In N C)(Q:N<=28873454400)(H:Fd q)(m:P.Nodup)(J:0<C.c)(e:∀ z,0<=Dh z P C)(h:P.length<=11):Sq (Eh C P q)/\(Eh C P q).length=P.length+1/\(∀ r∈Eh C P q,∀ x∈r,Th x)/\Xu (Eh C P q).length (en (Eh C P q)) /\
 ∀ X,Rec (Eh C P q).length (Eh C P q).length X->Fe (Eh C P q).length (en (Eh C P q)) (en X)->H6 P C q X/\∀ r∈X,∀ x∈r,Tx x:=by
 have E:=Rx (P:=P) (C:=C) (q:=q);have t:=Azc (P:=P) j Q H.sixty;refine⟨At1 t h,E.1,t,by rw[E.1];exact Xx m J H.pos e,fun X L hi=>?_⟩;rw[E.1]at L hi;have I:=H6.of_right L hi;exact⟨I,I.txs j oV H m J e h⟩
def Avf (ht:Hx u)(h:C7 u v (Cv (Eh C P q)))(t:In N C)(W:N<=28873454400)(Z:Fd q)(E:P.Nodup)(Y:0<C.c)(e:∀ z,0<=Dh z P C)(m:P.length<=11) :
 zF 53 [v] u fun r J=>∃ X j,r=.tuple #[j,zO]/\H6 P C q X/\C7 J j (Cv X):=by
 obtain⟨L,h2,Q,U,I⟩:=Aa5 t W Z E Y e m;refine Fn0.weak (Atl ht h L oV Q U fun X H hi=>(I X H hi).2) ?_;rintro r J ⟨X,j,rfl,H,hi,V⟩;exact⟨X,j,rfl,(I X H hi).1,V⟩
def Atq (h:C7 u v (Cv (Eh C P q)))(E:In N C)(W:N<=28873454400)(Z:Fd q)(H:P.Nodup)(Y:0<C.c)(e:∀ z,0<=Dh z P C)(t:P.length<=11) :
 zF 65 [v] u fun r Q=>∃ X m,r=.tuple #[m,zO]/\H6 P C q X/\C7 Q m (Cv X):=by
 obtain⟨I,h2,U,J,L⟩:=Aa5 E W Z H Y e t;have j:=Lu (Eh C P q).length (Bn (Eh C P q).length 0 [] (Lf (Eh C P q).length (Eh C P q)) 1).2.1;have hi:=Am6 (Xs I) J;refine Fn0.weak (Av1 h I oV (fun r j x hx=>(U r j x hx).tq) J (L _ j hi).2) ?_;rintro r Q ⟨m,rfl,V⟩;exact⟨_,m,rfl,(L _ j hi).1,V⟩
end
section
variable {u:PH} {v cv:Value} {T:zC} {R:List Br} {F:List Al} {lab:Int} {C:CF} {K k N:Nat} {P:List Par} {q:Rat}
def Afc (P:List Par)(C:CF)(k:Nat)(q:Rat)(r:Value)(u:PH):Prop :=
 (∃ e:Int,(k=0/\e=12\/e=3/\k≠0/\11<P.length)/\r=.tuple #[Axc,zI e]) \/
  (k≠0/\P.length<=11/\∃ sv X b s c,r=.tuple #[sv,zO]/\Ma u sv P X b s c q/\H9 P C q X b s c)
def Aaz (ht:Hx u)(h:Te u v cv T R F lab C K k P)(hq:Fd q)(a0:In N C)(hN:N<=28873454400)(W:∀ z,0<=Dh z P C) :
 zF 13 [v,cv,zS (Ae q)] u fun r u'=>Afc P C k q r u':=by
 have a7:=(Ahm ht h.w hq.w).giveAll;have V:=h.mom;have hK:=h.K;have a6:=fun (u':PH) (l:PH.le u u')=>Afd B7 B7 (h.cof.mono l) oV;obtain⟨xa,xc,xb,xd,xe,xf,rfl,_⟩:=id h.sch;obtain⟨a1,n1,c1,a2,n2,c2,rfl⟩:=id h.cof.opn;refine Fn0.o func13<|G.c call52 a7 ?_;rintro v1 u1 l1 ⟨u0,a9,a4,Q,⟨e,rfl,he⟩|⟨hk,P',pa,pc,ya,yc,ra,rc,a8,J,j,rfl,hL,E,m⟩⟩
 ·refine G.nT' e 0 (by rcases he with ⟨h,_⟩|⟨h,_⟩<;>omega) ?_
  exact G.r (.tuple #[Axc,zI e]) ⟨rfl,.inl ⟨e,by
   rcases he with ⟨Z,h2⟩|⟨Z,h2,P',h3,h4⟩
   ·exact .inl ⟨h2,Z⟩
   refine .inr ⟨Z,h2,?_⟩;rw[h.prm.eq h3];exact h4,rfl⟩⟩
 cases h.prm.eq J;refine G.nF 0 0 ?_;have hM:C7 u1 (.slice ya (P.length+1) yc) (Cv (Eh C P q)):=V9 (v:=zT) m E Q;obtain⟨m0,Y,_⟩:=m.focus 0 rfl;rw[D6]at Y;have hR:Cj u1 (.slice ra (P.length+1) rc) ((Yz C P).map Ae):=by
  unfold Cj Yz;rw[<-J7];exact Y.list Q
 have a3:=V.cpos hk;have a5:=J.1.nodup Et;refine G.c call53 (Avf (ht.mono l1) hM a0 hN hq a5 a3 W j) ?_;rintro v2 u2 l2 ⟨X,lv,rfl,hS,I⟩;obtain⟨la,lc,U⟩:=id I.opn;rw[A3]at U;subst U;refine G.nF 0 0<|G.c call55 Aq2 ?_;rintro v3 u3 l3 rfl;refine G.c call55 Aq2 ?_;rintro v4 u4 l4 rfl;refine G.c call54 (a6 u4 (((l1.trans l2).trans l3).trans l4)) ?_;rintro v5 u5 l5 rfl;have H:=(l3.trans l4).trans l5;have L:(Yz C P).length=P.length+1:=Ag3;exact G.r (.tuple #[.agg #[.slice pa P.length pc,.slice la X.length lc,.slice ra (P.length+1) rc,zS (Ae (C.t (Ay B7 B7))),zS (Ae C.c),zS (Ae q)],zO])
  ⟨rfl,.inr ⟨hk,j,_,X,Yz C P,C.t (Ay B7 B7),C.c,rfl,⟨pa,pc,la,lc,ra,rc,by rw[L],hL.mono (a4.trans (l2.trans H)),I.mono H,by rw[L];exact Ac.mono hR (l2.trans H)⟩,⟨hS,rfl,rfl,rfl⟩⟩⟩
def Aoj (h:Te u v cv T R F lab C K k P)(Z:Fd q)(J:In N C)(hN:N<=28873454400)(I:∀ z,0<=Dh z P C) :
 zF 21 [v,cv,zS (Ae q)] u fun r Y=>Afc P C k q r Y:=by
 have V:=Ae1 h Z;have H:=h.mom;have hK:=h.K;have U:=fun (Y:PH) (l:PH.le u Y)=>U2 B7 B7 (h.cof.mono l) oV;obtain⟨xa,xc,xb,xd,xe,xf,rfl,_⟩:=id h.sch;obtain⟨a1,n1,c1,a2,n2,c2,rfl⟩:=id h.cof.opn;refine Fn0.o func21<|G.c call16 V ?_;rintro v1 u1 l1 (⟨e,he,hwhy,rfl⟩|⟨hk,hP11,pa,pc,ya,yc,ra,rc,rfl,hPL,hM,hR⟩)
 ·exact G.nT' e 0 he<|G.r (.tuple #[Axc,zI e]) ⟨rfl,.inl ⟨e,hwhy,rfl⟩⟩
 refine G.nF 0 0 ?_;have L:=H.cpos hk;have Q:=h.prm.1.nodup Et;refine G.c call65 (Atq hM J hN Z Q L I hP11) ?_;rintro v2 u2 l2 ⟨X,lv,rfl,hS,j⟩;obtain⟨la,lc,E⟩:=id j.opn;rw[A3]at E;subst E;refine G.nF 0 0<|G.c call66 (U u2 (l1.trans l2)) ?_;rintro v5 u5 W rfl;have m:(Yz C P).length=P.length+1:=Ag3;exact G.r (.tuple #[.agg #[.slice pa P.length pc,.slice la X.length lc,.slice ra (P.length+1) rc,zS (Ae (C.t (Ay B7 B7))),zS (Ae C.c),zS (Ae q)],zO])
  ⟨rfl,.inr ⟨hk,hP11,_,X,Yz C P,C.t (Ay B7 B7),C.c,rfl,⟨pa,pc,la,lc,ra,rc,by rw[m],hPL.mono (l2.trans W),j.mono W,by rw[m];exact Ac.mono hR (l2.trans W)⟩,⟨hS,rfl,rfl,rfl⟩⟩⟩
end
end
section
variable {ts:zW}{v:Value}
def At2 {u:PH}{q:Rat}(h:Tx q):zF 228 [zS (Ae q)] u fun v _=>v=zL:=by
 refine Fn0.o func228<|G.c call169 (Gu h) ?_;rintro m j e rfl;exact G.z zL
def Ue {u:PH}(h:Cj u v ts)(hT:∀ t∈ts,∃ q,t=Ae q/\Tx q)(m:ts.length<=1000):zF 177 [v] u fun r _=>r=zT:=by
 obtain⟨a,c,rfl⟩:=Ac.opn h;refine Fn0.o func177<|G.c call167 (Lc (fid:=228) h oV call228 (fun t j C _=>?_)) ?_
 ·obtain⟨q,rfl,e⟩:=hT t j;exact At2 e
 rintro F E l2 rfl;exact G.z zT
def Arw {e:zR}(h:∀ q∈e,Tx q):∀ t∈e.map Ae,∃ q,t=Ae q/\Tx q:=fun t m=>by
 obtain⟨q,j,rfl⟩:=A1b.1 m;exact⟨q,rfl,h q j⟩
def At4 {u:PH}(h:Cj u v ts)(hT:∀ t∈ts,∃ q,t=Ae q/\Tx q)(e:ts.length<=1000):zF 178 [v] u fun r _=>r=zL:=by
 have j:=Ue h hT e;obtain⟨a,c,rfl⟩:=Ac.opn h;refine Fn0.o func178<|G.c call177 j ?_;rintro E C m rfl;exact G.z zL
def Amc {u:PH}{g n:Nat}(h:Cj u v ts)(j:ts.length=n)(e:u g=some (.cells #[.int .i64 n] 3 (0,0))):Fn0 prog 176 [v,.pointer (some ⟨g,0,none⟩)] u fun r _=>r=.bool false:=by
 obtain⟨a,c,rfl⟩:=Ac.opn h;rw[Cb,j];exact Fn0.o func176<|G.lU none g 0 (.int .i64 n) (Po e (G2 rfl rfl))<|G.nF n n<|G.z (.bool false)
section
variable {u:PH} {pa xa ra a1 a2 a3:zP} {n pc xc rc n1 c1 n2 c2 n3 c3:Nat} {lab:Int} {X:zM} {b:zR} {s c q:Rat}
def stV (pa:zP)(n pc:Nat)(xa:zP)(xc:Nat)(ra:zP)(rc:Nat)(s c q:Rat)(a1:zP)(n1 c1:Nat)(a2:zP)(n2 c2:Nat)(a3:zP)(n3 c3:Nat)(lab:Int):Value :=
 .agg #[.slice pa n pc,.slice xa (n+1) xc,.slice ra (n+1) rc,zS (Ae s),zS (Ae c),zS (Ae q),.slice a1 n1 c1,.slice a2 n2 c2,.slice a3 n3 c3,zI lab]
def Xy (E:C7 u (.slice xa (n+1) xc) (Cv X))(t:X.length=n+1)(I:∀ r∈X,r.length=n+1)(L:n<=1000) :
 Fn0 prog 100 [stV pa n pc xa xc ra rc s c q a1 n1 c1 a2 n2 c2 a3 n3 c3 lab] u fun r _=>r=.bool true:=by
 refine Fn0.o func100<|G.i n<|G.pub 1005 3 [.int .i64 (n+1:Nat)] kV kV ?_;intro g F H;generalize e:PH.mt.upd g _=mm;have C:mm g=some (.cells #[.int .i64 (n+1:Nat)] 3 (0,0)):=by rw[<-e,Ab]
 clear e;refine G.giveP (ma:=mm) (sm:=PH.mt) kV (by funext g;unfold PH.or;cases mm g<;>rfl) (fun g=>.inr rfl) (fun g=>.inl rfl) ?_
 intro R l2 j;have h:=j _ _ C;refine G.lU none g 0 (.int .i64 (n+1:Nat)) (Po h (G2 rfl rfl))<|G.eT' (n+1:Nat) (n+1:Nat) rfl<|G.lU none g 0 (.int .i64 (n+1:Nat)) (Po h (G2 rfl rfl))<|G.eT' (n+1:Nat) (n+1:Nat) rfl<|G.c call175 (Gd (fid:=176) (cap:=[.pointer (some ⟨g,0,none⟩)]) (E.mono l2) (by rw[A3];omega) call176 (fun r m Q x t J=>?_)) ?_
 ·obtain⟨y,K,rfl⟩:=Mg m;exact Amc J (by rw[A03,I y K]) (t _ _ h)
 rintro U T P rfl;exact G.z (.bool true)
def Uw (J:C7 u (.slice xa (n+1) xc) (Cv X))(H:Cj u (.slice ra (n+1) rc) (b.map Ae))(R:X.length=n+1)(U:∀ r∈X,r.length=n+1)(L:b.length=n+1)(hT:∀ r∈X,∀ x∈r,Tx x)(K:∀ x∈b,Tx x)(V:Tx s)(P:Tx c)(T:Tx q)(hn:n<=900) :
 zF 101 [stV pa n pc xa xc ra rc s c q a1 n1 c1 a2 n2 c2 a3 n3 c3 lab] u fun r _=>r=zT:=by
 refine Fn0.o func101<|G.c call177 (Ue H (Arw K) (by rw[A03];omega)) ?_;rintro v1 u1 Y rfl;refine G.buildU 34 1 16 zE (Cc [Ae s,Ae c,Ae q]) kV (Gc _) rfl oV (by simp[Cc]) (by simp[Cc]) ?_;intro g2 u2 l2 F;have I:Cj u2 (zG g2 3 3) [Ae s,Ae c,Ae q]:=⟨_,3,rfl,A08 _,fun j e Q=>⟨g2,0,rfl,F j e Q⟩⟩;refine G.c call177 (Ue I (fun t C=>by
  simp only[A1g,A11,or_false]at C;rcases C with rfl|rfl|rfl
  ·exact⟨_,rfl,V⟩
  ·exact⟨_,rfl,P⟩
  exact⟨_,rfl,T⟩) mV) ?_
 rintro v3 u3 Z rfl;have m:=(Y.trans l2).trans Z;refine G.c call175 (Gd (fid:=178) (cap:=[]) (J.mono m) (by rw[A3];omega) call178 (fun r h u' x R W=>?_)) ?_
 ·obtain⟨y,E,rfl⟩:=Mg h;exact At4 W (Arw (hT y E)) (by rw[A03,U y E];omega)
 rintro v4 u4 l4 rfl;exact G.z zT
end
section
variable {u:PH} {xv yv:Value} {X:zM} {x y:zR} {n:Nat}
def As6 (hx:F6 u xv x)(hy:F6 u yv y)(hl:x.length=n)(T:y.length=n)(hn:n<=100){S S':Nat}(hS:SzL x S)(P:SzL y S')(a0:n*(S+S'+1)<=100000000) :
 zF 69 [xv,yv] u fun r W=>Bg W r (Vq n (gR x) (gR y))/\Sz (Vq n (gR x) (gR y)) (1+n*(S+S'+1)):=by
 obtain⟨es,L,F⟩:=id hx;obtain⟨es',m,H⟩:=id hy;have hF:AtP Bg u es x:=F;have hF':AtP Bg u es' y:=H;clear F H;obtain⟨a,c,rfl⟩:=L.opn;obtain⟨a',Y,rfl⟩:=m.opn;rw[hF.1,hl]at L⊢;rw[hF'.1,T]at m⊢;clear hx hy;refine Fn0.o func69<|G.c call128 (Wa (z:=0) oV oV) ?_;intro v1 u1 K V;rw[show ((0:Int):Rat)=0 from rfl]at V;obtain⟨f1,rfl⟩:=V.opF;refine G.l (ι:=Nat×F4) (fun i=>[(0,sV a n c),(1,sV a' n Y),(4,.p 0 0),(5,.p 1001 0),(9,iV n),(10,iV i.1)])
  (fun i=>[(0,⟨143,[bF,sN,bF,sN]⟩),(1001,⟨143,fc i.2⟩)])
  (fun i W m'=>i.1<=n/\Bg W (fv i.2) (Bb i.1 fun t=>gR x t*gR y t)/\Sz (Bb i.1 fun t=>gR x t*gR y t) (1+i.1*(S+S'+1))/\m'=PH.mt) (fun i=>n-i.1) (0,f1) ⟨oV,V,Q3.mono oV,rfl⟩ ?_
 rintro J ⟨i,f⟩ Z u2 m2 l2 ⟨hi,R,h,rfl⟩;simp only at hi R h Z;by_cases I:i<n
 ·refine G.lT i n ?_;have C:i<x.length:=oV;have E:i<y.length:=oV;have hb:i*(S+S'+1)<=n*(S+S'+1):=A13 _ hi;have a4:S+S'+1<=n*(S+S'+1):=Nat.le_mul_of_pos_left _ oV;obtain⟨e,he,k⟩:=hF.at (j:=i) C;obtain⟨e',Q,U⟩:=hF'.at (j:=i) E;rw[<-Cu C]at k;rw[<-Cu E]at U;obtain⟨g,rfl⟩:=k.opF;obtain⟨g',rfl⟩:=U.opF;obtain⟨b1,o1,rfl,e1⟩:=Ac.at' (L.mono (K.trans l2)) he;obtain⟨b2,o2,rfl,e2⟩:=Ac.at' (m.mono (K.trans l2)) Q;refine G.N n c I e1<|G.N n Y I e2 ?_;have s1:Sz (gR x i) S:=hS.at C;have s2:Sz (gR y i) S':=P.at E;have sm:=Fx s1 s2;refine G.c call130 (Ga (k.mono (K.trans l2)) (U.mono (K.trans l2)) (s1.mono oV) (s2.mono oV)) ?_;intro v3 u3 l3 k3;obtain⟨f3,rfl⟩:=k3.opF;refine G.c call129 (Lq (R.mono l3) k3 (h.mono oV) (sm.mono oV)) ?_;intro v4 u4 l4 k4;obtain⟨f4,rfl⟩:=k4.opF;refine G.i i<|G.b (Z (i+1,f4) _ _ _ cV ((l2.trans l3).trans l4) ⟨dV,by dsimp only;rw[Ds];exact k4,?_,rfl⟩ dV);dsimp only;rw[Ds];refine (R5 h sm).mono ?_;rw[Nat.succ_mul];omega
 obtain rfl:i=n:=oV;exact G.lF i i<|G.r (fv f) ⟨rfl,R,h⟩
end
end
section
variable {X:zM}{n:Nat}{x:zR}
def Alj (X:zM):Bool->Nat->Nat->Rat
 |false,i,k=>en X i k
 |true,i,k=>en X k i
def Io (n:Nat)(X:zM)(x:zR)(cb:Bool):zR:=(List.range n).map fun i=>Bb n fun k=>Alj X cb i k*gR x k
def F1 (n:Nat)(X:zM)(x:zR)(e:Bool):(Io n X x e).length=n:=by simp[Io]
def Xv {e:Bool}{i:Nat}(hi:i<n):gR (Io n X x e) i=Bb n fun k=>Alj X e i k*gR x k:=by
 unfold Io gR;rw[A02,A1a,A31 hi];rfl
def Aeu {u:PH}{av xv:Value}{n S:Nat}(U:Bool)(h:C7 u av (Cv X))(hX:Rec n n X)(hT:∀ r∈X,∀ y∈r,Tx y)(hx:F6 u xv x)(hl:x.length=n)(hn:n<=100)(hS:SzL x S)(ah:n*(400+S+1)<=100000000) :
 zF 70 [av,xv,.bool U] u fun r u'=>F6 u' r (Io n X x U)/\SzL (Io n X x U) (1+n*(400+S+1)):=by
 have a3:∀ i k,i<n->k<n->Tx (en X i k):=fun i k hi hk=>by
  have F:i<X.length:=by rw[hX.1];exact hi
  have V:=hX.2 i hi;rw[Ch F]at V;have R:k<X[i].length:=oV;unfold en;rw[Ch F,Cu R];exact hT _ (A09 F) _ (A09 R)
 have Y:∀ {u':PH} {a:zP} {c:Nat} (i k:Nat),C7 u' (.slice a n c) (Cv X)->i<n->k<n->∃ b1 o1 b2 o2 c2,a=some ⟨b1,o1,none⟩/\ElP u' b1 (o1+i*1) (.slice (some ⟨b2,o2,none⟩) n c2)/\ElP u' b2 (o2+k*1) (zS (Ae (en X i k))):=fun i k hM hi hk=>by
  have F:i<X.length:=by rw[hX.1];exact hi
  have V:=hX.2 i hi;rw[Ch F]at V;have R:k<X[i].length:=oV;obtain⟨b1,o1,b2,o2,c2,e0,e1,e2⟩:=hM.cell F R;refine⟨b1,o1,b2,o2,c2,e0,by rw[<-V];exact e1,?_⟩;unfold en;rw[Ch F,Cu R];exact e2
 obtain⟨es,hL,ab⟩:=id hx;have hF:AtP Bg u es x:=ab;obtain⟨a,c,rfl⟩:=h.opn;obtain⟨xa,xc,rfl⟩:=hL.opn;rw[A3,hX.1]at h⊢;rw[hF.1,hl]at hL⊢;clear hx ab;refine Fn0.o func70<|G.make 143 4 64 Cw n kV rfl rfl oV oV oV ?_;rintro v1 m1 a6 ⟨aO,rfl⟩;obtain⟨go,rfl,_⟩:=a6.some';refine G.l (ι:=Nat×zV) (fun i=>[(0,sV a n c),(1,sV xa n xc),(2,bV U),(7,sV (zA go) n n),(16,iV n),(17,iV i.1)]) (fun _=>[])
  (fun i u' m'=>i.1<=n/\i.2.length=n/\(∀ j,j<i.1->∃ e,i.2[j]?=some e/\Bg u' e (gR (Io n X x U) j)/\Sz (gR (Io n X x U) j) (1+n*(400+S+1)))/\Af PH.mt m' (zG go n n) 143 4 i.2) (fun i=>n-i.1) (0,List.replicate n Cw)
  ⟨oV,mV,fun j H=>absurd H (Nat.not_lt_zero _),a6⟩ ?_
 clear a6;rintro J ⟨i,es1⟩ hJ u2 m2 l2 ⟨hi,L,E,a2⟩;simp only at hi L E a2 hJ;by_cases m:i<n
 ·refine G.lT i n<|G.c call128 (Wa (z:=0) oV oV) ?_;intro v3 u3 l3 k3;rw[show ((0:Int):Rat)=0 from rfl]at k3;obtain⟨f3,rfl⟩:=k3.opF;refine G.a go 0 n n i 4 m<|G.storeA 4 PH.mt es1 go n n i (fv f3) kV a2 oV rfl rfl ?_;intro m4 aa;refine G.l (ι:=Nat×zV) (fun k=>[(0,sV a n c),(1,sV xa n xc),(2,bV U),(7,sV (zA go) n n),(8,iV i),(16,iV n),(17,iV i),(24,sV xa n xc),(25,iV n),(26,iV k.1)]) (fun _=>[])
   (fun k u' m'=>k.1<=n/\k.2.length=n/\(∀ j,j<i->∃ e,k.2[j]?=some e/\Bg u' e (gR (Io n X x U) j)/\Sz (gR (Io n X x U) j) (1+n*(400+S+1)))/\(∃ f,k.2[i]?=some (fv f)/\Bg u' (fv f) (Bb k.1 fun t=>Alj X U i t*gR x t)/\Sz (Bb k.1 fun t=>Alj X U i t*gR x t) (1+k.1*(400+S+1)))/\Af PH.mt m' (zG go n n) 143 4 k.2) (fun k=>n-k.1) (0,es1.set i (fv f3))
   ⟨oV,by dsimp only;rw[A21];exact L,fun j H=>by
    obtain⟨e,F,V,R⟩:=E j H;exact⟨e,by dsimp only;rw[A1z,if_neg oV];exact F,V.mono l3,R⟩,⟨f3,by dsimp only;rw[A1z,if_pos rfl,if_pos oV],k3,Q3.mono oV⟩,aa⟩ ?_
  clear E a2 aa L;rintro J2 ⟨k,W⟩ a8 u5 m5 l5 ⟨hk,P,Q,K,T⟩;simp only at hk P Q K T a8;have a5:=(l2.trans l3).trans l5;by_cases C:k<n
  ·refine G.lT k n ?_;have a4:k<x.length:=oV;obtain⟨e,he,kx⟩:=hF.at (j:=k) a4;rw[<-Cu a4]at kx;obtain⟨g,rfl⟩:=kx.opF;have ac:=kx.mono a5;obtain⟨bx,ox,rfl,ex⟩:=Ac.at' (hL.mono a5) he;refine G.N n xc C ex ?_;obtain⟨b1,o1,b2,o2,c2,rfl,e1,e2⟩:=Y i k (h.mono a5) m C;refine G.N n c m e1<|G.N n c2 C e2 ?_;cases U
   ·have hA:i<n:=m;obtain⟨fq,Z,a0,I⟩:=K;have hb:k*(400+S+1)<=n*(400+S+1):=A13 _ hk;have ae:400+S+1<=n*(400+S+1):=Nat.le_mul_of_pos_left _ oV;refine G.O n n m (T.el Z)<|G.c call133 (Gs (a3 i k m C)) ?_;intro v6 u6 l6 k6;obtain⟨f6,rfl⟩:=k6.opF;have s1:Sz (en X i k) 400:=(a3 i k m C).sz;have s2:Sz (gR x k) S:=hS.at a4;have sm:=Fx s1 s2;refine G.c call130 (Ga k6 (ac.mono l6) (s1.mono oV) (s2.mono oV)) ?_;intro v7 u7 l7 k7;obtain⟨f7,rfl⟩:=k7.opF;refine G.c call129 (Lq (a0.mono (l6.trans l7)) k7 (I.mono oV) (sm.mono oV)) ?_;intro v8 u8 l8 k8;obtain⟨f8,rfl⟩:=k8.opF;refine G.a go 0 n n i 4 m<|G.storeA 4 PH.mt W go n n i (fv f8) kV T oV rfl rfl ?_;intro m9 a7;have a1:=(l6.trans l7).trans l8;refine G.i k<|G.b (a8 (k+1,W.set i (fv f8)) _ _ _ cV (l5.trans a1) ⟨dV,by dsimp only;rw[A21];exact P,?_,?_,a7⟩ dV)
    ·intro j H;obtain⟨e,F,V,R⟩:=Q j H;exact⟨e,by dsimp only;rw[A1z,if_neg oV];exact F,V.mono a1,R⟩
    refine⟨f8,by dsimp only;rw[A1z,if_pos rfl,if_pos oV],by dsimp only;rw[Ds];exact k8,?_⟩;dsimp only;rw[Ds];refine (R5 I sm).mono ?_;rw[Nat.succ_mul];omega
   obtain⟨b3,o3,b4,o4,c4,e0,e3,e4⟩:=Y k i (h.mono a5) C m;cases e0;refine G.N n c C e3<|G.N n c4 m e4 ?_;obtain⟨fq,Z,a0,I⟩:=K;have hb:k*(400+S+1)<=n*(400+S+1):=A13 _ hk;have ae:400+S+1<=n*(400+S+1):=Nat.le_mul_of_pos_left _ oV;refine G.O n n m (T.el Z)<|G.c call133 (Gs (a3 k i C m)) ?_;intro v6 u6 l6 k6;obtain⟨f6,rfl⟩:=k6.opF;have s1:Sz (en X k i) 400:=(a3 k i C m).sz;have s2:Sz (gR x k) S:=hS.at a4;have sm:=Fx s1 s2;refine G.c call130 (Ga k6 (ac.mono l6) (s1.mono oV) (s2.mono oV)) ?_;intro v7 u7 l7 k7;obtain⟨f7,rfl⟩:=k7.opF;refine G.c call129 (Lq (a0.mono (l6.trans l7)) k7 (I.mono oV) (sm.mono oV)) ?_;intro v8 u8 l8 k8;obtain⟨f8,rfl⟩:=k8.opF;refine G.a go 0 n n i 4 m<|G.storeA 4 PH.mt W go n n i (fv f8) kV T oV rfl rfl ?_;intro m9 a7;have a1:=(l6.trans l7).trans l8;refine G.i k<|G.b (a8 (k+1,W.set i (fv f8)) _ _ _ cV (l5.trans a1) ⟨dV,by dsimp only;rw[A21];exact P,?_,?_,a7⟩ dV)
   ·intro j H;obtain⟨e,F,V,R⟩:=Q j H;exact⟨e,by dsimp only;rw[A1z,if_neg oV];exact F,V.mono a1,R⟩
   refine⟨f8,by dsimp only;rw[A1z,if_pos rfl,if_pos oV],by dsimp only;rw[Ds];exact k8,?_⟩;dsimp only;rw[Ds];refine (R5 I sm).mono ?_;rw[Nat.succ_mul];omega
  obtain rfl:k=n:=oV;refine G.lF k k ?_;obtain⟨fq,Z,a0,I⟩:=K;refine G.i i<|G.b (hJ (i+1,W) _ _ _ cV ((l2.trans l3).trans l5) ⟨dV,P,?_,T⟩ dV);intro j H;dsimp only at H⊢;by_cases af:j=i
  ·subst af;rw[Xv m];exact⟨_,Z,a0,I⟩
  exact Q j oV
 obtain rfl:i=n:=oV;refine G.lF i i<|G.give PH.mt es1 _ kV a2 (fun _=>.inl rfl) ?_;intro u3 l3 ad;refine G.r (zG go i i) ⟨rfl,⟨es1,ad,by rw[L,F1],fun j q H=>?_⟩,fun q hq=>?_⟩
 ·obtain⟨a9,e⟩:=A05.1 H;rw[F1]at a9;obtain⟨x1,F,V,_⟩:=E j a9;refine⟨x1,F,?_⟩;rw[<-e,<-Cu (by rw[F1];exact a9)];exact V.mono l3
 obtain⟨j,H,rfl⟩:=A3d.1 hq;have ag:j<i:=by rw[F1]at H;exact H
 obtain⟨_,_,_,R⟩:=E j ag;rwa[Cu H]at R
end
section
variable [Cl] [Co]
end
def Avx (L:List Par):A9 2 (L.map Ap):=fun x e=>by
 obtain⟨y,_,rfl⟩:=A1b.1 e;exact⟨rfl,A1o.1 rfl⟩
def Ag8 {u:PH}{v:Value}{L:List Par}(h:Ac u v 2 (L.map Ap))(h0:L≠[])(E:L.length<=1000000) :
 Ag prog 155 [v] u PH.mt fun C I t=>Af PH.mt t C 118 2 (L.map Ap):=by
 obtain⟨a,c,rfl⟩:=h.opn;have e:0<(L.map Ap).length:=by rw[A03];exact A4f.2 h0
 obtain⟨b,off,rfl,_⟩:=Ac.at' h (A01 e);refine Ag.o func155<|G.nilF 118 ⟨b,off,none⟩ (L.map Ap).length c kV<|G.build0 118 2 24 (.agg #[zO,zE]) kV ?_;intro g F m;refine G.append 118 2 24 (.agg #[zO,zE]) PH.mt [] (L.map Ap) (zG g 0 0) b off (L.map Ap).length c kV rfl rfl oV m h.els (Avx L) rfl e gV gV ?_;intro J H j;obtain⟨a2,c2,rfl⟩:=j.shape;exact G.r _ j
section
def Al5 {u:PH}{v:Value}{ts:zW}(h:Cj u v ts)(h0:ts≠[])(t:ts.length<=1000000) :
 Ag prog 156 [v] u PH.mt fun E J C=>Af PH.mt C E 34 1 (Cc ts):=by
 obtain⟨a,c,rfl⟩:=Ac.opn h;have e:0<(Cc ts).length:=by rw[Cb];exact A4f.2 h0
 obtain⟨b,off,rfl,_⟩:=Ac.at' h (A01 e);have F:(Cc ts).length<=1000000:=by rw[Cb];exact t
 refine Ag.o func156<|G.nilF 34 ⟨b,off,none⟩ (Cc ts).length c kV<|G.build0 34 1 16 zE kV ?_;intro g H m;refine G.append 34 1 16 zE PH.mt [] (Cc ts) (zG g 0 0) b off (Cc ts).length c kV rfl rfl oV m (Ac.els h) (Gc ts) rfl e gV gV ?_;intro K I j;obtain⟨a2,c2,rfl⟩:=j.shape;exact G.r _ j
section
variable {u:PH} {pa xa ra:zP} {pc xc rc:Nat} {P:List Par} {X:zM} {b:zR} {t1 t2 t3:zB}
def Yg (hP:Ac u (.slice pa P.length pc) 2 (P.map Ap))(hX:C7 u (.slice xa X.length xc) (Cv X))(hR:Cj u (.slice ra b.length rc) (b.map Ae))(h0:P≠[])(ab:b≠[])(ai:∀ r∈X,r≠[])(am:P.length<=1000)(an:X.length<=1000)(aj:∀ r∈X,r.length<=1000)(ao:b.length<=1000) :
 Ag prog 86 [.agg #[.slice pa P.length pc,.slice xa X.length xc,.slice ra b.length rc,zS t1,zS t2,zS t3]] u PH.mt fun r u' m' =>
  ∃ (R:zP) (qc:Nat) (T:zP) (U:Nat) (E:zP) (F:Nat) (e:List (Value×zV)),r=.agg #[.slice R P.length qc,.slice T X.length U,.slice E b.length F,zS t1,zS t2,zS t3] /\
   Ac u' (.slice R P.length qc) 2 (P.map Ap)/\e.map (·.2)=X.map txV/\Bag m' (Bu (.slice E b.length F,txV b)::oT (.slice T X.length U) e::e.map Bu):=by
 refine Ag.o func86<|G.callO _ _ kV call155 (Ag8 hP h0 oV) ?_;intro v1 u1 m1 l1 H _;rw[By];obtain⟨R,qc,rfl⟩:=H.shape;rw[A03]at H⊢;refine G.callO _ _ kV call156 (Al5 (Ac.mono hR l1) (by simpa using ab) (by rw[A03];omega)) ?_;intro v2 u2 m2 l2 L af;have j:=L.join af;obtain⟨E,F,rfl⟩:=L.shape;rw[Cb,A03]at j⊢;obtain⟨sm,ak,aa,a4⟩:=j.split;refine G.giveP (ma:=m1) (sm:=sm) kV ak aa (fun g=>.inl rfl) ?_;intro u3 l3 ah;have a7:Ac u3 (.slice R P.length qc) 2 (P.map Ap):=by
  have:=H.list ah;simpa using this
 have Y:Bag sm (Bu (.slice E b.length F,txV b)::oT zN []::([]:List (Value×zV)).map Bu):=⟨PH.mt,by rw[D6,J7];exact a4,PH.mt,Af.nil _ _ _,trivial⟩;have a9:=hX.mono ((l1.trans l2).trans l3);refine G.l (ι:=Nat×(zP×Nat)×List (Value×zV)) (fun i=>[(2,.p 1 0),(3,.p 1001 0),(17,sV xa X.length xc),(18,iV X.length),(19,iV i.1)])
  (fun i=>[(1,⟨48,[sN,sN,sN,tV [],tV [],tV []]⟩),(1001,⟨48,[sV R P.length qc,sV i.2.1.1 i.1 i.2.1.2,sV E b.length F,tV t1,tV t2,tV t3]⟩)])
  (fun i u' m'=>i.1<=X.length/\i.2.2.map (·.2)=(X.take i.1).map txV/\Bag m' (Bu (.slice E b.length F,txV b)::oT (.slice i.2.1.1 i.1 i.2.1.2) i.2.2::i.2.2.map Bu)) (fun i=>X.length-i.1) (0,(none,0),[]) ⟨oV,rfl,Y⟩ ?_
 clear Y a4 L j H;rintro J ⟨i,⟨T,U⟩,e⟩ hJ u4 m4 l4 ⟨hi,h,m⟩;simp only at hi h m hJ;have a1:e.length=i:=by have:=congrArg List.length h;simp at this;omega
 by_cases Z:i<X.length
 ·refine G.lT i X.length ?_;obtain⟨r,Q⟩:∃ r,X[i]?=some r:=⟨_,A01 Z⟩;have a2:=A1k Q;have al:X.take (i+1)=X.take i++[r]:=by rw[A1n,Q];rfl
  obtain⟨bx,ox,a5,c5,rfl,e5,s5⟩:=(a9.mono l4).row (Dw Q);rw[A03]at e5;refine G.N X.length xc Z e5 ?_;rw[A03]at s5;refine G.callO _ _ kV call156 (Al5 s5 (by simpa using ai r a2) (by rw[A03];have:=aj r a2;omega)) ?_;intro v6 u6 m6 l6 V ag;have K:=V.join ag;obtain⟨t,C,rfl⟩:=V.shape;rw[Cb,A03]at K⊢;have ac:Bag (m4.or m6) (Bu (.slice t r.length C,txV r)::Bu (.slice E b.length F,txV b)::oT (.slice T i U) e::e.map Bu):=⟨m4,by rw[D6,J7];exact K,m⟩;refine G.B 46 1 24 zN [.slice t r.length C] (B5 _ _ _) ?_;intro g7 u7 l7 e7;obtain⟨mo,a3,a0⟩:=ac.focus 2 rfl;rw[Aaa]at a3;refine G.k 46 1 24 zN mo (e.map (·.1)) [.slice t r.length C] (.slice T i U) g7 0 1 1 a3 e7 (B5 _ _ _) ?_;intro v8 m8 I;have em:e.map (·.1)++[Value.slice t r.length C]=(e++[(Value.slice t r.length C,txV r)]).map (·.1):=mV;rw[em]at I;obtain⟨a8,c8,rfl⟩:=I.shape;have el:((e++[(Value.slice t r.length C,txV r)]).map (·.1)).length=i+1:=by simp[a1]
  rw[el]at I⊢;have ad:=a0 (oT (.slice a8 (i+1) c8) (e++[(Value.slice t r.length C,txV r)])) m8 I;have ae:=Bag.perm S8 ad;have W:Bag m8 (Bu (.slice E b.length F,txV b)::oT (.slice a8 (i+1) c8) (e++[(Value.slice t r.length C,txV r)])::(e++[(Value.slice t r.length C,txV r)]).map Bu):=by simpa using ae
  refine G.i i<|G.b (hJ (i+1,(a8,c8),e++[(Value.slice t r.length C,txV r)]) _ _ _ cV ((l4.trans l6).trans l7) ⟨dV,?_,W⟩ dV);dsimp only;rw[A1i,h,al];simp
 obtain rfl:i=X.length:=oV;refine G.lF X.length X.length ?_;rw[A15]at h;exact G.r (.agg #[.slice R P.length qc,.slice T X.length U,.slice E b.length F,zS t1,zS t2,zS t3]) ⟨R,qc,T,U,E,F,e,rfl,a7.mono l4,h,m⟩
end
end
section
def Q7 {u:PH}{y:Value}{q r:Rat}{g k:Nat}(H:Hx u)(e:Tx q)(j:Bg u y r)(E:Sz r k)(J:k<=1000000000)(h:Tx (q+r)) :
 zF 132 [zS (Ae q),y,.pointer (zA g)] u fun v _=>v=zS (Ae (q+r)):=by
 obtain⟨I,rfl⟩:=j.opF;refine Fn0.o func132<|G.c call133 (Gs e) ?_;intro V L C m;obtain⟨f1,rfl⟩:=m.opF;refine G.c call129 (Lq m (j.mono C) (e.sz.mono oV) (E.mono oV)) ?_;intro W Q l2 t;obtain⟨f2,rfl⟩:=t.opF;refine G.c call71 (Uf (H.mono (C.trans l2)) t h) ?_;rintro Y U K rfl;exact G.nF 0 0<|G.z (zS (Ae (q+r)))
def Azi {u:PH}{T:zC}{R:List Br}{F:List Al}{l:Nat}{ss:zW}(ok:Bl u T R F (l:Int))(C:Bw T ss)(t:G4 F (l:Int) ss=true):ss.getD l []≠[]/\ss.getD l []=Ae ((cfT F (l:Int) ss).s B7)/\SmW ((cfT F (l:Int) ss).s B7):=by
 obtain⟨n,I⟩:=ok.l2 l rfl;have W:=(A05.1 I).1;have H:=C.len;have V:l<ss.length:=oV;have E:ss[l]?=some ss[l]:=A01 V;have e:ss.getD l []=ss[l]:=by simp[A02,E]
 have j:ss.getD l []≠[]:=fun h=>by
  unfold G4 at t;rw[A23,h]at t;simp at t
 have m:=Hg (F:=F) (lab:=(l:Int)) E;have U:Gm F (l:Int) l ss[l]=some (some (B7,Lk ss[l])):=by
  unfold Gm;rw[if_pos rfl];unfold Sy;rw[if_neg (by rw[<-e];exact j)];rfl
 rw[U]at m;have J:=Tv ok.feat C ok.l1 (fun l' e=>by have:=Int.ofNat.inj e;omega) t m;have Y:=C.val l _ _ I E;have K:=Hz Y (by rw[<-e];exact j);obtain⟨L,Q⟩:=K;refine⟨j,?_,?_⟩
 ·rw[J,e];exact Q.symm
 rw[J];exact L
structure Av5 (F:List Al)(l:Nat)(P:List Par)(ss:zW):Prop where
 cnt:G4 F (l:Int) ss=true
 has:∀ x∈Dx F ss F.length,x.1∈P
section
variable {u:PH} {tv:Value} {T:zC} {R:List Br} {F:List Al} {l:Nat} {ss:zW} {P:List Par} {X:zM} {b:zR} {s c q:Rat} {w:Int}
variable {pa xa ra a1 a2 a3:zP} {pc xc rc c1 c2 c3:Nat}
def Aog (ht:Hx u)(h:Mv u (.agg #[.slice a1 T.length c1,.slice a2 R.length c2,.slice a3 F.length c3,zI l]) tv T R F (l:Int) ss)(Z:Av5 F l P ss)
 (hP:Ac u (.slice pa P.length pc) 2 (P.map Ap)) (hX:C7 u (.slice xa (P.length+1) xc) (Cv X)) (hR:Cj u (.slice ra (P.length+1) rc) (b.map Ae)) (hp:Td F P q) (m:Ah3 P X b s c) (I:∃ L,Y5 X L 86) (h5:P.length<=5) (ab:w≠0) (ac:-1000000000000<=w) (ad:w<=1000000000000) :
 zF 68 [stV pa P.length pc xa xc ra rc s c q a1 T.length c1 a2 R.length c2 a3 F.length c3 (l:Int),tv,zI w] u fun r e=>∃ xv,r=.tuple #[xv,zT,zO]/\F6 e xv (Ko P (cfT F (l:Int) ss).s):=by
 have a6:=Lm h;have a0:=fun (e:PH) (H:PH.le u e)=>Yv (h.mono H);have a5:=fun (e:PH) (H:PH.le u e)=>Anh (h.mono H) (hP.mono H) hp.srt Z.has oV;have Q:=h.lt;have C:=h.fit;have t:=h.ok;have a4:=Avy (P:=P) t.feat C t.l1 Q Z.cnt hp.par;have aa:=Abm (P:=P) t.feat C t.l1 Q Z.cnt hp.par;have E:=m.sq;have j:∀ r∈X,r.length=P.length+1:=fun r hr=>by rw[E.row r hr,m.n]
 obtain⟨L,I⟩:=I;have a9:∀ e,PH.le u e->zF 100 [stV pa P.length pc xa xc ra rc s c q a1 T.length c1 a2 R.length c2 a3 F.length c3 (l:Int)] e fun r _=>r=zT:=fun e hl=>Xy (hX.mono hl) m.n j oV;have a8:∀ e,PH.le u e->zF 101 [stV pa P.length pc xa xc ra rc s c q a1 T.length c1 a2 R.length c2 a3 F.length c3 (l:Int)] e fun r _=>r=zT:=fun e hl=>Uw (hX.mono hl) (Ac.mono hR hl) m.n j m.bn E.tx m.bt m.st m.ct hp.pen.tx oV;refine Fn0.o func68<|G.c call89 a6 ?_;rintro v1 u1 H rfl;refine G.nF 0 0<|G.eF' w 0 ab<|G.lF w (-1000000000000)<|G.gF w 1000000000000<|G.c call90 (a0 u1 H) ?_;rintro v2 u2 l2 rfl;rw[Z.cnt];refine G.lF l 0 ?_;have U:=H.trans l2;refine G.c call140 (a5 u2 U) ?_;rintro v3 u3 l3 ⟨lv,rfl,hS⟩;have V:=U.trans l3;have J:Cj u3 lv ((Ko P (cfT F (l:Int) ss).s).map Ae):=by rw[<-a4];exact hS
 obtain⟨la,lc,rfl⟩:=Ac.opn J;refine G.nF 0 0<|G.c call100 (a9 u3 V) ?_;rintro v4 u4 l4 rfl;have W:=V.trans l4;refine G.c call101 (a8 u4 W) ?_;rintro v5 u5 l5 rfl;have Y:=W.trans l5;refine G.gF (P.length+1:Nat) 12<|G.c call119 (Aie (N:=6) (K:=86) (ht.mono Y) (hX.mono Y) E.tx (by have:=m.n;omega) (fun r hr=>by rw[j r hr];omega) oV oV oV I.den I.pos I.nl I.dig) ?_;rintro v6 u6 l6 rfl;refine G.c call141 (T0 (Ac.mono J ((l4.trans l5).trans l6)) (fun x hx=>(aa x hx).tx) (by rw[Ad6];omega)) ?_;intro v7 u7 l7 k7;obtain⟨a7,c7,rfl⟩:=k7.lp.opn;exact G.r (.tuple #[.slice a7 (Ko P (cfT F (l:Int) ss).s).length c7,zT,zO]) ⟨rfl,_,rfl,k7⟩
def Ail {n:Nat}(h:Mv u (.agg #[.slice a1 T.length c1,.slice a2 R.length c2,.slice a3 F.length c3,zI l]) tv T R F (l:Int) ss)(C:G4 F (l:Int) ss=false)(m:w≠0)(E:-1000000000000<=w)(H:w<=1000000000000) :
 zF 68 [stV pa n pc xa xc ra rc s c q a1 T.length c1 a2 R.length c2 a3 F.length c3 (l:Int),tv,zI w] u fun r _=>r=.tuple #[zN,zL,zO]:=by
 have j:=Lm h;have e:=fun (I:PH) (t:PH.le u I)=>Yv (h.mono t);refine Fn0.o func68<|G.c call89 j ?_;rintro L J t rfl;refine G.nF 0 0<|G.eF' w 0 m<|G.lF w (-1000000000000)<|G.gF w 1000000000000<|G.c call90 (e J t) ?_;rintro Q K l2 rfl;rw[C];exact G.z (.tuple #[zN,zL,zO])
end
end
end Go.Proofs.YtemmheaocgmebaaGreatDoor
