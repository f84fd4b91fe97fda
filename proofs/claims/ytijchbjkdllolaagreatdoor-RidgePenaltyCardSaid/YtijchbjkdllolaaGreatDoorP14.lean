/- Parts of one proof, joined by a program. -/
import Derived.Test.YtijchbjkdllolaaGreatDoorP13
set_option linter.defProp false
set_option linter.unusedVariables false
set_option linter.unusedSimpArgs false
set_option linter.unusedSectionVars false
set_option maxHeartbeats 16000000
namespace Go.Proofs.YtijchbjkdllolaaGreatDoor
open Go.Proofs.Tryz
open Go.RowKit Go.MapKept
section
variable {b:Option Par->Rat}
section
variable {u:PH} {v cv mv:Value} {T:List (List UInt8×Nat)} {R:List Bu} {F:List Am} {lab:Int} {C:CF} {K k:Nat} {q:Rat} {P:List Par} {m0:Rat} {M:List (Par×Rat)}
def Aam (n:Iy F C P)(t:CFV C):∀ p∈P,Yy F p:=fun p hp=>by
 rcases (n.2 p).1 hp with ⟨i,f,rfl,g,_⟩|⟨h,i,f,j,g,m⟩
 ·exact⟨i,f,rfl,g,.inl rfl⟩
 refine⟨i,f,j,g,?_⟩;rcases (t.s p h).cat with e|e
 ·exact .inl e
 exact .inr ⟨m,e⟩
def Pm.cells (h:Pm C k)(j:∀ e,Sz (b e) 1000):QOK b C:=by
 have g:∀ p,Sz (C.s p) 1000:=fun p=>((h.s p).szn oV oV oV oV).mono oV;have t1:∀ p,Sz (C.t p) 1000:=fun p=>((h.t p).szn oV oV oV oV).mono oV;refine⟨j,fun e f=>?_,fun e=>?_,t1 _⟩
 ·cases e<;>cases f
  ·exact h.csz
  ·exact g _
  ·exact g _
  exact t1 _
 cases e
 ·exact g _
 exact t1 _
def Pm.qok (h:Pm C k)(g:H7 P m0 M):QOK (cfE m0 M) C:=h.cells fun e=>(Aqm g e).sz.mono oV
def Awb (F:List Am)(C:CF)(k:Nat)(P:List Par)(b:Option Par->Rat)(r:Value)(u:PH):Prop :=
 (∃ e:Int,r=.tuple #[.agg #[.slice none 0 0,.slice none 0 0],.int .i64 e]/\(e=12/\k=0\/e=3/\k≠0/\11<P.length)) \/
 (k≠0/\P.length<=11/\∃ lv,r=.tuple #[lv,.int .i64 0]/\Aah u lv P b)
def Aey (h:Ko u v cv T R F lab C K k)(W:Aem q)(g:Iy F C P)(j:M5 u mv m0 M)(V:H7 P m0 M) :
 Fn0 prog 50 [v,cv,mv,.string (mkS (Ae q))] u fun r u'=>Awb F C k P (cfE m0 M) r u':=by
 have O:=(Zd h W).giveAll;have a0:=h.p24 P g;have E:=Aam g h.vC;have hX:=h.sch;have ok:=h.ok;obtain⟨xa,xc,xb,xd,xe,xf,rfl,_⟩:=id h.sch;obtain⟨a1,n1,c1,a2,n2,c2,rfl⟩:=id h.cof.opn;obtain⟨na,nc,rfl,_⟩:=id j.val;refine Fn0.o func50<|G.c call81 O ?_;rintro v1 u1 H ⟨u0,m0',U,a6,P',pa,pc,ya,yc,ra,rc,a4,n,rfl,hL,X,a3⟩;obtain rfl:=g.eq n;have m:=hL.mono U;by_cases h0:k=0
 ·rw[if_pos h0];exact G.nT 12 0<|G.r (.tuple #[.agg #[.slice none 0 0,.slice none 0 0],.int .i64 12]) ⟨rfl,.inl ⟨12,rfl,.inl ⟨rfl,h0⟩⟩⟩
 rw[if_neg h0];refine G.nF 0 0<|G.c call105 (Aoi m g.1 oV (j.mono H) V) ?_;rintro v4 u4 I ⟨lv,rfl,t⟩;obtain⟨la,lc,rfl⟩:=Ac.opn t;refine G.nF 0 0<|G.c call42 (Sh (hX.mono (H.trans I)) (ok.mono (H.trans I)) (j.mono (H.trans I)) V oV E) ?_;rintro v5 u5 l5 rfl;by_cases a5:P.length+1>12
 ·exact G.gT (P.length+1:Nat) 12<|G.r (.tuple #[.agg #[.slice none 0 0,.slice none 0 0],.int .i64 3]) ⟨rfl,.inl ⟨3,rfl,.inr ⟨rfl,h0,oV⟩⟩⟩
 refine G.gF (P.length+1:Nat) 12<|G.c call106 (Sw (t.mono l5) (fun q W=>?_) (by rw[Ayt,Bk];omega)) ?_
 ·obtain⟨e,_,rfl⟩:=Ayx.1 W;exact Aqm V e
 intro v6 u6 l6 Y;obtain⟨J,N,L⟩:=id Y;obtain⟨Z,fc,rfl⟩:=N.opn;have Q:J.length=P.length+1:=by rw[L.1,Ayt,Bk]
 rw[Q]at Y⊢;exact G.r (.tuple #[.agg #[.slice pa P.length pc,.slice Z (P.length+1) fc],.int .i64 0]) ⟨rfl,.inr ⟨h0,oV,_,rfl,pa,pc,Z,fc,rfl,m.mono ((I.trans l5).trans l6),Y⟩⟩
def Dk (q:Rat)(b:Option Par->Rat)(P:List Par)(C:CF):Rat:=sqC b P C+q*Eu P b
def Qq (q:Rat)(b:Option Par->Rat)(P:List Par)(C:CF)(i:Nat):Rat:=sqC b P C+Ao (fun p=>q*b (some p)*b (some p)) (P.take i)
def Ahv (q:Rat)(b:Option Par->Rat)(P:List Par)(C:CF):Qq q b P C 0=sqC b P C:=by
 show sqC b P C+0=_;grind
def Agn {q:Rat}{P:List Par}{C:CF}{i:Nat}{p:Par}(h:P[i]?=some p):Qq q b P C (i+1)=Qq q b P C i+q*b (some p)*b (some p):=by
 unfold Qq;rw[Da h,Fs];grind
def Alj (q:Rat)(b:Option Par->Rat)(P:List Par)(C:CF):Qq q b P C P.length=Dk q b P C:=by
 unfold Qq Dk Eu;rw[Azj,<-Dp]
 congr 1
 exact A7 fun p _=>by grind
def Aqt (e:QOK b C)(j:P.length<=60)(m:Sz q 1000)(i:Nat):Sz (Qq q b P C i) 40000000:=by
 unfold Qq;have g:=e.sqS j;have h:Sz (Ao (fun p=>q*b (some p)*b (some p)) (P.take i)) (60*(3000+1)+1):=P7 (s:=3000) (Kr fun p _=>(Di (Di m (e.b _)) (e.b _)).mono oV) (by rw[Ay1];omega);exact (Gy g h).mono oV
def Q0 (ht:Js u)(h:Ko u v cv T R F lab C K k)(hq:Aem q)(a3:Iy F C P)(N:M5 u mv m0 M)(hm:H7 P m0 M)(hT:k≠0->P.length<=11->Tx (Dk q (cfE m0 M) P C)) :
 Fn0 prog 14 [v,cv,mv,.string (mkS (Ae q))] u fun r _=>(∃ e:Int,r=.tuple #[.string (mkS []),.int .i64 e]/\(e=12/\k=0\/e=3/\k≠0/\11<P.length))\/(k≠0/\P.length<=11/\r=.tuple #[.string (mkS (Ae (Dk q (cfE m0 M) P C))),.int .i64 0]):=by
 have a5:=Aey h hq a3 N hm;have a4:=fun (u':PH) (l:PH.le u u')=>Axm (h.cof.mono l) h.sC (by have:=h.K;omega);have g:=h.mom.qok hm;obtain⟨xa,xc,xb,xd,xe,xf,rfl,_⟩:=id h.sch;obtain⟨a1,n1,c1,a2,n2,c2,rfl⟩:=id h.cof.opn;obtain⟨na,nc,rfl,_⟩:=id N.val;have E:Sz q 1000:=hq.tx.sz.mono oV;generalize cfE m0 M=b at *
 refine Fn0.o func14<|G.c call50 a5 ?_;rintro v1 u1 l1 (⟨e,rfl,he⟩|⟨hk,hP11,lv,rfl,hlv⟩)
 ·refine G.nT' e 0 (by rcases he with ⟨h,_⟩|⟨h,_⟩<;>omega) ?_
  exact G.r (.tuple #[.string (mkS []),.int .i64 e]) ⟨rfl,.inl ⟨e,rfl,he⟩⟩
 have hT:=hT hk hP11;obtain⟨pa,pc,fa,fc,rfl,ae,es,Z,hF⟩:=id hlv.val;have af:es.length=P.length+1:=by rw[hF.1,Ayt,Bk]
 refine G.nF 0 0<|G.c call52 (a4 u1 l1) ?_;intro v2 u2 l2 k2;obtain⟨b0,a0,n0,c0,ac,ab,ag,ad,g1,g2,rfl⟩:=Adp k2;refine G.c call51 (sq0 (hlv.mono l2) k2 oV g) ?_;intro v3 u3 l3 k3;obtain⟨f3,rfl⟩:=k3.opF;have I:P.length+1<=fc:=by
  obtain⟨_,_,h1,h2,_⟩:=Z;simp only[Value.slice.injEq]at h1;obtain⟨_,h3,rfl⟩:=h1;omega
 obtain⟨t,m,rfl,_⟩:=Ac.at' Z (j:=0) (e:=es[0]'oV) (Ayr oV);refine G.sliceFromG (some ⟨t,m,none⟩) (P.length+1) fc 1 4 kV oV I ?_;obtain⟨X,a8,a7⟩:∃ X:Option Addr,(if fc=1 then some (⟨t,m,none⟩:Addr) else (some (⟨t,m,none⟩:Addr)).map (·.add (1*4)))=X/\(P.length≠0->X=some ⟨t,m+1*4,none⟩):=by
  refine⟨_,rfl,fun hn=>?_⟩;rw[if_neg oV];rfl
 rw[a8,show P.length+1-1=P.length from rfl];refine G.l (ι:=Nat×F4) (fun i=>[(3,tV (Ae q)),(12,.p 4004 0),(32,sV X P.length (fc-1)),(33,iV P.length),(34,iV i.1)])
  (fun i=>[(4004,⟨118,Go.Proofs.YtijchbjkdllolaaGreatDoor.fc i.2⟩)])
  (fun i u' m'=>i.1<=P.length/\Ax u' (fv i.2) (Qq q b P C i.1)/\m'=PH.mt) (fun i=>P.length-i.1) (0,f3)
  ⟨Azh _,by rw[Ahv];exact k3,rfl⟩ ?_
 rintro J ⟨i,f⟩ hJ u4 m4 W ⟨hi,V,rfl⟩;simp only at hi V hJ;have aa:=((l1.trans l2).trans l3).trans W;have a6:=Aqt (P:=P) g oV E i;by_cases L:i<P.length
 ·refine G.lT i P.length ?_;obtain⟨p,O⟩:∃ p,P[i]?=some p:=⟨_,Ayr L⟩;have H:=Agn (q:=q) (b:=b) (C:=C) O;obtain rfl:=a7 oV;obtain⟨x,hx,n⟩:=hF.2 (i+1) (b (some p)) (by unfold Ah;rw[Azu,A2k,A6z,Ayy,O];rfl);obtain⟨_,_,e0,ef⟩:=Ac.at' (Z.mono ((l2.trans l3).trans W)) (j:=i+1) (e:=x) hx;cases e0;have n:=n.mono ((l2.trans l3).trans W);obtain⟨fx,rfl⟩:=n.opF;refine G.a t (m+1*4) P.length (fc-1) i 4 L ?_;have Y:ElP u4 t (m+1*4+i*4) (fv fx):=by rw[show m+1*4+i*4=m+(i+1)*4 by omega];exact ef
  refine G.lU (some 4) t (m+1*4+i*4) (fv fx) Y<|G.c call54 (Dr hq.tx) ?_;intro v5 u5 U k5;obtain⟨f5,rfl⟩:=k5.opF;refine G.c call55 (Ik k5 (n.mono U) (E.mono oV) ((g.b _).mono oV)) ?_;intro v6 u6 l6 k6;obtain⟨f6,rfl⟩:=k6.opF;have Q:=Di E (g.b (some p));refine G.c call55 (Ik k6 (n.mono (U.trans l6)) (Q.mono oV) ((g.b _).mono oV)) ?_;intro v7 u7 l7 k7;obtain⟨f7,rfl⟩:=k7.opF;have a9:=Di Q (g.b (some p));refine G.c call53 (If (V.mono ((U.trans l6).trans l7)) k7 (a6.mono oV) (a9.mono oV)) ?_;intro v8 u8 l8 k8;obtain⟨f8,rfl⟩:=k8.opF;rw[<-H]at k8;exact G.i i<|G.b (hJ (i+1,f8) _ _ _ cV ((((W.trans U).trans l6).trans l7).trans l8) ⟨dV,k8,rfl⟩ dV)
 obtain rfl:i=P.length:=oV;refine G.lF P.length P.length ?_;rw[Alj]at V;refine G.c call56 (O1 (ht.mono aa) V hT) ?_;rintro v5 u5 U rfl;exact G.r (.tuple #[.string (mkS (Ae (Dk q b P C))),.int .i64 0]) ⟨rfl,.inr ⟨hk,hP11,rfl⟩⟩
end
end
section
variable {x:Rat}
def Axt {q:Rat}{z:Int}(h:q*((4320:Nat):Rat)=(z:Rat))(j:z.natAbs<=1000000000000):Th q:=by
 obtain⟨e,g⟩:=Acs h oV;exact⟨De.tx (a:=13) (b:=4) ⟨z,4320,h,oV,oV,oV⟩ oV oV oV oV,e,oV⟩
def At4 {x t:Rat}{N:Nat}(h:Dn 2 N x)(O:N<=28873454400)(H:∃ p:Int,t*30=p/\p.natAbs<=180):Th (x+t):=by
 obtain⟨z,g,I⟩:=h;obtain⟨p,E,J⟩:=H;refine Axt (z:=z*30+p*144) ?_ oV;have e:((12^2:Nat):Rat)=144:=jV
 have j:((4320:Nat):Rat)=4320:=jV
 have m:((30:Int):Rat)=30:=jV
 have n:((144:Int):Rat)=144:=jV
 rw[e]at g;rw[A28,A0v,A0v,<-g,<-E,j,m,n];grind
def Ab4 {N:Nat}(h:Dn 2 N x)(j:N<=28873454400):De 75 18 x:=by
 obtain⟨z,e,g⟩:=h;exact⟨z,144,by rw[<-e],oV,A0r g (A0r j jV),jV⟩
section
variable {P:List Par} {C:CF} {q:Rat} {N k:Nat}
def Ao3 (h:G7 N C)(t:N<=28873454400)(H:∃ p:Int,q*30=p/\p.natAbs<=180):∀ r∈H8 C P q,∀ x∈r,Th x:=by
 intro r I x J;have n:=I0 (P:=P) (C:=C) (q:=q);obtain⟨i,hi,rfl⟩:=A01.1 I;obtain⟨j,E,rfl⟩:=A01.1 J;have g:i<P.length+1:=by have:=n.1;omega
 have m:j<P.length+1:=by have:=n.2 i g;rw[Jx hi]at this;omega
 have e:=Aaf (P:=P) (C:=C) (q:=q) g m;unfold en at e;rw[Jx hi,M3 E]at e;rw[e];refine At4 (h.c _ _) t ?_;split
 ·exact H
 exact⟨0,jV,fV⟩
def Aiu (g:G7 N C)(j:N<=28873454400):∀ x∈Ue C P,Th x:=by
 intro x m;obtain⟨e,_,rfl⟩:=Ayx.1 m;have h:=At4 (t:=0) (g.r e) j ⟨0,jV,fV⟩;rwa[Rat.add_zero]at h
def Ab8 (g:G7 N C)(j:N<=28873454400)(H:CFV C)(n:C.c=(k:Rat))(E:k<100):Pm C k:=by
 refine⟨n,E,fun p=>Ab4 (g.c none (some p)) j,fun p=>?_⟩;by_cases h:C.t p=0
 ·rw[h];exact Ab4 (Dn.zero 2 0) oV
 have m:=(H.t p h).2.2;have e:A2 p.1 p.2=p:=by unfold A2;rw[if_neg m]
 have:=Ab4 (g.c (some p.1) (some p.2)) j;rw[show Ar C (some p.1) (some p.2)=C.t (A2 p.1 p.2) from rfl,e]at this;exact this
def G6.sixty (h:G6 q):∃ p:Int,q*30=p/\p.natAbs<=180:=by
 obtain⟨p,e,g⟩:=h.thirty;exact⟨p,e,oV⟩
def Ym {b b':Option Par->Rat}(h:Fj P C q b)(j:Fj P C q b')(E:0<q)(t:0<C.c)(hp:∀ z,0<=Ba9 z P C):∀ e∈Ah P,b e=b' e:=fun e g=>by
 have:=Vr (P:=P) (C:=C) (z:=fun e=>b e-b' e) E t hp (fun e g=>by
  have H:=h e g;have I:=j e g;have m:Ao (fun f=>Ar C e f*(b f-b' f)) (Ah P)=Ao (fun f=>Ar C e f*b f) (Ah P)-Ao (fun f=>Ar C e f*b' f) (Ah P):=by
   have:Ao (fun f=>Ar C e f*b f) (Ah P)=Ao (fun f=>Ar C e f*(b f-b' f)+Ar C e f*b' f) (Ah P):=A7 fun f _=>by grind
   rw[this,Ea];grind
  have n:Hc q (fun e=>b e-b' e) e=Hc q b e-Hc q b' e:=by
   cases e with
   |none=>show (0:Rat)=0-0;grind
   |some p=>show q*(b (some p)-b' (some p))=q*b (some p)-q*b' (some p);grind
  rw[m,n];grind) e g
 grind
def Y3 (g:P.Nodup){m0 m0':Rat}{m qs':List Rat}(H:m.length=P.length)(n:qs'.length=P.length)(h:∀ e∈Ah P,cfE m0 (P.zip m) e=cfE m0' (P.zip qs') e):m0=m0'/\m=qs':=by
 refine⟨h none (by unfold Ah;simp),A6h oV fun j t E=>?_⟩;have e:=h _ (Uk (P:=P) (i:=j+1) oV);rw[Sc g H _ oV,Sc g n _ oV]at e;rw[show gR (m0::m) (j+1)=gR m j from rfl,show gR (m0'::qs') (j+1)=gR qs' j from rfl,M3 t,M3 E]at e;exact e
end
section
variable {u:PH} {v cv:Value} {T:List (List UInt8×Nat)} {R:List Bu} {F:List Am} {lab:Int} {L:List Fx} {q:Rat} {K:Nat}
def Nv (H:G8 u v T R F lab)(ok:Bt u T R F lab)(m:T.length<=8)(hT:∀ y∈L,Cd T y.1/\y.2.1<=7)(j:L.length<=12)(U:F.length<=5)(e:0<=lab)(n:Nu u cv (Ce F lab L) K)(t:K<=10000):∃ k,Ko u v cv T R F lab (Ce F lab L) K k:=by
 obtain⟨k,I,J⟩:=Afz ok.feat ok.l1 (Ev ok) hT;obtain⟨Q,h⟩:=R7 ok m hT oV;have g:=I7 ok ok.l1 (Ev ok) hT;exact⟨k,H,ok,n,Q,h,t,Are,Ab8 g oV h I oV,fun P E=>by
  have:=Asn ok.feat (fun y O=>(hT y O).1) E;omega,e⟩
def Af6 {C:CF}{k:Nat}(h:Pm C k)(e:0<C.c):1<=C.c:=by
 rw[h.c]at e⊢;have g:((0:Nat):Rat)<(k:Rat):=e;have j:0<k:=Rat.natCast_lt_natCast.1 g;have:((1:Nat):Rat)<=(k:Rat):=A2r.2 j;simpa using this
def Agu (ok:Bt u T R F lab)(n:T.length<=8)(hT:∀ y∈L,Cd T y.1/\y.2.1<=7)(Q:L.length<=6)(m:G6 q):Ao6 F (Ce F lab L) q:=by
 obtain⟨k,H,I⟩:=Afz ok.feat ok.l1 (Ev ok) hT;obtain⟨U,O⟩:=R7 ok n hT oV;have e:=I7 ok ok.l1 (Ev ok) hT;have J:=Ab8 e oV O H oV;have g:=fun P z=>L6 ok.feat ok.l1 (Ev ok) z P fun y j=>(hT y j).1;refine⟨fun P _=>Ao3 e oV m.sixty,fun P _=>Aiu e oV,g,fun P t h E=>Avl (t.1.nodup Dl) e oV m h (Af6 J E) (g P) fun z=>Af9 ok.feat ok.l1 (Ev ok) z P fun y j=>(hT y j).1⟩
end
end
def K0 {u:PH}{v:Value}{T:List (List UInt8×Nat)}{R:List Bu}{F:List Am}{lab:Int}{a:Option Addr}{c:Nat}{L:List Fx}(X:G8 u v T R F lab)(ok:Bt u T R F lab)(H:T.length<=8)(hL:Ac u (.slice a L.length c) 2 (L.map F3))(hW:WOK u T L)(hl:L.length<=12) :
 Fn0 prog 28 [v,.slice a L.length c] u fun r N=>Au7 N r (Ce F lab L) (255*L.length):=by
 have Y:=fun (N:PH) (l:PH.le u N)=>R9 (X.mono l) (ok.mono l);obtain⟨xa,xc,xb,xd,xe,xf,rfl,ah,ag,af⟩:=id X;have ai:=Auh H;have I:∀ n,∀ y∈L.take n,Cd T y.1/\y.2.1<=7:=fun n y hy=>by
  obtain⟨_,q1,_,q2⟩:=hW y (A0o hy);exact⟨q1,q2⟩
 have g:∀ n,CFS (Ce F lab (L.take n)):=fun n=>(R7 ok H (I n) (by rw[Ay1];omega)).1;refine Fn0.o func28<|G.c call45 (Y u (PH.le_refl _)) ?_;rintro v1 u1 l1 rfl;refine G.nF 0 0<|G.gF L.length 2000<|G.callO _ _ kV call71 (I5 (n:=0) oV oV) ?_;intro v2 u2 m2 l2 k2 _;rw[Bw];have n0:(⟨((0:Int):Rat),fun _=>0,fun _=>0⟩:CF)=CF.num 0:=by rw[show ((0:Int):Rat)=0 by decide +kernel];rfl
 rw[n0]at k2;obtain⟨b,a2,n,c2,b',a',n',c',g1,g2,rfl⟩:=Oa k2;refine G.l (ι:=Nat×(Bool×SlI)×(Bool×SlI)×Nat×Nat) (fun i=>[(2,.p 0 0),(4,.p 1 0),(7,.p 6001 0),(22,sV a L.length c),(23,iV L.length),(24,iV i.1)])
  (fun i=>[(0,⟨30,[sV xa T.length xc,sV xb R.length xd,sV xe F.length xf,iV lab]⟩),(1,⟨36,[tV [],sV none 0 0,sV none 0 0]⟩),(6001,⟨145,[bV i.2.1.1,sV i.2.1.2.1 i.2.1.2.2.1 i.2.1.2.2.2,bV i.2.2.1.1,sV i.2.2.1.2.1 i.2.2.1.2.2.1 i.2.2.1.2.2.2,.v (.map (some i.2.2.2.1)),.v (.map (some i.2.2.2.2))]⟩)])
  (fun i N m'=>i.1<=L.length/\J8 m' N (.agg #[.bool i.2.1.1,.slice i.2.1.2.1 i.2.1.2.2.1 i.2.1.2.2.2,.bool i.2.2.1.1,.slice i.2.2.1.2.1 i.2.2.1.2.2.1 i.2.2.1.2.2.2,.map (some i.2.2.2.1),.map (some i.2.2.2.2)]) (Ce F lab (L.take i.1)) (255*i.1))
  (fun i=>L.length-i.1) (0,(b,a2,n,c2),(b',a',n',c'),g1,g2) ⟨oV,k2⟩ ?_
 rintro J ⟨i,⟨b,a2,n,c2⟩,⟨b',a',n',c'⟩,g1,g2⟩ hJ u3 m3 l3 ⟨hi,O⟩;simp only at hi O hJ;have C:=(l1.trans l2).trans l3;by_cases K:i<L.length
 ·refine G.lT i L.length ?_;obtain⟨y,m⟩:∃ y,L[i]?=some y:=⟨_,Ayr K⟩;obtain⟨hS,hT,a0,t⟩:=hW y (Ay9 m);obtain⟨ba,oa,rfl,ea⟩:=Ac.at' (hL.mono C) (j:=i) (e:=F3 y) (by simp[m]);obtain⟨ss,w,ya,yc⟩:=y;simp only at hS hT a0 t;have Z:L.take (i+1)=L.take i++[(ss,w,ya,yc)]:=by rw[Aze,m];rfl
  have hP:Qa u (.agg #[.slice xa T.length xc,.slice xb R.length xd,.slice xe F.length xf,.int .i64 lab]) (.slice ya ss.length yc) T R F lab ss:=⟨X,ok,hS,hT⟩;have a4:=hT.len;obtain⟨d1,d2⟩:=Ams ok hT;have sK:CFS ((cfT F lab ss).scale (w:Rat)):=(d1.scale (Ami t)).cfs oV oV;have h:Ce F lab (L.take (i+1))=(Ce F lab (L.take i)).add ((cfT F lab ss).scale (w:Rat)):=by rw[Z,Er]
  refine G.a ba oa L.length c i 2 K<|G.lU (some 2) ba (oa+i*2) (.agg #[.slice ya ss.length yc,.int .i64 w]) ea<|G.c call58 (Zk (hP.mono C)) ?_;rintro v4 u4 l4 rfl;refine G.nF 0 0<|G.lF w (-1000000000000)<|G.gF w 1000000000000<|G.c call73 (Aqw (hP.mono (C.trans l4)) oV) ?_;rintro v5 u5 l5 ⟨k5,sF⟩;obtain⟨b5,a5,n5,c5,aa,a8,aj,ab,ad,ae,rfl⟩:=Q8 k5;refine G.c call15 (Sp (z:=(w:Int)) oV oV) ?_;intro v6 u6 l6 k6;rw[Az2]at k6;obtain⟨b6,a6,n6,c6,a9,ak,ac,rfl,_⟩:=k6.opn;have a1:SB (w:Rat):=(Ami t).small oV oV;refine G.callA _ _ kV kV call72 (Bw m3).symm (Jv m3)
   (Ana (((O.grow l4).grow l5).grow l6) (k5.mono l6) k6 a1 (g i) sF sK (by rw[<-h];exact g (i+1))) ?_
  intro v7 u7 m7 l7 E _;rw[<-h]at E;rw[Bw];obtain⟨b7,a7,n7,c7,Q,P,a3,U,V,W,rfl⟩:=Oa E;exact G.i i<|G.b (hJ (i+1,(b7,a7,n7,c7),(Q,P,a3,U),V,W) _ _ _ cV ((((l3.trans l4).trans l5).trans l6).trans l7) ⟨dV,E.congr rfl dV⟩ dV)
 obtain rfl:i=L.length:=oV;refine G.lF L.length L.length ?_;have hc:=g L.length;rw[Azj]at O hc;refine G.callK _ _ kV call74 (Amf O.i hc oV) ?_;rintro v7 u7 l7 ⟨r,rfl,E⟩;obtain⟨e1,f1,h1,e2,f2,h2,rfl⟩:=E.opn;exact G.drop PH.mt kV (PH.mt_le _)<|G.r (.tuple #[.agg #[.string (mkS (Ae (Ce F lab L).c)),.slice e1 f1 h1,.slice e2 f2 h2],.int .i64 0]) ⟨rfl,_,rfl,E⟩
section
variable {u:PH}
def Ys {v g:Value}{m0:Rat}{M:List (Par×Rat)}(h:M5 u v m0 M)(j:M5 u g m0 M)(n:M.length<=1000000) :
 Fn0 prog 30 [v,g] u fun r _=>r=.bool true:=by
 obtain⟨a,c,rfl,m⟩:=h.val;obtain⟨t,C,rfl,e⟩:=j.val;refine Fn0.o func30<|G.q (Ae m0) (Ae m0) rfl<|G.c call29 (Ak7 m e n) ?_;rintro H F E rfl;exact G.r (.bool true) ⟨rfl,rfl⟩
structure As4 (u:PH)(T:List (List UInt8×Nat))(R:List Bu)(F:List Am)(lab:Int)(L:List Fx)(xv lv cv:Value):Prop where
 sch:G8 u xv T R F lab
 ok:Bt u T R F lab
 t8:T.length<=8
 lab0:0<=lab
 f5:F.length<=5
 rows:Ac u lv 2 (L.map F3)
 wok:WOK u T L
 w9:W9 T L
 l6:L.length<=6
 cof:Nu u cv (Ce F lab L) (255*L.length)
def Ab2 {s:Src}{ts:List Int}{k:Nat}(h:Ig u s ts)(hk:k<=s.n) :
 Ag prog 10 [s.ptr] u (s.M k) fun r u' m'=>∃ (T:List (List UInt8×Nat)) (R:List Bu) (F:List Am) (lab:Int) (L:List Fx) (U Q K:Value) (O:Nat),r=.tuple #[U,Q,K]/\As4 u' T R F lab L U Q K/\O<=s.n/\m'=s.M O:=by
 refine Ag.o func10<|G.A call43 (Aa6 5 oV oV h hk) ?_;rintro v1 u1 m1 l1 ⟨T,R,F,lab,k1,t,ok,e,g,a0,H,rfl,C⟩ _;rw[Bw];obtain⟨xa,xc,xb,xd,xe,xf,rfl,a3,a2,a1⟩:=id t;refine G.A call44 (Agp (most:=6) (h.mono l1) H t ok oV) ?_;rintro v2 u2 m2 l2 ⟨L,k2,m,E,N,Z,I,rfl⟩ _;rw[Bw];obtain⟨la,lc,rfl⟩:=m.opn;rw[Ayt]at m⊢;refine G.c call28 (K0 (t.mono l2) (ok.mono l2) e m N oV) ?_;rintro v3 u3 J ⟨x3,rfl,P⟩;obtain⟨V,X,g1,W,Y,g2,rfl⟩:=P.opn;have j:=l2.trans J;exact G.r (.tuple #[.agg #[.slice xa T.length xc,.slice xb R.length xd,.slice xe F.length xf,.int .i64 lab],.slice la L.length lc,.agg #[.string (mkS (Ae (Ce F lab L).c)),.slice V X g1,.slice W Y g2]])
  ⟨T,R,F,lab,L,_,_,_,k2,rfl,⟨t.mono j,ok.mono j,e,g,C,m.mono J,N.mono J,Z,E,P⟩,I,rfl⟩
def S3:List (List UInt8×Nat):=[([120],2),([121],2)]
def T7 (g:Nat):List Bu:=[([114],[0,1],(some ⟨g,0,none⟩,2))]
def Lo:List Am:=[(0,1,0)]
def Axe {g:Nat}(h:Ac u (.slice (some ⟨g,0,none⟩) 2 2) 1 (Ai [0,1])):Bt u S3 (T7 g) Lo 1 where
 att:=⟨Q1 jV,fun a j=>by simp[S3]at j;rcases j with rfl|rfl<;>decide⟩
 rel:=⟨Q1 (by show (([[114]]:List (List UInt8)).all Ha&&decide ([[114]]:List (List UInt8)).Nodup)=true;decide +kernel),fun r e=>by simp[T7]at e;subst e;simp,fun r e a j=>by simp[T7]at e;subst e;simp at j;show a<2;omega,fun r e=>by simp[T7]at e;subst e;simp,fun r e k x y n m=>by
  simp[T7]at e;subst e
  match k,n,m with
  |0,n,m=>simp at n m;omega
  |k+1,n,m=>simp at m,fun a j=>⟨_,Azs.2 rfl,by
  have:a<2:=j;simp;omega⟩,fun r e=>by simp[T7]at e;subst e;exact h⟩
 feat:=⟨fun f t=>by
  simp[Lo]at t;subst t;exact⟨[120],2,rfl,.inl ⟨rfl,rfl,fV⟩,fV⟩,fV⟩
 t1:=fV
 t2:=fV
 r1:=by show 0<1;omega
 r2:=by show 1<=6;omega
 f2:=fV
 l1:=fV
 l2:=fun l C=>by
  have:l=1:=oV
  subst this;exact⟨[121],rfl⟩
def Tc :Fn0 prog 41 [] u fun r m=>∃ g,G8 m r S3 (T7 g) Lo 1/\Bt m S3 (T7 g) Lo 1:=by
 refine Fn0.o func41<|G.buildU 162 2 24 (.agg #[.string (mkS []),.int .i64 0]) [.agg #[.string (mkS [120]),.int .i64 (2:Nat)],.agg #[.string (mkS [121]),.int .i64 (2:Nat)]] kV (fun x e=>by
  simp only[Ay7,A0b,or_false]at e;rcases e with rfl|rfl<;>exact⟨rfl,Azg.1 rfl⟩) rfl oV mV mV ?_
 intro g1 J I n;refine G.B 3 1 8 (.int .i64 0) [.int .i64 (0:Nat),.int .i64 (1:Nat)] (A8 [0,1]) ?_;intro g2 K l2 t;refine G.buildU 164 2 40 (.agg #[.string (mkS []),.slice none 0 0]) [.agg #[.string (mkS [114]),.slice (some ⟨g2,0,none⟩) 2 2]] kV (fun x e=>by
  simp only[Ay7,A0b,or_false]at e;subst e;exact⟨rfl,Azg.1 rfl⟩) rfl oV mV mV ?_
 intro F L j C;refine G.buildU 105 3 24 (.agg #[.int .i64 0,.int .i64 0,.int .i64 0]) [.agg #[.int .i64 (0:Nat),.int .i64 (1:Nat),.int .i64 (0:Nat)]] kV (fun x e=>by
  simp only[Ay7,A0b,or_false]at e;subst e;exact⟨rfl,Azg.1 rfl⟩) rfl oV mV mV ?_
 intro H N h E;exact G.r (.agg #[.slice (some ⟨g1,0,none⟩) 2 2,.slice (some ⟨F,0,none⟩) 1 1,.slice (some ⟨H,0,none⟩) 1 1,.int .i64 1])
  ⟨rfl,g2,⟨_,_,_,_,_,_,rfl,n.listP.mono ((l2.trans j).trans h),C.listP.mono h,E.listP⟩,Axe (t.listP.mono (j.trans h))⟩
end
def Pv (g:Nat):List Fx:=[([[49],[50]],1,(some ⟨g,0,none⟩,2))]
def Ye:List Par:=[((0:Int),[])]
def Avr:SmW (Fa [50])/\Fa [50]=2:=by
 have e:Fa [50]=2:=(congrArg Fa (by decide +kernel : [50]=Ae 2)).trans (Alq Uq);exact⟨by rw[e];exact Uq,e⟩
def Ahi:Cd S3 [[49],[50]]:=⟨rfl,fun i x t e g=>by
 match i,e,g with
 |0,e,g=>cases e;cases g;exact .inr (.inr (.inr ⟨rfl,1,Kf,jV⟩))
 |1,e,g=>cases e;cases g;exact .inr (.inr (.inr ⟨rfl,2,Uq,jV⟩))
 |i+2,e,g=>simp[S3]at e⟩
def Ast:Cd S3 [[55],[]]:=⟨rfl,fun i x t e g=>by
 match i,e,g with
 |0,e,g=>cases e;cases g;exact .inr (.inr (.inr ⟨rfl,7,⟨jV,jV⟩,jV⟩))
 |1,e,g=>cases e;cases g;exact .inl rfl
 |i+2,e,g=>simp[S3]at e⟩
def Aal:C5 S3 Lo 1:=⟨fun f e=>by
 simp[Lo]at e;subst e;exact⟨[120],2,rfl,.inl ⟨rfl,rfl,fV⟩,fV⟩,fV⟩
def Au9:Yk (cfT Lo 1 [[49],[50]])/\(cfT Lo 1 [[49],[50]]).s B7=2:=by
 have g:∀ l:Nat,(1:Int)=(l:Int)->l<([[49],[50]]:List (List UInt8)).length:=fun l g=>by
  have:l=1:=oV;subst this;decide
 have e:Mo Lo 1 [[49],[50]]=true:=jV;refine⟨?_,?_⟩
 ·rcases Lr Aal Ahi oV g with ⟨_,h⟩|⟨h,_⟩
  ·exact h
  rw[h]at e;cases e
 rw[Xn Aal Ahi oV g e (a:=1) (p:=B7) (q:=Fa [50]) (by
  rw[F1 (w:=[50]) rfl];unfold Gd Pw;rw[if_pos (show ((1:Nat):Int)=1 from rfl),if_neg fV];rfl),Avr.2]
def Av5 (g:Nat):Ce Lo 1 (Pv g)=(CF.num 0).add ((cfT Lo 1 [[49],[50]]).scale ((1:Nat):Rat)):=rfl
def Vp (C:CF):Iy Lo C Ye:=⟨A4i _ _,fun p=>by
 constructor
 ·intro h;have:p=(0,[]):=by simpa[Ye] using h
  subst this;exact .inl ⟨0,(0,1,0),rfl,rfl,rfl⟩
 rintro (⟨i,f,rfl,hf,_⟩|⟨_,i,f,_,hf,h2⟩)
 ·have:i<1:=(Ayu.1 hf).1;have:i=0:=oV;subst this;exact Azs.2 rfl
 have:i<1:=(Ayu.1 hf).1;have:i=0:=oV;subst this;cases hf;simp at h2⟩
def Agg (e:Option Par):cfE 2 [(((0:Int),[]),0)] e=match e with|none=>2|some _=>0:=by
 cases e with
 |none=>rfl
 |some p =>
  show Ap p [(((0:Int),[]),0)]=0;unfold Ap;split
  ·rfl
  rfl
def Aor (g:Nat):(Ce Lo 1 (Pv g)).c=1/\Fj Ye (Ce Lo 1 (Pv g)) 1 (cfE 2 [(((0:Int),[]),0)])/\Dk 1 (cfE 2 [(((0:Int),[]),0)]) Ye (Ce Lo 1 (Pv g))=0:=by
 obtain⟨h,j⟩:=Au9;rw[Av5];generalize cfT Lo 1 [[49],[50]]=H at h j;have m:((1:Nat):Rat)=1:=rfl;refine⟨?_,?_,?_⟩
 ·show 0+H.c*((1:Nat):Rat)=1;rw[h.c];decide +kernel
 ·intro e C;show Ar ((CF.num 0).add (H.scale ((1:Nat):Rat))) e none*cfE 2 [(((0:Int),[]),0)] none+(Ar ((CF.num 0).add (H.scale ((1:Nat):Rat))) e (some (0,[]))*cfE 2 [(((0:Int),[]),0)] (some (0,[]))+0)+Hc 1 (cfE 2 [(((0:Int),[]),0)]) e=Au ((CF.num 0).add (H.scale ((1:Nat):Rat))) e;have hp:Hc 1 (cfE 2 [(((0:Int),[]),0)]) e=0:=by
   cases e with
   |none=>rfl
   |some p=>show 1*cfE 2 [(((0:Int),[]),0)] (some p)=0;rw[Agg];show (1:Rat)*0=0;decide +kernel
  have n:Au (CF.num 0) e=0:=by cases e<;>rfl
  rw[hp,Agg,Agg,O3,O3,Pk,Ad6.cell,Ad6.cell,n,h.cell,h.cell,h.right,j,m];show (0+Ace H.s e*1*1)*2+((0+Ace H.s e*H.s (0,[])*1)*0+0)+0=0+2*Ace H.s e*1;grind
 unfold Dk;rw[Aa5,Ad6.sq,h.sq,j,m];have t:Eu Ye (cfE 2 [(((0:Int),[]),0)])=0:=by
  show cfE 2 [(((0:Int),[]),0)] (some (0,[]))*cfE 2 [(((0:Int),[]),0)] (some (0,[]))+0=0;rw[Agg];show (0:Rat)*0+0=0;decide +kernel
 have u:T3 (cfE 2 [(((0:Int),[]),0)]) Ye H.s=2:=by
  show cfE 2 [(((0:Int),[]),0)] none+(cfE 2 [(((0:Int),[]),0)] (some (0,[]))*H.s (0,[])+0)=2;rw[Agg,Agg];show 2+(0*H.s (0,[])+0)=2;grind
 rw[t,u];decide +kernel
def Ai8 (V:List (Par×Rat)):Lt 2 [(((0:Int),[]),0)] V=2:=by
 unfold Lt;rw[Ca fun t _=>by
  have:=Agg (some t.1);rw[show cfE 2 [(((0:Int),[]),0)] (some t.1)=Ap t.1 [(((0:Int),[]),0)] from rfl]at this;rw[this];show t.2*0=0;grind]
 decide +kernel
def Abw:G6 1:=⟨jV,⟨30,jV,fV⟩,Kf.tx⟩
def Jw {u:PH}(ht:Js u):Fn0 prog 8 [] u fun r _=>r=.bool true:=by
 refine Fn0.o func8<|G.c call41 Tc ?_;rintro v1 u1 l1 ⟨g1,I,n⟩;obtain⟨xa,xc,xb,xd,xe,xf,rfl,_⟩:=id I;refine G.B 9 1 16 (.string (mkS [])) [.string (mkS [49]),.string (mkS [50])] (Hk [[49],[50]]) ?_;intro g2 u2 l2 e2;refine G.buildU 56 2 32 (.agg #[.slice none 0 0,.int .i64 0]) [.agg #[.slice (some ⟨g2,0,none⟩) 2 2,.int .i64 1]] kV (fun x hx=>by
  simp only[Ay7,A0b,or_false]at hx;subst hx;exact⟨rfl,Azg.1 rfl⟩) rfl oV mV mV ?_
 intro g3 u3 l3 e3;have Q:Ac u3 (.slice (some ⟨g3,0,none⟩) (Pv g2).length 1) 2 ((Pv g2).map F3):=e3.listP;have hW:WOK u3 S3 (Pv g2):=fun y hy=>by
  have:y=([[49],[50]],1,(some ⟨g2,0,none⟩,2)):=by simpa[Pv] using hy
  subst this;exact⟨e2.listP.mono l3,Ahi,Ay2 1,by show 1<=7;omega⟩
 refine G.c call28 (K0 (I.mono (l2.trans l3)) (n.mono (l2.trans l3)) fV Q hW (by simp[Pv])) ?_;rintro v4 u4 l4 ⟨x,rfl,k4⟩;have m:=(l2.trans l3).trans l4;obtain⟨k,g⟩:=Nv (I.mono m) (n.mono m) fV hW.tup (by simp[Pv]) fV oV k4 (by simp[Pv]);have a5:=Agu (R:=T7 g1) (n.mono m) fV hW.tup (by simp[Pv]) Abw;have F:=fun P z=>L6 (L:=Pv g2) Aal oV (Ev n) z P fun y hy=>(hW.tup y hy).1;obtain⟨N,Y,O⟩:=Aor g2;have a3:=ht.mono (l1.trans m);generalize Ce Lo 1 (Pv g2)=C at g N Y O k4 a5 F;have h0:k≠0:=by
  rintro rfl;have:=g.mom.c;rw[N]at this;exact absurd this jV
 have a0:∀ {u':PH} {v':Value} {g':Nat},PH.le u4 u'->G8 u' v' S3 (T7 g') Lo 1->Bt u' S3 (T7 g') Lo 1->Ko u' v' x S3 (T7 g') Lo 1 C (255*(Pv g2).length) k:=fun l hX ok=>⟨hX,ok,g.cof.mono l,g.sC,g.vC,g.K,g.bel,g.mom,g.p24,g.lab0⟩;obtain⟨a1,n1,c1,a2,n2,c2,rfl⟩:=k4.opn;refine G.c call41 Tc ?_;rintro v5 u5 l5 ⟨g5,W,ak⟩;obtain⟨ya,yc,yb,yd,ye,yf,rfl,_⟩:=id W;have a6:=Oy (a3.mono l5) (a0 l5 W ak) Abw.w a5;rw[W7]at a6;refine G.c call24 a6 ?_;rintro v6 u6 l6 (⟨e,rfl,⟨_,h⟩|⟨_,_,P,hP,h⟩⟩|⟨_,P,mv,m0,qs,hPL,_,hql,rfl,hmv,hm,hn⟩)
 ·exact absurd h h0
 ·rw[hP.eq (Vp C)]at h;exact absurd h fV
 obtain rfl:=hPL.eq (Vp C);have ae:0<C.c:=by rw[N];decide +kernel
 obtain⟨rfl,rfl⟩:=Y3 (P:=Ye) fV hql (qs':=[0]) (m0':=2) rfl (Ym hn Y Abw.pos ae (F Ye));have a7:Ye.zip [0]=([(((0:Int),[]),0)]:List (Par×Rat)):=rfl;rw[a7]at hmv hm hn;obtain⟨na,nc,rfl,_⟩:=id hmv.val;have a8:=l5.trans l6;have a4:=a3.mono a8;refine G.both [1] 0 2 [3,4,5,6,7,8] kV ?wa ?wb
 case' wa =>
  refine G.c call41 Tc ?_;rintro v7 u7 l7 ⟨g7,ad,al⟩;refine G.B 9 1 16 (.string (mkS [])) [.string (mkS [55]),.string (mkS [])] (Hk [[55],[]]) ?_;intro g8 u8 l8 e8;have J:=ad.mono l8;have ab:=al.mono l8;have V:Ac u8 (.slice (some ⟨g8,0,none⟩) 2 2) 1 (([[55],[]]:List (List UInt8)).map nmV):=e8.listP
 case' wb =>
  refine G.B 9 1 16 (.string (mkS [])) [.string (mkS [55]),.string (mkS [])] (Hk [[55],[]]) ?_;intro g8 u7 l7 e8;refine G.c call41 Tc ?_;rintro v7 u8 l8 ⟨g7,J,ab⟩;have V:Ac u8 (.slice (some ⟨g8,0,none⟩) 2 2) 1 (([[55],[]]:List (List UInt8)).map nmV):=(e8.mono l8).listP
 all_goals
  obtain⟨za,zc,zb,zd,ze,zf,rfl,_⟩:=id J;have T:=l7.trans l8;have Z:=Tu (P:=Ye) (a4.mono T) ⟨J,ab,V,Ast⟩ (hmv.mono T) hm fV (Aam (Vp C) g.vC) (by rw[Ai8];exact Uq.tx);rw[Ai8,Adf]at Z;refine G.c call17 Z ?_;rintro v9 u9 l9 rfl;refine G.c call41 Tc ?_;rintro ax aq ag ⟨an,t,a9⟩;obtain⟨wa,wc,wb,wd,we,wf,rfl,_⟩:=id t;have j:=(T.trans l9).trans ag;have X:=Q0 (a4.mono j) (a0 (a8.trans j) t a9) Abw.w (Vp C) (hmv.mono j) hm (fun _ _=>by rw[O];exact Aa4);rw[O,D8,W7]at X;refine G.c call14 X ?_;rintro ay ar ah (⟨e,rfl,⟨_,h⟩|⟨_,_,h⟩⟩|⟨_,_,rfl⟩)
  ·exact absurd h h0
  ·exact absurd h fV
  refine G.eT' 0 0 rfl<|G.buildU 65 3 40 (.agg #[.int .i64 0,.string (mkS []),.string (mkS [])]) [.agg #[.int .i64 0,.string (mkS []),.string (mkS [48])]] kV (fun x hx=>by
   simp only[Ay7,A0b,or_false]at hx;subst hx;exact⟨rfl,Azg.1 rfl⟩) rfl oV mV mV ?_
  intro U am ai ac;have af:M5 am (.agg #[.string (mkS [50]),.slice (some ⟨U,0,none⟩) 1 1]) 2 [(((0:Int),[]),0)]:=⟨some ⟨U,0,none⟩,1,by rw[Adf];rfl,by
   have:=ac.listP;rwa[show [Value.agg #[.int .i64 0,.string (mkS []),.string (mkS [48])]]=([(((0:Int),[]),0)]:List (Par×Rat)).map As by simp[As,D8]]at this⟩
  have H:=(j.trans ah).trans ai;refine G.c call30 (Ys (hmv.mono H) af mV) ?_;rintro az au aj rfl;refine G.eT' 0 0 rfl<|G.q [50] [50] rfl<|G.eT' 0 0 rfl<|G.q [48] [48] rfl<|G.c call41 Tc ?_;rintro b0 av m ⟨ao,E,aa⟩;obtain⟨ta,tc,tb,td,te,tf,rfl,_⟩:=id E;refine G.c call42 (Sh E aa (hmv.mono ((H.trans aj).trans m)) hm fV (Aam (Vp C) g.vC)) ?_;rintro b1 aw ap rfl;exact G.r (.bool true) ⟨rfl,rfl⟩
section
variable [Cc] [Cm]
section
variable {P:Program} [A5 P] {fn:Func} {Post:By} {st:List KI×S} {u m:PH}
end
end
def Acw:∀ L:List Fx,Ba 2 (L.map F3):=fun L e g=>by
 obtain⟨y,_,rfl⟩:=Ayx.1 g;exact Xx y _ mV
section
section
variable {u:PH} {v cv mv:Value} {T:List (List UInt8×Nat)} {R:List Bu} {F:List Am} {lab:Int} {C:CF} {K k:Nat} {q:Rat} {P:List Par} {m0:Rat} {M:List (Par×Rat)}
end
end
section
variable {u:PH}{v:Value}
def Afr {L:List Par}{p:Par}{k:Nat}(h:Ac u v 2 (L.map Aq))(E:L[k]?=some p)(O:L.Nodup)(Q:L.length<=1000000) :
 Fn0 prog 78 [v,Aq p] u fun r _=>r=.int .i64 k:=by
 obtain⟨a,c,rfl⟩:=h.opn;rw[Ayt]at h⊢;obtain⟨N,t⟩:=Ayu.1 E;refine Fn0.o func78<|G.l (ι:=Nat) (fun i=>[(3,.p 0 0),(7,sV a L.length c),(8,iV L.length),(9,iV i)]) (fun _=>[(0,⟨63,[iV p.1,tV p.2]⟩)])
  (fun i T P=>i<=k/\P=PH.mt) (fun i=>k+1-i) 0 ⟨oV,rfl⟩ ?_
 rintro J i K U R F ⟨hi,rfl⟩;refine G.lT i L.length ?_;have g:L[i]?=some L[i]:=Ayr oV;obtain⟨C,H,rfl,I⟩:=Ac.at' (h.mono F) (j:=i) (e:=Aq L[i]) (by simp[g]);refine G.a C H L.length c i 2 oV<|G.lU (some 2) C (H+i*2) (.agg #[.int .i64 L[i].1,.string (mkS L[i].2)]) I ?_;by_cases n:L[i]=p
 ·have m:i=k:=Ia O (by rw[g,n]) E;exact G.eqAgg 63 #[.int .i64 L[i].1,.string (mkS L[i].2)] #[.int .i64 p.1,.string (mkS p.2)] true kV kV kV (fun w=>by rw[<-decide_eq_true n];exact Bx.eq L[i] p w)<|G.r (.int .i64 i) ⟨rfl,by rw[m]⟩
 have m:i≠k:=fun e=>by subst e;exact n t
 exact G.eqAgg 63 #[.int .i64 L[i].1,.string (mkS L[i].2)] #[.int .i64 p.1,.string (mkS p.2)] false kV kV kV (fun w=>by rw[<-decide_eq_false n];exact Bx.eq L[i] p w)<|G.i i<|G.b (K (i+1) _ _ _ cV F ⟨oV,rfl⟩ oV)
def Afj (s:Value)(i:Nat):s::List.replicate i (Value.string (mkS [48]))++[Value.string (mkS [48])]=s::List.replicate (i+1) (Value.string (mkS [48])):=by
 rw[A11,A6u]
def Zs {pv v:Value}{P:List Par}{m0:Rat}{M:List (Par×Rat)}(hP:Ac u pv 2 (P.map Aq))(hs:Ez Bf P)(hl:P.length<=10000)(h:M5 u v m0 M)(ok:H7 P m0 M) :
 Fn0 prog 32 [pv,v] u fun r W=>∃ lv,r=.tuple #[lv,.int .i64 0]/\Dc W lv (((Ah P).map (cfE m0 M)).map Ae):=by
 have ah:=ok.len;have K:=Aqf hP hs oV;have Y:=hs.nodup Dl;have a8:=ok.srt.nodup Dl;obtain⟨pa,pc,rfl⟩:=hP.opn;obtain⟨a,c,rfl,hM⟩:=h.val;rw[Ayt]at hP K⊢;refine Fn0.o func32<|G.c call77 K ?_;rintro v1 u1 l1 rfl;refine G.c call18 (D1 ok.c) ?_;rintro v2 u2 l2 rfl;have af:=l1.trans l2;refine G.l (ι:=Nat) (fun i=>[(0,sV pa P.length pc),(3,.p 0 0),(20,sV a M.length c),(21,iV M.length),(22,iV i)]) (fun _=>[(0,⟨44,[tV (Ae m0),sV a M.length c]⟩)])
  (fun i W m'=>i<=M.length/\m'=PH.mt) (fun i=>M.length-i) 0 ⟨Azh _,rfl⟩ ?_
 rintro J i hJ u3 m3 l3 ⟨hi,rfl⟩;have a3:=af.trans l3;by_cases C:i<M.length
 ·refine G.lT i M.length ?_;obtain⟨x,m⟩:∃ x,M[i]?=some x:=⟨_,Ayr C⟩;obtain⟨H,Q,rfl,ea⟩:=Ac.at' (hM.mono a3) (j:=i) (e:=As x) (by simp[m]);refine G.a H Q M.length c i 3 C<|G.lU (some 3) H (Q+i*3) (.agg #[.int .i64 x.1.1,.string (mkS x.1.2),.string (mkS (Ae x.2))]) ea<|G.c call18 (D1 (ok.t x (Ay9 m))) ?_;rintro v4 u4 l4 rfl;exact G.i i<|G.b (hJ (i+1) _ _ _ cV (l3.trans l4) ⟨oV,rfl⟩ oV)
 obtain rfl:i=M.length:=oV
 refine G.lF M.length M.length<|G.buildM 32 1 16 (.string (mkS [])) [.string (mkS (Ae m0))] kV (Ci [Ae m0]) rfl oV mV mV ?_;intro g5 m5 X;have T:∀ i,(Value.string (mkS (Ae m0))::List.replicate i (Value.string (mkS [48]))).length=i+1:=fun i=>mV
 refine G.l (ι:=Nat×(Nat×Nat)) (fun i=>[(0,sV pa P.length pc),(3,.p 0 0),(8,sV (some ⟨i.2.1,0,none⟩) (i.1+1) i.2.2),(35,iV P.length),(36,iV i.1)]) (fun _=>[(0,⟨44,[tV (Ae m0),sV a M.length c]⟩)])
  (fun i W m'=>i.1<=P.length/\Af PH.mt m' (.slice (some ⟨i.2.1,0,none⟩) (i.1+1) i.2.2) 32 1 (.string (mkS (Ae m0))::List.replicate i.1 (.string (mkS [48])))) (fun i=>P.length-i.1) (0,g5,1) ⟨Azh _,X⟩ ?_
 clear X hJ;rintro J2 ⟨i,g,V⟩ R u6 m6 l6 ⟨hi,E⟩;simp only at hi E R;have ag:=a3.trans l6;by_cases C:i<P.length
 ·refine G.lT i P.length<|G.B 32 1 16 (.string (mkS [])) [.string (mkS [48])] (Ci [[48]]) ?_;intro g7 u7 l7 e7;refine G.append 32 1 16 (.string (mkS [])) PH.mt _ [.string (mkS [48])] (.slice (some ⟨g,0,none⟩) (i+1) V) g7 0 1 1 kV rfl rfl oV E e7 (Ci [[48]]) rfl oV (by rw[T];omega) (by rw[T];omega) ?_;intro v8 m8 F;rw[Afj]at F;obtain⟨g8,c8,rfl⟩:=F.ptr mV;rw[T]at F⊢;exact G.i i<|G.b (R (i+1,g8,c8) _ _ _ cV (l6.trans l7) ⟨dV,F⟩ dV)
 obtain rfl:i=P.length:=oV
 refine G.lF P.length P.length ?_;have aa:(cfL m0 P []).map nmV=Value.string (mkS (Ae m0))::List.replicate P.length (Value.string (mkS [48])):=by
  have:=Ady P;unfold Afe at this;unfold cfL;rw[(A4n this).2,Azu,A4v];rfl
 rw[<-aa]at E;clear R;refine G.l (ι:=Nat) (fun i=>[(0,sV pa P.length pc),(3,.p 0 0),(8,sV (some ⟨g,0,none⟩) (P.length+1) V),(43,sV a M.length c),(44,iV M.length),(45,iV i)]) (fun _=>[(0,⟨44,[tV (Ae m0),sV a M.length c]⟩)])
  (fun i W m'=>i<=M.length/\Af PH.mt m' (.slice (some ⟨g,0,none⟩) (P.length+1) V) 32 1 ((cfL m0 P (M.take i)).map nmV)) (fun i=>M.length-i) 0 ⟨Azh _,E⟩ ?_
 clear E;rintro J3 i a6 u9 m9 l9 ⟨hi,E⟩;have U:=ag.trans l9;by_cases C:i<M.length
 ·refine G.lT i M.length ?_;obtain⟨x,m⟩:∃ x,M[i]?=some x:=⟨_,Ayr C⟩;have ad:=Ay9 m;have ac:=Da m;obtain⟨k,hk,ab⟩:=Az9 (ok.sub x ad);have N:P[k]?=some x.1:=by rw[Ayr hk,ab]
  have Z:x.1∉(M.take i).map (·.1):=by
   intro hm;obtain⟨y,hy,ae⟩:=Ayx.1 hm;obtain⟨j,hj,rfl⟩:=Az9 hy;rw[Ay1]at hj;have:=Ia a8 (i:=j) (j:=i) (x:=x.1) (by rw[Ayy,Ayr oV];simp only[A1n];rw[<-ae,A2t]) (by rw[Ayy,m];rfl);omega
  have a0:=Ac7 (m0:=m0) (L:=M.take i) N Y Z;obtain⟨H,Q,rfl,ea⟩:=Ac.at' (hM.mono U) (j:=i) (e:=As x) (by simp[m]);refine G.a H Q M.length c i 3 C<|G.lU (some 3) H (Q+i*3) (.agg #[.int .i64 x.1.1,.string (mkS x.1.2),.string (mkS (Ae x.2))]) ea<|G.c call78 (Afr (p:=x.1) (hP.mono U) N Y oV) ?_;rintro am a4 a1 rfl;by_cases ai:0<i
  case' pos =>
   refine G.gT i 0 ?_;have a7:M[i-1]?=some (M[i-1]'oV):=Ayr oV;have a9:Bf (M[i-1]'oV).1 x.1<0:=by
    have h1:=A02.1 ok.srt (i-1) i (by rw[Ayt];omega) (by rw[Ayt];omega) oV;rw[A1f,A1f,(Ayu.1 m).2]at h1;exact h1
   obtain⟨_,_,e0,eb⟩:=Ac.at' (hM.mono (U.trans a1)) (j:=i-1) (e:=As (M[i-1]'oV)) (by simp[a7]);cases e0;refine G.s i 1 (i-1:Nat)<|G.a H Q M.length c (i-1) 3 oV<|G.f 65 H (Q+(i-1)*3) 0 0<|G.lU (some 2) H (Q+(i-1)*3+0) (Aq (M[i-1]'oV).1) ?_ ?_
   ·intro n y hy;refine eb n y ?_;have hn:n<2:=(A2m.1 hy).1
    match n,hn with
    |0,_=>exact hy
    |1,_=>exact hy
   refine G.c call79 (Ff _ _ true (decide_eq_true a9)) ?_;rintro an a5 a2 rfl
  case' neg =>
   refine G.gF i 0 ?_;obtain⟨a5,O⟩:∃ W,W=a4:=⟨_,rfl⟩;have a2:PH.le a4 a5:=by rw[O];exact PH.le_refl _
   rw[<-O]
  all_goals
   refine G.lF k 0<|G.hT k 0<|G.i k<|G.a g 0 (P.length+1) V (k+1) 1 oV<|G.storeA 1 PH.mt _ g (P.length+1) V (k+1) (.string (mkS (Ae x.2))) kV E (by rw[Ayt,Abl];omega) rfl rfl ?_;intro ak I;rw[show Value.string (mkS (Ae x.2))=nmV (Ae x.2) from rfl,<-A1d,a0,<-ac]at I;exact G.i i<|G.b (a6 (i+1) _ _ _ cV ((l9.trans a1).trans a2) ⟨oV,I⟩ oV)
 obtain rfl:i=M.length:=oV
 refine G.lF M.length M.length ?_;rw[Azj,Ain]at E;refine G.give _ _ _ kV E (fun g=>.inl rfl) ?_;intro al aj hS;exact G.r (.tuple #[.slice (some ⟨g,0,none⟩) (P.length+1) V,.int .i64 0]) ⟨rfl,_,rfl,hS⟩
end
section
def Awt (x:Rat):0<=x*x:=by
 rcases A5s (a:=0) (b:=x) with h|h
 ·exact Azv h h
 have:=Azv (a:=-x) (b:=-x) (by grind) (by grind);grind
section
variable {P:List Par} {C:CF} {b d:Option Par->Rat} {q:Rat} {N D:Nat}
def An3 (t:G7 N C)(u:∃ p:Int,q*30=p)(g:∀ e∈Ah P,∃ z:Int,b e*(D:Rat)=z):IsZ (Dk q b P C*((D*D*144*30:Nat):Rat)):=by
 obtain⟨p,hp⟩:=u;have m:=Aym t g;have n:IsZ (Eu P b*((D:Rat)*(D:Rat))):=by
  unfold Eu;rw[<-Fg];refine IsZ.sum fun x E=>?_;have:=g (some x) (by unfold Ah;exact Azq _ (Ayx.2 ⟨x,E,rfl⟩));rw[show b (some x)*b (some x)*((D:Rat)*(D:Rat))=(b (some x)*(D:Rat))*(b (some x)*(D:Rat)) by grind];exact IsZ.mul this this
 have h:((D*D*144:Nat):Rat)=(D:Rat)*(D:Rat)*144:=by rw[A10,A10];rfl
 have j:((D*D*144*30:Nat):Rat)=((D*D*144:Nat):Rat)*30:=by rw[A10];rfl
 unfold Dk;rw[show (sqC b P C+q*Eu P b)*((D*D*144*30:Nat):Rat)=sqC b P C*((D*D*144:Nat):Rat)*30+(q*30)*(Eu P b*((D:Rat)*(D:Rat)))*144 by rw[j,h];grind,hp];exact ((m.mul (IsZ.nat 30)).add ((IsZ.mul ⟨p,rfl⟩ n).mul (IsZ.nat 144)))
def Alw:Dk q (fun _=>0) P C=C.t (A2 B7 B7):=by
 unfold Dk sqC;rw[V6 P C fun _=>rfl,Ca fun e _=>A7t _,show Eu P (fun _=>0)=0 from Ca fun p _=>A7w _];grind
def Aig (e:0<=q)(g:0<=sqC b P C):0<=Dk q b P C:=by
 have:=Azv e (S7 P b);unfold Dk;grind
def At0 {z:Option Par->Rat}(n:0<q)(u:0<C.c)(hp:∀ z,0<=Ba9 z P C)(h:Ba9 z P C+q*Eu P z<=0):∀ e∈Ah P,z e=0:=by
 have I:=hp z;have E:=S7 P z;have J:=Azv (A4f n) E;have F:Eu P z=0:=by
  have:q*Eu P z=0:=by grind
  rcases A2w.1 this with e|e
  ·rw[e]at n;exact absurd n jV
  exact e
 have j:∀ p∈P,z (some p)=0:=fun p hp=>by
  have:=U1 (fun q _=>Awt (z (some q))) F p hp;rcases A2w.1 this with e|e<;>exact e
 have H:z none=0:=by
  have t:Ba9 z P C=0:=by grind
  have m:Ao (fun f=>z none*Ar C none f*z f) (Ah P)=z none*C.c*z none:=by
   rw[O0,Ca fun p hp=>by rw[j p hp,A7w]];show z none*C.c*z none+0=_;grind
  unfold Ba9 at t;rw[O0,m,Ca fun p hp=>by
   refine Ca fun f _=>?_;rw[j p hp];grind]at t
  have e:z none*C.c*z none=0:=by grind
  rcases A2w.1 e with e|e
  ·rcases A2w.1 e with e|e
   ·exact e
   rw[e]at u;exact absurd u jV
  exact e
 intro e g;unfold Ah at g;rcases Ay7.1 g with rfl|g
 ·exact H
 obtain⟨p,hp,rfl⟩:=Ayx.1 g;exact j p hp
end
end
def QP.fv6 {u:PH}{v:Value}{q:Rat}(h:QP u v q):∃ x:FV,v=fvV x/\QP u (fvV x) q:=by
 obtain⟨x,rfl⟩:=h.fv;exact⟨x,rfl,h⟩
def Atv {P:List Par}(h:P.Nodup){m0:Rat}{M:List (Par×Rat)}(e:H7 P m0 M)(q:Rat):q*Eu P (cfE m0 M)=Ao (fun x:Par×Rat=>x.2*x.2*q) M:=by
 have g:=e.srt.nodup Dl;unfold Eu;show q*Ao (fun p=>Ap p M*Ap p M) P=_;rw[Ow h g e.sub,<-Dp];exact A7 fun x j=>by rw[Hj g j];grind
end Go.Proofs.YtijchbjkdllolaaGreatDoor
