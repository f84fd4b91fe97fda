/- Parts of one proof, joined by a program. -/
import Derived.Test.YtdgncafgglafjaaGreatDoorQ14
set_option linter.defProp false
set_option linter.unusedVariables false
set_option linter.unusedSimpArgs false
set_option linter.unusedSectionVars false
set_option maxHeartbeats 16000000
namespace Go.Proofs.YtdgncafgglafjaaGreatDoor
open Go.Proofs.Tryz
open Go.RowKit Go.MapKept
section
abbrev FV:Type:=Bool×(Option Addr×Nat×Nat)×(Option Addr×Nat×Nat)
def fvV (x:FV):Value:=.agg #[.bool x.1,.slice x.2.1.1 x.2.1.2.1 x.2.1.2.2,.bool false,.slice x.2.2.1 x.2.2.2.1 x.2.2.2.2]
def QP.fv {u:PH}{v:Value}{q:Rat}(h:QP u v q):∃ x:FV,v=fvV x:=by
 obtain⟨b,a,n,c,d,j,g,e,_⟩:=h.opn;exact⟨(b,(a,n,c),(d,j,g)),e⟩
def Bcm {V:List (Par×Rat)}(n:(V.map (·.1)).Nodup){j:Nat}{x:Par×Rat}(m:V[j]?=some x)(p:Par):B8 p (V.take (j+1))=if x.1=p then x.2 else B8 p (V.take j):=by
 have e:V.take (j+1)=V.take j++[x]:=by rw[A0t,m];rfl
 have d:x.1∉(V.take j).map (·.1):=by
  intro u;obtain⟨y,z,g⟩:=A0r.1 u;obtain⟨i,t,rfl⟩:=A2a z;rw[A0q]at t;have:=Apy n (i:=i) (j:=j) (x:=x.1) (by rw[A0n,A0i oV];simp only[A3g];rw[<-g,A7p]) (by rw[A0n,m];rfl);omega
 rw[e,Ahm d];by_cases h:p=x.1
 ·rw[if_pos h,if_pos h.symm]
 rw[if_neg h,if_neg (fun e=>h e.symm)]
section
variable {V M:List (Par×Rat)} {m0:Rat}
end
end
section
variable {P:List Par}{X:List (List UInt8)}{b:List UInt8}{f:Int}{tg:List UInt8->List UInt8}{z:Option Par->Rat}
def Bcx {g:Int}:(Au P g).length+(A2 P g).length=P.length:=by
 unfold Au A2 onF;rw[A0k];induction P with
 |nil=>rfl
 |cons p l ih =>
  rw[A51,A51,A1y];by_cases e:p.1=g
  ·rw[decide_eq_true e];simp only[A5m,A3z,if_false,if_true,A1y];omega
  rw[decide_eq_false e];simp only[Bool.not_false,A3z,if_false,if_true,A1y];omega
def Bcu (X:List (List UInt8))(tg:List UInt8->List UInt8)(z:Option Par->Rat)(f:Int)(b:List UInt8):Rat:=Ap (fun x=>if tg x=b then z (some (f,x)) else 0) X
def Bcw {b x:List UInt8}:Bcu (X++[x]) tg z f b=Bcu X tg z f b+if tg x=b then z (some (f,x)) else 0:=by
 unfold Bcu;rw[Sw]
def Bcy :Bcu (A2 P f) tg z f b=Ct P f tg b fun a=>z (some a):=by
 unfold Bcu A2 Ct;rw[Zs];refine Aj fun p hp=>?_;have:=(Dj.1 hp).2;obtain⟨d,e⟩:=p;obtain rfl:d=f:=this;rfl
def Bcz (h:∀ x∈X,Tx (z (some (f,x))))(d:X.length<=1000):Sz (Bcu X tg z f b) 1000000:=by
 unfold Bcu;refine (Aw5 (s:=400) (k:=1000) (Aku fun x e=>?_) d).mono oV;split
 ·exact (h x e).sz
 exact Qu.mono oV
def Bcv {u:PH}{v:Value}{ts:List Int}(ht:Ls u)(hv:Ab u v 1 (Er ts))(cc:∀ t∈ts,-9223372036854775808<=t)(c9:∀ t∈ts,t<=9223372036854775807) :
 Fn0 prog 6 [v] u fun v' _=>v'=.bool true:=by
 obtain⟨a,c,rfl⟩:=hv.opn;rw[Ch]at hv⊢;refine Fn0.o func6 ?_;by_cases d3:400<ts.length
 ·refine G.gT ts.length 400<|G.c call7 (Ac9 ht) ?_;rintro v1 u1 l1 rfl;exact G.r (.bool true) ⟨rfl,rfl⟩
 refine G.gF ts.length 400<|G.callO _ _ kV call9 (Ajf hv oV cc c9) ?_;rintro v1 u1 m1 l1 ⟨s,rfl,rfl,hs⟩ _;rw[Cm];refine G.A call8 (Aj6 hs (A1c _)) ?_;rintro v2 u2 m2 l2 ⟨b,mm,R,L,xv,lv,cv,k2,rfl,w,cb,rfl⟩ _;rw[Cm];obtain⟨k,N,P,F⟩:=w.deps;have cl:=ht.mono (l1.trans l2);obtain⟨la,lc,rfl⟩:=w.rows.opn;clear w;obtain⟨xa,xc,xb,xd,xe,xf,rfl,_⟩:=id F.w.sch;obtain⟨a1,n1,c1,a2,n2,c2,rfl⟩:=id F.w.cof.opn;refine G.A call13 (Aef (hs.mono l2) cb) ?_;rintro v3 u3 m3 l3 ⟨q,k3,rfl,hq,da,rfl⟩ _;rw[Cm];refine G.drop PH.mt kV (PH.mt_le _) ?_;have H:=F.mono l3;have Q:=cl.mono l3;refine G.c call22 (Aiq Q H.m01 H.n0 hq) ?_;rintro v4 u4 l4 (⟨hd,rfl⟩|⟨hd,h00,rfl⟩|⟨hdet,h0,P1,wa,wc,ya,yc,ra,rc,hPL,rfl,hWp,hM,hRr⟩)
 ·unfold Ang;refine G.c call18 (Ue (Q.mono l4) (H.mono l4).m01 H.n0 hq) ?_;rintro v5 u5 l5 (⟨_,rfl⟩|⟨hd',_,rfl⟩|⟨hd',_⟩)
  rotate_left
  ·exact absurd hd' hd
  ·exact absurd hd' hd
  unfold Xl;refine G.nT 16 0<|G.nT 16 0<|G.c call7 (Ac9 (Q.mono (l4.trans l5))) ?_;rintro v6 u6 l6 rfl;exact G.r (.bool true) ⟨rfl,rfl⟩
 ·unfold Ang;refine G.c call18 (Ue (Q.mono l4) (H.mono l4).m01 H.n0 hq) ?_;rintro v5 u5 l5 (⟨hd',rfl⟩|⟨_,_,rfl⟩|⟨_,hk',_⟩)
  ·exact absurd hd hd'
  rotate_left
  ·exact absurd h00 hk'
  unfold Xl;refine G.nT 12 0<|G.nT 12 0<|G.c call7 (Ac9 (Q.mono (l4.trans l5))) ?_;rintro v6 u6 l6 rfl;exact G.r (.bool true) ⟨rfl,rfl⟩
 obtain rfl:=hPL.eq F.prm;have ar:=H.mono l4;have bg:=Q.mono l4;refine G.c call18 (Ue bg ar.m01 ar.n0 hq) ?_;rintro v5 u5 l5 (⟨hd',rfl⟩|⟨_,h00,rfl⟩|⟨_,_,P2,mv,d0,qs,hPL2,hql,rfl,hmv,hok,hrs⟩)
 ·exact absurd hdet hd'
 ·exact absurd h00 h0
 obtain rfl:=hPL2.eq F.prm;obtain⟨ma,mc,I,an⟩:=id hmv.val;subst I;refine G.nF 0 0<|G.nF 0 0 ?_;have C:=ar.mono l5;have cm:=bg.mono l5;refine G.c call20 (Wb C.w.sch C.w.ok C.w.cof C.w.sC C.w.vC C.w.K C.w.bel) ?_;intro v6 u6 l6 hp;obtain⟨ps,P3,rfl,b0,_,b4⟩:=hp.resolve_left fun⟨_,L',h1,b3⟩=>by have:=C.w.p24 L' b3;omega
 obtain rfl:=b4.eq F.prm;obtain⟨pa,pc,I⟩:=b0.opn;have cj:(P3.map An).length=P3.length:=A0k ..;rw[cj]at I;subst I;have bk:=C.mono l6;have cn:=cm.mono l6;refine G.c call11 (Akp bk.m01) ?_;rintro v7 u7 l7 (⟨_,P4,qa,qc,hPL4,rfl,hpr⟩|⟨hd',rfl⟩)
 rotate_left
 ·exact absurd hdet hd'
 obtain rfl:=hPL4.eq F.prm;have au:=bk.mono l7;have bh:=cn.mono l7;have aq:∀ p∈P4,Tx (Fv P4 ((0:Nat):Int) ((1:Nat):Int) (tgL (Ax (f18 mm b) 2 L) P4 ((0:Nat):Int) ((1:Nat):Int)) (cfE d0 ((Au P4 ((1:Nat):Int)).zip qs)) (some p)):=fun p hp=>(hrs.full _ (Nr hp)).tx oV oV oV oV;refine G.c call19 (Uk bh au.m01 au.n0 hdet h0 au.prm hql (hmv.mono (l6.trans l7)) hok aq) ?_;rintro v8 u8 l8 ⟨dj,rfl,af⟩;obtain⟨na,nc,I,ap⟩:=id af.val;subst I;have d5:=F.p10;have dd:(Au P4 ((1:Nat):Int)).length<=P4.length:=R8;have c8:=F.w.mom.cpos h0;have d:=F.m01.dep F.prm hdet;have a7:=Avd (P:=P4) (q:=q) (f:=((0:Nat):Int)) (g:=((1:Nat):Int)) F.n0.cd F.n0.N hq fun c=>A0l U7 (F.n0.p10 P4 F.prm).2;have b5:=Awt a7 oV;obtain⟨ah,be⟩:=Azw d a7 oV hq.pos c8 (F.n0.psd _);refine G.c call23 (As3 (B:=20000) (hM.mono (((l5.trans l6).trans l7).trans l8)) b5 Ay7 a7 oV ah be) ?_;rintro v9 u9 l9 rfl;have co:=(bh.mono l8).mono l9;have ce:=F.prm.1.nodup Dl;have dc:=Bcx (P:=P4) (g:=((1:Nat):Int));have b7:=fun n=>Mr (P:=P4.take n) (f:=((1:Nat):Int));obtain⟨tg,a0⟩:∃ tg,tgL (Ax (f18 mm b) 2 L) P4 ((0:Nat):Int) ((1:Nat):Int)=tg:=⟨_,rfl⟩;obtain⟨z,bl⟩:∃ z,cfE d0 ((Au P4 ((1:Nat):Int)).zip qs)=z:=⟨_,rfl⟩;have bm:∀ p,B8 p ((Au P4 ((1:Nat):Int)).zip qs)=z (some p):=fun p=>by rw[<-bl];rfl
 have ae:∀ c,Ct P4 ((0:Nat):Int) tg c (fun _=>1)=(Fr ((A2 P4 ((0:Nat):Int)).map tg) c:Rat):=fun c=>by rw[<-a0,Xu,Aei]
 rw[a0,bl]at ap aq hrs;rw[a0]at hpr;have cr:(P4.zip (P4.map fun p=>Fv P4 ((0:Nat):Int) ((1:Nat):Int) tg z (some p))).length=P4.length:=mV;have ai:((Au P4 ((1:Nat):Int)).zip qs).length=(Au P4 ((1:Nat):Int)).length:=by rw[A6j];omega
 have aj:(P4.zip (P4.map fun p=>Fv P4 ((0:Nat):Int) ((1:Nat):Int) (tgL (Ax (f18 mm b) 2 L) P4 ((0:Nat):Int) ((1:Nat):Int)) (cfE d0 ((Au P4 ((1:Nat):Int)).zip qs)) (some p))).length=P4.length:=mV;rw[aj];rw[cr]at ap;rw[ai]at an⊢;have bn:∀ p∈Au P4 ((1:Nat):Int),Tx (z (some p)):=fun p hp=>(hrs.de _ (Nr hp)).tx oV oV oV oV;have ao:(((Au P4 ((1:Nat):Int)).zip qs).map (·.1)).Nodup:=by
  rw[A6u oV];exact Iy ce
 have b2:=hok.t;obtain⟨M0,b1⟩:∃ M0,(Au P4 ((1:Nat):Int)).zip qs=M0:=⟨_,rfl⟩;rw[b1]at an bm ai ao b2;clear hmv af hrs hok aj b1 b5 a7 ah be hM hRr hWp;obtain⟨X,hX⟩:∃ X,A2 P4 ((0:Nat):Int)=X:=⟨_,rfl⟩;have c5:∀ c,Bcu X tg z ((0:Nat):Int) c=Ct P4 ((0:Nat):Int) tg c fun a=>z (some a):=fun c=>by rw[<-hX,Bcy]
 have c6:∀ x∈X,Tx (z (some (((0:Nat):Int),x))):=fun x hx=>by
  rw[<-hX]at hx;exact bn _ (F0.2 ⟨Qv.1 hx,by show ((0:Nat):Int)≠((1:Nat):Int);decide⟩)
 have d9:X.length<=10:=by
  have:=Mr (P:=P4) (f:=((0:Nat):Int));rw[hX]at this;omega
 rw[hX]at hpr ae;rw[hX];refine G.l (ι:=Nat) (fun n=>[(9,.p 7008 0),(11,.p 8008 0),(13,sV pa P4.length pc),(15,sV qa X.length qc),(16,iV 0),(17,.p 13008 0),(18,iV 0),(19,bV true),(20,iV 0),(21,iV ((A2 (P4.take n) ((1:Nat):Int)).length)),(107,sV pa P4.length pc),(108,iV P4.length),(109,iV n)])
  (fun _=>[(7008,⟨72,[sV wa (Au P4 ((1:Nat):Int)).length wc,sV ya ((Au P4 ((1:Nat):Int)).length+1) yc,sV ra ((Au P4 ((1:Nat):Int)).length+1) rc]⟩),(8008,⟨55,[tV (Ag d0),sV ma (Au P4 ((1:Nat):Int)).length mc]⟩),(13008,⟨55,[tV (Ag d0),sV na P4.length nc]⟩)])
  (fun n u' m'=>n<=P4.length/\m'=PH.mt) (fun n=>P4.length-n) 0 ⟨oV,rfl⟩ ?_
 rintro J n hJ dk m10 aa ⟨hn,rfl⟩;by_cases E:n<P4.length
 ·refine G.lT n P4.length ?_;obtain⟨p,hp⟩:∃ p,P4[n]?=some p:=⟨_,A0i E⟩;have Z:=S6 (f:=((1:Nat):Int)) hp;have c7:=b7 n;rw[A0q]at c7;obtain⟨bp,op,I,ep⟩:=Ab.at' (b0.mono ((l7.trans l8).trans (l9.trans aa))) (j:=n) (e:=An p) (by simp[hp]);subst I;obtain⟨V,p2⟩:=p;simp only at Z;refine G.a bp op P4.length pc n 2 E<|G.lU (some 2) bp (op+n*2) (.agg #[.int .i64 V,.string (mkS p2)]) ep ?_;by_cases hg:V=1
  ·refine G.eT' V 1 hg ?_;rw[if_pos (show V=((1:Nat):Int) from hg)]at Z;have hl:(A2 (P4.take (n+1)) ((1:Nat):Int)).length=(A2 (P4.take n) ((1:Nat):Int)).length+1:=by rw[Z,A03];rfl
   exact G.p ((A2 (P4.take n) ((1:Nat):Int)).length:Int) 1 ((A2 (P4.take (n+1)) ((1:Nat):Int)).length:Int)<|G.i n<|G.b (hJ (n+1) _ _ _ cV aa ⟨oV,rfl⟩ oV)
  refine G.eF' V 1 hg ?_;rw[if_neg (show ¬ V=((1:Nat):Int) from hg),A1i]at Z;refine G.i n ?_;rw[<-Z];exact G.b (hJ (n+1) _ _ _ cV aa ⟨oV,rfl⟩ oV)
 obtain rfl:n=P4.length:=oV;refine G.lF P4.length P4.length ?_;clear hJ;rw[A05];refine G.nF 0 0<|G.nF 0 0<|G.s P4.length ((A2 P4 ((1:Nat):Int)).length:Int) ((Au P4 ((1:Nat):Int)).length:Int)<|G.nF ((Au P4 ((1:Nat):Int)).length:Int) ((Au P4 ((1:Nat):Int)).length:Int)<|G.eT' 0 0 rfl ?_;generalize d8:(Au P4 ((1:Nat):Int)).length=ql at *
 refine G.l (ι:=Nat) (fun n=>[(11,.p 8008 0),(15,sV qa X.length qc),(144,sV na P4.length nc),(145,iV P4.length),(146,iV n)])
  (fun _=>[(8008,⟨55,[tV (Ag d0),sV ma ql mc]⟩)])
  (fun n u' m'=>n<=P4.length/\m'=PH.mt) (fun n=>P4.length-n) 0 ⟨oV,rfl⟩ ?_
 rintro J n hJ dl dg ax ⟨d4,rfl⟩;have a5:=aa.trans ax;by_cases E:n<P4.length
 rotate_left
 ·obtain rfl:n=P4.length:=oV;refine G.lF P4.length P4.length<|G.c call7 (Ac9 (co.mono a5)) ?_;rintro cz cy az rfl;exact G.r (.bool true) ⟨rfl,rfl⟩
 refine G.lT n P4.length ?_;obtain⟨p,hp⟩:∃ p,P4[n]?=some p:=⟨_,A0i E⟩;have ck:=A0w hp;have ad:=aq p ck;have cs:(P4.zip (P4.map fun p=>Fv P4 ((0:Nat):Int) ((1:Nat):Int) tg z (some p)))[n]?=some (p,Fv P4 ((0:Nat):Int) ((1:Nat):Int) tg z (some p)):=by rw[List.getElem?_zip_eq_some];exact⟨hp,by rw[A0n,hp];rfl⟩
 have am:p.1=((1:Nat):Int)->Fv P4 ((0:Nat):Int) ((1:Nat):Int) tg z (some p)=M3 P4 ((0:Nat):Int) tg z p.2:=fun e=>Yj e;obtain⟨W,hW⟩:∃ W,Fv P4 ((0:Nat):Int) ((1:Nat):Int) tg z (some p)=W:=⟨_,rfl⟩;obtain⟨bt,ot,I,et⟩:=Ab.at' (ap.mono (l9.trans a5)) (j:=n) (e:=As (p,W)) (by rw[A0n,cs,hW];rfl);subst I;rw[hW]at ad am;obtain⟨V,m⟩:=p;simp only at am;refine G.a bt ot P4.length nc n 3 E<|G.lU (some 3) bt (ot+n*3) (.agg #[.int .i64 V,.string (mkS m),.string (mkS (Ag W))]) et ?_;by_cases hg:V=1
 rotate_left
 ·exact G.nT' V 1 hg<|G.i n<|G.b (hJ (n+1) _ _ _ cV ax ⟨oV,rfl⟩ oV)
 refine G.nF V 1 ?_;have c4:=am hg;refine G.c call24 (Od (z:=0) oV oV) ?_;intro cz cy az bo;obtain⟨d1,rfl⟩:=bo.fv;have ag:∀ r,Fr ((X.take r).map tg) m<=10:=fun r=>A0l Ato (by rw[A0k,A0q];omega);refine G.l (ι:=Nat×FV) (fun r=>[(11,.p 8008 0),(15,sV qa X.length qc),(25,.p 26002 0),(26,.p 28001 0),(27,iV (Fr ((X.take r.1).map tg) m)),(144,sV (some ⟨bt,ot,none⟩) P4.length nc),(145,iV P4.length),(146,iV n),(155,sV qa X.length qc),(156,iV X.length),(157,iV r.1)])
  (fun r=>[(8008,⟨55,[tV (Ag d0),sV ma ql mc]⟩),(26002,⟨80,[iV V,tV m,tV (Ag W)]⟩),
   (28001,⟨84,[.v (.bool r.2.1),.v (.slice r.2.2.1.1 r.2.2.1.2.1 r.2.2.1.2.2),.v (.bool false),.v (.slice r.2.2.2.1 r.2.2.2.2.1 r.2.2.2.2.2)]⟩)])
  (fun r u' m'=>r.1<=X.length/\QP u' (fvV r.2) (Bcu (X.take r.1) tg z ((0:Nat):Int) m)/\m'=PH.mt) (fun r=>X.length-r.1) (0,d1) ⟨oV,bo,rfl⟩ ?_
 rintro J2 ⟨r,c0⟩ a6 dm dh ab ⟨hr,a4,rfl⟩;simp only at hr a4 a6;have b8:∀ r,Sz (Bcu (X.take r) tg z ((0:Nat):Int) m) 1000000:=fun r=>Bcz (fun x hx=>c6 x (A23 hx)) (by rw[A0q];omega);have ay:=az.trans ab;by_cases ba:r<X.length
 rotate_left
 ·obtain rfl:r=X.length:=oV;refine G.lF X.length X.length ?_;clear a6;have ch:=ag X.length;have b9:=b8 X.length;rw[A05]at a4 ch b9⊢;refine G.p (Fr (X.map tg) m:Int) 1 ((Fr (X.map tg) m+1:Nat):Int)<|G.c call24 (Od (z:=((Fr (X.map tg) m+1:Nat):Int)) oV oV) ?_;intro dw dp bu av;obtain⟨e2,rfl⟩:=av.fv;have e4:((((Fr (X.map tg) m+1:Nat):Int)):Rat)=1+(Fr (X.map tg) m:Rat):=by rw[A1f,A4f,A39];rfl
  have ci:1+(Fr (X.map tg) m:Rat)≠0:=by rw[<-e4,A1f];exact Jf oV
  have s4:Sz (1+(Fr (X.map tg) m:Rat)) 1:=by rw[<-e4];exact Qd oV
  rw[e4]at av;have bj:Bcu X tg z ((0:Nat):Int) m/(1+(Fr (X.map tg) m:Rat))=W:=by
   rw[c4,c5];unfold M3;rw[ae]
  refine G.c call27 (Akc (a4.mono bu) av (b9.mono oV) (s4.mono oV) ci) ?_;intro dx dq cu aw;obtain⟨e3,rfl⟩:=aw.fv;rw[bj]at aw;refine G.c call28 (Nh aw ad) ?_;rintro dy dr cw rfl;exact G.y (Ag W) (Ag W) rfl<|G.i n<|G.b (hJ (n+1) _ _ _ cV (((ax.trans ay).trans bu).trans (cu.trans cw)) ⟨oV,rfl⟩ oV)
 refine G.lT r X.length ?_;obtain⟨x,hx⟩:∃ x,X[r]?=some x:=⟨_,A0i ba⟩;have df:=A0w hx;have bi:X.take (r+1)=X.take r++[x]:=by rw[A0t,hx];rfl
 have O:Bcu (X.take (r+1)) tg z ((0:Nat):Int) m=Bcu (X.take r) tg z ((0:Nat):Int) m+if tg x=m then z (some (((0:Nat):Int),x)) else 0:=by rw[bi,Bcw]
 have a8:Fr ((X.take (r+1)).map tg) m=Fr ((X.take r).map tg) m+if m=tg x then 1 else 0:=by rw[bi,A02,A1t,A38,Al6]
 have ak:=(l8.trans l9).trans ((a5.trans az).trans ab);obtain⟨bq,oq,I,eq⟩:=Ab.at' (hpr.mono ak) (j:=r) (e:=Ix (x,tg x)) (by simp[hx]);subst I;refine G.a bq oq X.length qc r 2 ba<|G.lU (some 2) bq (oq+r*2) (.agg #[.string (mkS x),.string (mkS (tg x))]) eq<|G.pub 31002 51 [.string (mkS x),.string (mkS (tg x))] kV kV ?_;intro b6 d6 d7;obtain⟨mb,bd⟩:∃ mb:PH,mb=PH.mt.upd b6 (.cells [Value.string (mkS x),.string (mkS (tg x))].toArray 51 (0,0)):=⟨_,rfl⟩;have e6:ElP mb b6 0 (.agg #[.string (mkS x),.string (mkS (tg x))]):=Jg (xs:=[Value.string (mkS x),.string (mkS (tg x))]) (by rw[bd];exact Ac _ _ _) rfl;rw[<-bd];refine G.addrA 51 9 2 b6 0 1 1 kV kV kV kV oV<|G.lM none b6 (0+1*1) (.string (mkS (tg x))) (e6.fld (j:=1) (xs:=#[.string (mkS x),.string (mkS (tg x))]) rfl rfl) ?_;by_cases T:tg x=m
 rotate_left
 ·refine G.x (tg x) m T ?_;rw[if_neg T,A5k]at O;have a8:Fr ((X.take (r+1)).map tg) m=Fr ((X.take r).map tg) m:=by rw[a8,if_neg fun h=>T h.symm];rfl
  refine G.i r<|G.drop PH.mt kV (PH.mt_le _) ?_;rw[<-a8];exact G.b (a6 (r+1,c0) _ _ _ cV ab ⟨dV,by dsimp only;rw[O];exact a4,rfl⟩ dV)
 refine G.y (tg x) m T ?_;rw[if_pos T]at O;rw[if_pos T.symm]at a8;have db:=ag r;refine G.p (Fr ((X.take r).map tg) m:Int) 1 (Fr ((X.take (r+1)).map tg) m:Int) ?_;have ct:B8 (((0:Nat):Int),x) M0=z (some (((0:Nat):Int),x)):=bm _;refine G.l (ι:=Nat×FV) (fun t=>[(11,.p 8008 0),(15,sV (some ⟨bq,oq,none⟩) X.length qc),(25,.p 26002 0),(26,.p 28001 0),(27,iV (Fr ((X.take (r+1)).map tg) m)),(29,.v (.pointer (some ⟨b6,0,none⟩))),(144,sV (some ⟨bt,ot,none⟩) P4.length nc),(145,iV P4.length),(146,iV n),(155,sV (some ⟨bq,oq,none⟩) X.length qc),(156,iV X.length),(157,iV r),(170,sV ma ql mc),(171,iV ql),(172,iV t.1)])
  (fun t=>[(8008,⟨55,[tV (Ag d0),sV ma ql mc]⟩),(26002,⟨80,[iV V,tV m,tV (Ag W)]⟩),
   (28001,⟨84,[.v (.bool t.2.1),.v (.slice t.2.2.1.1 t.2.2.1.2.1 t.2.2.1.2.2),.v (.bool false),.v (.slice t.2.2.2.1 t.2.2.2.2.1 t.2.2.2.2.2)]⟩)])
  (fun t u' m'=>t.1<=ql/\QP u' (fvV t.2) (Bcu (X.take r) tg z ((0:Nat):Int) m+B8 (((0:Nat):Int),x) (M0.take t.1))/\m'=mb) (fun t=>ql-t.1) (0,c0) ⟨oV,by simpa[B8,A5k] using a4,rfl⟩ ?_
 rintro J3 ⟨t,c3⟩ al ds di ac ⟨bf,U,rfl⟩;simp only at bf U al;by_cases bb:t<ql
 rotate_left
 ·obtain rfl:t=ql:=oV;refine G.lF t t ?_;rw[show M0.take t=M0 from A00 oV,ct]at U;exact G.i r<|G.drop PH.mt kV (PH.mt_le _)<|G.b (a6 (r+1,c3) _ _ _ cV (ab.trans ac) ⟨dV,by dsimp only;rw[O];exact U,rfl⟩ dV)
 refine G.lT t ql ?_;obtain⟨tm,a9⟩:∃ tm,M0[t]?=some tm:=⟨_,A0i oV⟩;have a3:=b2 tm (A0w a9);have Y:=Bcm ao a9 (((0:Nat):Int),x);have bz:=((l6.trans l7).trans ak).trans ac;obtain⟨bw,ow,I,ew⟩:=Ab.at' (an.mono bz) (j:=t) (e:=As tm) (by simp[a9]);subst I;obtain⟨⟨w1,w2⟩,wq⟩:=tm;simp only at Y a3;refine G.a bw ow ql mc t 3 bb<|G.lU (some 3) bw (ow+t*3) (.agg #[.int .i64 w1,.string (mkS w2),.string (mkS (Ag wq))]) ew<|G.addrA 51 9 2 b6 0 0 1 kV kV kV kV oV<|G.lM none b6 (0+0*1) (.string (mkS x)) (e6.fld (j:=0) (xs:=#[.string (mkS x),.string (mkS (tg x))]) rfl rfl) ?_;by_cases he:((w1,w2):Par)=(((0:Nat):Int),x)
 rotate_left
 ·refine G.eqAgg 78 #[.int .i64 w1,.string (mkS w2)] #[.int .i64 0,.string (mkS x)] false kV kV kV (fun w=>by rw[<-decide_eq_false he];exact Bo.eq (w1,w2) (((0:Nat):Int),x) w) ?_;rw[if_neg he]at Y;exact G.i t<|G.b (al (t+1,c3) _ _ _ cV ac ⟨dV,by dsimp only;rw[Y];exact U,rfl⟩ dV)
 refine G.eqAgg 78 #[.int .i64 w1,.string (mkS w2)] #[.int .i64 0,.string (mkS x)] true kV kV kV (fun w=>by rw[<-decide_eq_true he];exact Bo.eq (w1,w2) (((0:Nat):Int),x) w) ?_;rw[if_pos he]at Y;have cg:B8 (((0:Nat):Int),x) (M0.take t)=0:=L9 fun hm=>by
  obtain⟨y,hy,cp⟩:=A0r.1 hm;obtain⟨jj,ca,cq⟩:=A2a hy;rw[A0q]at ca;have:=Apy ao (i:=jj) (j:=t) (x:=(((0:Nat):Int),x)) (by rw[A0n,A0i oV];simp only[A3g];rw[<-cp,<-cq,A7p]) (by rw[A0n,a9,<-he];rfl);omega
 rw[cg,A5k]at U;refine G.c call26 (H9 a3) ?_;intro dz du bx br;obtain⟨e5,rfl⟩:=br.fv;refine G.c call25 (Oo (U.mono bx) br ((b8 r).mono oV) (a3.sz.mono oV)) ?_;intro e1 dv cx bs;obtain⟨d2,rfl⟩:=bs.fv;exact G.i t<|G.b (al (t+1,d2) _ _ _ cV ((ac.trans bx).trans cx) ⟨dV,by dsimp only;rw[Y];exact bs,rfl⟩ dV)
end
end Go.Proofs.YtdgncafgglafjaaGreatDoor
