/- Parts of one proof, joined by a program. -/
import Derived.Test.YtemmheaocgmebaaGreatDoorS08
set_option linter.defProp false
set_option linter.unusedVariables false
set_option linter.unusedSimpArgs false
set_option linter.unusedSectionVars false
set_option maxHeartbeats 16000000
namespace Go.Proofs.YtemmheaocgmebaaGreatDoor
open Go.Proofs.Tryz
open Go.RowKit Go.MapKept
def A9f:=@Rat.zero_add
section
variable {N:Nat}{k:Par×Par}{q:Rat}
def Awv (T:TypeId):Op->Bool
 |.indexAddr t _ _=>Nat.beq t T
 |_=>false
section
variable {P:Program} [A6 P] {fn:Func} {Post:Ce} {st:List KI×S} {u m:PH}
def G.addrA (t e:TypeId)(n b off j sz:Nat)(h:Aj P (adv P st)=.addr none (.pointer (some ⟨b,off,none⟩)) (zI j))(T:Yr (Awv t) (adv P st)=true)(W:P.underlying t=some (.array n e))(U:szB P e=some sz)(hj:j<n)
 (k:G P fn Post (nx (adv P st) (.pointer (some ⟨b,off+j*sz,none⟩))) u m):G P fn Post st u m:=by
 refine G.askQ (Awv t) h T mV (fun R o C H w _=>?_) k;obtain⟨t',X,I,E,L,Q,_⟩:=Z1 C;rw[E]at H;have V:=A1y H;subst V;obtain⟨K,Y,J,pos,after,F⟩:=o;simp only at E;subst E;simp[execOp,Instr.indexAt,Instr.sureAddr,asIntOf,L,Q,run_underlying W,Bf U,Ed];intro Z;omega
end
def Aly {m:PH}{b:Nat}{t:TypeId}(h:m b=some (.cells [Value.int .i64 k.1.1,zS k.1.2,zI k.2.1,zS k.2.2].toArray t (0,0))):ElP m b (0+0*2) (Ap k.1)/\ElP m b (0+1*2) (Ap k.2):=by
 have h0:ElP m b 0 (.agg #[zI k.1.1,zS k.1.2,zI k.2.1,zS k.2.2]):=My h rfl;refine⟨h0.sub (k:=0) fun i y e=>?_,h0.sub (k:=2) fun i y e=>?_⟩
 ·match i,e with
  |0,e=>simpa[Ap,Value.cells] using e
  |1,e=>simpa[Ap,Value.cells] using e
 match i,e with
 |0,e=>simpa[Ap,Value.cells] using e
 |1,e=>simpa[Ap,Value.cells] using e
def SB.ten (h:SB q):Sz q 10000000000:=h.sz.mono oV
def KO.fix (h:KO k):Ay k.1 k.2=k:=by unfold Ay;rw[if_neg h]
def D7.at {κ:Type}[DecidableEq κ]{enc:κ->Value}{K:κ->Prop}{u:PH}{o:Obj}{f:κ->Rat}(h:D7 enc K u o f N) :
 ∃ l:List (κ×Value),Hu enc o l/\(∀ p∈l,QP u p.2 (f p.1)/\K p.1)/\(∀ k,k∉l.map (·.1)->f k=0)/\l.length<=N:=by
 obtain⟨l,j,e,t,C⟩:=h;exact⟨l,j,fun p hp=>⟨(e p hp).1,(e p hp).2.1⟩,t,C⟩
def Ar1 {u mf:PH}{F H:CF}{N M:Nat}{vf vg vk:Value}(hf:Kk mf u vf F N)(hg:R9 u vg H M)(hk:QP u vk q)(hq:SB q)(sF:CFS F)(sH:CFS H)(sK:CFS (H.scale q))(sR:CFS (F.add (H.scale q))) :
 Ag prog 48 [vf,vg,vk] u mf fun v u' m'=>Kk m' u' v (F.add (H.scale q)) (N+M):=by
 obtain⟨b,a,n,c,b',a',n',c',g1,g2,o1,o2,rfl,hF,ab,rfl,h1,h2⟩:=hf;obtain⟨wb,wa,wn,wc,b0,az,b5,b3,w1,w2,p1,p2,rfl,hH,e1,e2,k1,k2⟩:=hg;obtain⟨kb,ka,kn,kc,av,ax,aw,rfl,_⟩:=hk.opn;obtain⟨l1,⟨es1,C,rfl,ae,a3⟩,ba,be,bu⟩:=k1.at;obtain⟨l2,⟨Y,h,rfl,af,a5⟩,bb,bf,bw⟩:=k2.at;have ar:(l1.map (·.1)).Nodup:=Hu.nodup (enc:=Ap) ⟨es1,C,rfl,ae,a3⟩;have au:(l2.map (·.1)).Nodup:=Hu.nodup (enc:=prV) ⟨Y,h,rfl,af,a5⟩;refine Ag.o func48<|G.c call28 (Gh hH hk (SB.ten sH.c) hq.ten) ?_;intro v1 u1 ay r1;obtain⟨b1,a1,x1,c1,bp,bz,br,rfl,_⟩:=r1.opn;refine G.c call26 (Pd (hF.mono ay) r1 (SB.ten sF.c) (SB.ten sK.c)) ?_;intro v2 u2 bg r2;obtain⟨b2,a2,x2,c2,W,a8,X,rfl,_⟩:=r2.opn;have a6:=ay.trans bg;obtain⟨m2,bd,ai,aj⟩:∃ m2:PH,m2=(PH.mt.upd g1 o1).upd g2 o2/\m2 g1=some o1/\m2 g2=some o2:=⟨_,rfl,by rw[Ad _ _ ab,Ab],Ab _ _ _⟩;rw[<-bd];refine G.mapRange w1 es1 C 118 69 kV (.inl (a6 _ _ e1)) ?_;intro it ao bt;have i1:g1≠it:=fun e=>by subst e;rw[ao]at ai;cases ai
 have i2:g2≠it:=fun e=>by subst e;rw[ao]at aj;cases aj
 refine G.l (ι:=List MapEntry×List (Par×Value)) (fun _=>[(3,.p 0 0),(4,.p 1 0),(5,.p 2 0),(6,.p 3 0),(21,.v (.pointer (zA it)))])
  (fun _=>[(0,⟨108,[bV b2,sV a2 x2 c2,bF,sV W a8 X,.v (.map (some g1)),.v (.map (some g2))]⟩),(1,⟨108,[bV wb,sV wa wn wc,bV b0,sV az b5 b3,.v (.map (some w1)),.v (.map (some w2))]⟩),(2,⟨69,[bV kb,sV ka kn kc,bF,sV av ax aw]⟩),(3,⟨108,[bF,sN,bF,sN,.v (.map none),.v (.map none)]⟩)])
  (fun i u' m'=>Gj Ap es1 l1 i.1 i.2/\m' it=some (.mapIter (some w1) C (Ar i.1) C)/\m' g2=some o2/\∃ K,m' g1=some K/\D7 Ap KT u' K (Ek F.s H.s q (i.2.map (·.1))) (N+i.2.length))
  (fun i=>l1.length-i.2.length) ([],[])
  ⟨Gj.nil _ _,Ab _ _ _,by rw[Ad _ _ i2];exact aj,o1,by rw[Ad _ _ i1];exact ai,by
   have:Ek F.s H.s q (([]:List (Par×Value)).map (·.1))=F.s:=by funext k;simp[Ek]
   dsimp only;rw[this];exact h1.mono a6⟩ ?_
 rintro J ⟨D,L⟩ hJ u3 m3 ak ⟨hS,ap,E,K,a0,hR⟩;simp only at hS ap E a0 hR hJ;have j:=a6.trans ak;refine G.mapNextL Bq.inj it w1 es1 C l1 D L kV kV ap (.inl (j _ _ e1)) a3 ae ar hS ?done1 ?next1
 case next1 =>
  rintro⟨k,xv⟩ e hp hkn he hek hev hS';simp only at hkn hek hev;have hx:=(ba _ hp).1;simp only at hx;obtain⟨yb,ya,yn,yc,bk,bm,bl,rfl,_⟩:=hx.opn;refine G.mapEntry it w1 es1 C D e kV (Ab _ _ _) (.inl (j _ _ e1)) a3 he ?_;rw[hek,hev];refine G.c call28 (Gh (hx.mono j) (hk.mono j) (SB.ten (sH.s k)) hq.ten) ?_;intro v4 u4 a7 r4;obtain⟨b4,a4,x4,c4,b6,bj,b7,rfl,_⟩:=r4.opn;refine G.callG _ _ kV kV call109 (g:=g1) (o:=K) (by rw[Ad _ _ i1];exact a0)
   (Oi (g2:=some g2) (y1:=b2) (y2:=(a2,x2,c2)) (y3:=false) (y4:=(W,a8,X)) (hR.mono a7) r4 (sK.s k) (O3 sF.s sR.s k) (by
    have:Ek F.s H.s q (L.map (·.1)) k=F.s k:=by unfold Ek;rw[if_neg hkn]
    rw[this,A46];exact sR.s k)) ?_
  intro v5 u5 o5 al r5;rw[Jo _ _ _ hkn]at r5;refine G.b (hJ (D++[e],L++[(k,_)]) _ _ _ cV ((ak.trans a7).trans al)
   ⟨hS',by rw[Ad _ _ (Ne.symm i1),Ab],by rw[Ad _ _ (Ne.symm ab),Ad _ _ i2];exact E,o5,Ab _ _ _,by
    simpa[A3p] using r5⟩ (by have:=hS'.len;simp at this;dsimp only;simp;omega))
 case done1 =>
 intro an;have b8:Ek F.s H.s q (L.map (·.1))=(F.add (H.scale q)).s:=Me _ _ _ fun k hk=>be k fun hm=>hk (by
  obtain⟨p,hp,rfl⟩:=A1b.1 hm;exact A1b.2 ⟨p,an p hp,rfl⟩)
 rw[b8]at hR;have bs:=hS.len;refine G.mapRange w2 Y h 175 69 kV (.inl (j _ _ e2)) ?_;intro I ac bo;have j1:g1≠I:=fun e=>by subst e;rw[ac]at a0;cases a0
 have j2:g2≠I:=fun e=>by subst e;rw[ac]at E;cases E
 refine G.l (ι:=List MapEntry×List ((Par×Par)×Value)) (fun _=>[(3,.p 0 0),(4,.p 1 0),(5,.p 2 0),(6,.p 3 0),(35,.v (.pointer (zA I)))])
  (fun _=>[(0,⟨108,[bV b2,sV a2 x2 c2,bF,sV W a8 X,.v (.map (some g1)),.v (.map (some g2))]⟩),(1,⟨108,[bV wb,sV wa wn wc,bV b0,sV az b5 b3,.v (.map (some w1)),.v (.map (some w2))]⟩),(2,⟨69,[bV kb,sV ka kn kc,bF,sV av ax aw]⟩),(3,⟨108,[bF,sN,bF,sN,.v (.map none),.v (.map none)]⟩)])
  (fun i u' m'=>Gj prV Y l2 i.1 i.2/\m' I=some (.mapIter (some w2) h (Ar i.1) h)/\m' g1=some K/\∃ V,m' g2=some V/\D7 prV KO u' V (Ek F.t H.t q (i.2.map (·.1))) (N+i.2.length))
  (fun i=>l2.length-i.2.length) ([],[])
  ⟨Gj.nil _ _,Ab _ _ _,by rw[Ad _ _ j1];exact a0,o2,by rw[Ad _ _ j2];exact E,by
   have:Ek F.t H.t q (([]:List ((Par×Par)×Value)).map (·.1))=F.t:=by funext k;simp[Ek]
   dsimp only;rw[this];exact h2.mono j⟩ ?_
 rintro J2 ⟨D2,L2⟩ am u6 m6 aa ⟨ag,ad,R,V,Q,a9⟩;simp only at ag ad R Q a9 am;have T:=j.trans aa;refine G.mapNextL I1.inj I w2 Y h l2 D2 L2 kV kV ad (.inl (T _ _ e2)) a5 af au ag ?done2 ?next2
 case next2 =>
  rintro⟨k,xv⟩ e hp hkn he hek hev hS';simp only at hkn hek hev;obtain⟨hx,aq⟩:=bb _ hp;simp only at hx aq;have Z:=aq.fix;obtain⟨yb,ya,yn,yc,bk,bm,bl,rfl,_⟩:=hx.opn;refine G.mapEntry I w2 Y h D2 e kV (Ab _ _ _) (.inl (T _ _ e2)) a5 he ?_;rw[hek,hev];refine G.pub 8003 175 [zI k.1.1,zS k.1.2,zI k.2.1,zS k.2.2] kV kV ?_;intro bq bx U;have q1:g1≠bq:=fun e=>by subst e;rw[Ad _ _ j1,R]at U;cases U
  have q2:g2≠bq:=fun e=>by subst e;rw[Ad _ _ j2,Q]at U;cases U
  have q3:I≠bq:=fun e=>by subst e;rw[Ab]at U;cases U
  obtain⟨bh,bi⟩:=Aly (m:=(m6.upd I (.mapIter (some w2) h (Ar (D2++[e])) h)).upd bq (.cells [Value.int .i64 k.1.1,zS k.1.2,zI k.2.1,zS k.2.2].toArray 175 (0,0))) (Ab _ _ _);refine G.addrA 175 118 2 bq 0 0 2 kV kV kV kV oV<|G.v (some 2) bh<|G.addrA 175 118 2 bq 0 1 2 kV kV kV kV oV<|G.v (some 2) bi<|G.c call28 (Gh (hx.mono T) (hk.mono T) (SB.ten (sH.t k)) hq.ten) ?_;intro v4 u4 a7 r4;obtain⟨b4,a4,x4,c4,b6,bj,b7,rfl,_⟩:=r4.opn;refine G.callG _ _ kV kV call110 (g:=g2) (o:=V) (by rw[Ad _ _ q2,Ad _ _ j2];exact Q)
   (H7 (g1:=some g1) (y1:=b2) (y2:=(a2,x2,c2)) (y3:=false) (y4:=(W,a8,X)) (p:=k.1) (r:=k.2) (a9.mono a7) r4 (sK.t k) (by rw[Z];exact O3 sF.t sR.t k) (by
    have:Ek F.t H.t q (L2.map (·.1)) k=F.t k:=by unfold Ek;rw[if_neg hkn]
    rw[Z,this,A46];exact sR.t k)) ?_
  intro v5 u5 o5 al r5;rw[Z,Jo _ _ _ hkn]at r5;refine G.b (am (D2++[e],L2++[(k,_)]) _ _ _ cV ((aa.trans a7).trans al)
   ⟨hS',by rw[Ad _ _ (Ne.symm j2),Ad _ _ q3,Ab],by rw[Ad _ _ ab,Ad _ _ q1,Ad _ _ j1];exact R,o5,Ab _ _ _,by
    simpa[A3p] using r5⟩ (by have:=hS'.len;simp at this;dsimp only;simp;omega))
 case done2 =>
 intro ah;have b9:Ek F.t H.t q (L2.map (·.1))=(F.add (H.scale q)).t:=Me _ _ _ fun k hk=>bf k fun hm=>hk (by
  obtain⟨p,hp,rfl⟩:=A1b.1 hm;exact A1b.2 ⟨p,ah p hp,rfl⟩)
 rw[b9]at a9;have bn:=ag.len;refine G.drop ((PH.mt.upd g1 K).upd g2 V) kV (fun g o hg=>by
  by_cases e:g=g2
  ·subst e;rw[Ab]at hg;cases hg;exact Q
  rw[Ad _ _ e]at hg;by_cases e:g=g1
  ·subst e;rw[Ab]at hg;cases hg;exact R
  rw[Ad _ _ e]at hg;cases hg) ?_
 exact G.r (.agg #[.bool b2,.slice a2 x2 c2,zL,.slice W a8 X,.map (some g1),.map (some g2)]) ⟨_,_,_,_,_,_,_,_,g1,g2,K,V,rfl,r2.mono (ak.trans aa),ab,rfl,(hR.mono aa).up oV,a9.up oV⟩
end
theorem Arj {u:PH}{F H:CF}{N M:Nat}{v w:Value}(hv:R9 u v F N)(hw:R9 u w H M)(ok:Aw3 F H) :
 Ag prog 111 [v,w] u PH.mt fun v' u' V=>Kk V u' v' (F.mul H) (M+N+N*M):=by
 obtain⟨vb,va,vn,vc,b0,az,b3,b1,v1,v2,q1,q2,rfl,cy,f1,f2,s1,s2⟩:=id hv;obtain⟨wb,wa,wn,wc,b6,b5,b8,b7,w1,w2,p1,p2,rfl,cz,e1,e2,t1,t2⟩:=id hw;obtain⟨lv,⟨ab,Q,rfl,cu,bj⟩,dc,dk,f5⟩:=s1.at;obtain⟨lw,⟨ac,W,rfl,cv,bl⟩,df,dm,e9⟩:=t1.at;obtain⟨kv,⟨ba,ae,rfl,cd,bk⟩,dd,dl,et⟩:=s2.at;obtain⟨kw,⟨bb,af,rfl,ce,bm⟩,dg,dp,eu⟩:=t2.at;have cg:(lv.map (·.1)).Nodup:=Hu.nodup (enc:=Ap) ⟨ab,Q,rfl,cu,bj⟩;have ch:(lw.map (·.1)).Nodup:=Hu.nodup (enc:=Ap) ⟨ac,W,rfl,cv,bl⟩;have cw:(kv.map (·.1)).Nodup:=Hu.nodup (enc:=prV) ⟨ba,ae,rfl,cd,bk⟩;have cx:(kw.map (·.1)).Nodup:=Hu.nodup (enc:=prV) ⟨bb,af,rfl,ce,bm⟩;refine Ag.o func111<|G.callO _ _ kV call46 (Jm (n:=0) oV oV) ?_;rintro v3 u3 m3 l3 ⟨b,a,n,c,b',a',n',c',g1,g2,o1,o2,rfl,_,al,rfl,h1,h2⟩ _;rw[By];refine G.c call28 (Gh (cy.mono l3) (cz.mono l3) (SB.ten ok.a.c) (SB.ten ok.b.c)) ?_;intro v5 u5 l5 r5;obtain⟨b2,a2,x2,c2,I,P,K,rfl,_⟩:=r5.opn;have d4:=l3.trans l5;obtain⟨m5,e8,cs,ct⟩:∃ m5:PH,m5=(PH.mt.upd g1 o1).upd g2 o2/\m5 g1=some o1/\m5 g2=some o2:=⟨_,rfl,by rw[Ad _ _ al,Ab],Ab _ _ _⟩;rw[<-e8];have ap:CFS (F.scale H.c):=ok.d;have da:CFS (H.scale F.c):=ok.c;have ci:∀ k,SB ((F.scale H.c).s k+H.s k*F.c):=fun k=>by rw[A46];exact ok.e.s k
 have bi:∀ k,SB ((F.scale H.c).t k+H.t k*F.c):=fun k=>by rw[A46];exact ok.e.t k
 have di:∀ k:Par,SB ((fun _:Par=>(0:Rat)) k+F.s k*H.c):=fun k=>by show SB (0+F.s k*H.c);rw[A9f];exact ap.s k
 have dj:∀ k:Par×Par,SB ((fun _:Par×Par=>(0:Rat)) k+F.t k*H.c):=fun k=>by show SB (0+F.t k*H.c);rw[A9f];exact ap.t k
 have e3:D7 Ap KT u5 o1 (fun _=>0) 0:=h1.mono l5;have dx:D7 prV KO u5 o2 (fun _=>0) 0:=h2.mono l5;have f6:=d4;refine G.mapRange v1 ab Q 118 69 kV (.inl (d4 _ _ f1)) ?_;intro aq c8 em;have d0:g1≠aq:=fun e=>by subst e;rw[c8]at cs;cases cs
 have dq:g2≠aq:=fun e=>by subst e;rw[c8]at ct;cases ct
 refine G.l (ι:=List MapEntry×List ((Par)×Value)) (fun _=>[(2,.p 0 0),(3,.p 1 0),(4,.p 2 0),(5,.p 1001 0),(28,.v (.pointer (zA aq)))])
  (fun _=>[(0,⟨108,[bV vb,sV va vn vc,bV b0,sV az b3 b1,.v (.map (some v1)),.v (.map (some v2))]⟩),(1,⟨108,[bV wb,sV wa wn wc,bV b6,sV b5 b8 b7,.v (.map (some w1)),.v (.map (some w2))]⟩),(2,⟨108,[bF,sN,bF,sN,.v (.map none),.v (.map none)]⟩),(1001,⟨108,[bV b2,sV a2 x2 c2,bF,sV I P K,.v (.map (some g1)),.v (.map (some g2))]⟩)])
  (fun i u' V=>Gj Ap ab lv i.1 i.2/\V aq=some (.mapIter (some v1) Q (Ar i.1) Q)/\V g2=some o2/\∃ oo,V g1=some oo/\D7 Ap KT u' oo (Ek (fun _=>0) F.s H.c (i.2.map (·.1))) (0+i.2.length))
  (fun i=>lv.length-i.2.length) ([],[])
  ⟨Gj.nil _ _,Ab _ _ _,by rw[Ad _ _ dq];exact ct,_,by rw[Ad _ _ d0];exact cs,by
   have:Ek (fun _=>0) F.s H.c (([]:List ((Par)×Value)).map (·.1))=(fun _=>0):=by funext k;simp[Ek]
   dsimp only;rw[this];exact e3⟩ ?_
 rintro JA ⟨D,LA⟩ cm uA mA lA ⟨X,E,a0,oA,ah,bd⟩;simp only at X E a0 ah bd cm;have au:=d4.trans lA;refine G.mapNextL Bq.inj aq v1 ab Q lv D LA kV kV E (.inl (au _ _ f1)) bj cu cg X ?doneA ?nextA
 case nextA =>
  rintro⟨k,xv⟩ e hp hkn he hek hev hS';simp only at hkn hek hev;obtain⟨hx,ad⟩:=dc _ hp;simp only at hx ad;obtain⟨yb,ya,yn,yc,bn,bp,bo,rfl,_⟩:=hx.opn;refine G.mapEntry aq v1 ab Q D e kV (Ab _ _ _) (.inl (au _ _ f1)) bj he ?_;rw[hek,hev];refine G.c call28 (Gh (hx.mono au) (cz.mono au) (SB.ten (ok.a.s k)) (SB.ten ok.b.c)) ?_;intro v4 u4 a3 r4;obtain⟨b4,a4,x4,c4,ck,d7,cl,rfl,_⟩:=r4.opn;refine G.callG _ _ kV kV call109 (g:=g1) (o:=oA) (by rw[Ad _ _ d0];exact ah)
   (Oi (g2:=some g2) (y1:=b2) (y2:=(a2,x2,c2)) (y3:=false) (y4:=(I,P,K)) (bd.mono a3) r4 (ap.s k) (O3 (fun _=>SB.zero) di k) (by
    have:Ek (fun _=>0) F.s H.c (LA.map (·.1)) k=(fun _=>0) k:=by unfold Ek;rw[if_neg hkn]
    rw[this,A46];exact di k)) ?_
  intro v5 u5 o5 a5 a6;rw[Jo _ _ _ hkn]at a6;refine G.b (cm (D++[e],LA++[(k,_)]) _ _ _ cV ((lA.trans a3).trans a5)
   ⟨hS',by rw[Ad _ _ (Ne.symm d0),Ab],by rw[Ad _ _ (Ne.symm al),Ad _ _ dq];exact a0,o5,Ab _ _ _,by
    simpa[A3p] using a6⟩ (by have:=hS'.len;simp at this;dsimp only;simp;omega))
 case doneA =>
 intro C;rw[Me _ _ _ fun k hk=>dk k fun hm=>hk (by
  obtain⟨p,hp,rfl⟩:=A1b.1 hm;exact A1b.2 ⟨p,C p hp,rfl⟩)]at bd
 have eg:=X.len;have e4:=bd.congr (f':=(F.scale H.c).s) (fun k=>by show 0+F.s k*H.c=F.s k*H.c;rw[A9f]);have dy:=dx.mono lA;clear cm X E C bd;refine G.mapRange w1 ac W 118 69 kV (.inl (au _ _ e1)) ?_;intro ar ca eo;have d1:g1≠ar:=fun e=>by subst e;rw[ca]at ah;cases ah
 have dr:g2≠ar:=fun e=>by subst e;rw[ca]at a0;cases a0
 refine G.l (ι:=List MapEntry×List ((Par)×Value)) (fun _=>[(2,.p 0 0),(3,.p 1 0),(4,.p 2 0),(5,.p 1001 0),(43,.v (.pointer (zA ar)))])
  (fun _=>[(0,⟨108,[bV vb,sV va vn vc,bV b0,sV az b3 b1,.v (.map (some v1)),.v (.map (some v2))]⟩),(1,⟨108,[bV wb,sV wa wn wc,bV b6,sV b5 b8 b7,.v (.map (some w1)),.v (.map (some w2))]⟩),(2,⟨108,[bF,sN,bF,sN,.v (.map none),.v (.map none)]⟩),(1001,⟨108,[bV b2,sV a2 x2 c2,bF,sV I P K,.v (.map (some g1)),.v (.map (some g2))]⟩)])
  (fun i u' V=>Gj Ap ac lw i.1 i.2/\V ar=some (.mapIter (some w1) W (Ar i.1) W)/\V g2=some o2/\∃ oo,V g1=some oo/\D7 Ap KT u' oo (Ek (F.scale H.c).s H.s F.c (i.2.map (·.1))) (0+LA.length+i.2.length))
  (fun i=>lw.length-i.2.length) ([],[])
  ⟨Gj.nil _ _,Ab _ _ _,by rw[Ad _ _ dr];exact a0,_,by rw[Ad _ _ d1];exact ah,by
   have:Ek (F.scale H.c).s H.s F.c (([]:List ((Par)×Value)).map (·.1))=(F.scale H.c).s:=by funext k;simp[Ek]
   dsimp only;rw[this];exact e4⟩ ?_
 rintro JB ⟨D,LB⟩ cn uB mB lB ⟨X,E,a1,oB,ai,be⟩;simp only at X E a1 ai be cn;have av:=au.trans lB;refine G.mapNextL Bq.inj ar w1 ac W lw D LB kV kV E (.inl (av _ _ e1)) bl cv ch X ?doneB ?nextB
 case nextB =>
  rintro⟨k,xv⟩ e hp hkn he hek hev hS';simp only at hkn hek hev;obtain⟨hx,ad⟩:=df _ hp;simp only at hx ad;obtain⟨yb,ya,yn,yc,bn,bp,bo,rfl,_⟩:=hx.opn;refine G.mapEntry ar w1 ac W D e kV (Ab _ _ _) (.inl (av _ _ e1)) bl he ?_;rw[hek,hev];refine G.c call28 (Gh (hx.mono av) (cy.mono av) (SB.ten (ok.b.s k)) (SB.ten ok.a.c)) ?_;intro v4 u4 a3 r4;obtain⟨b4,a4,x4,c4,ck,d7,cl,rfl,_⟩:=r4.opn;refine G.callG _ _ kV kV call109 (g:=g1) (o:=oB) (by rw[Ad _ _ d1];exact ai)
   (Oi (g2:=some g2) (y1:=b2) (y2:=(a2,x2,c2)) (y3:=false) (y4:=(I,P,K)) (be.mono a3) r4 (da.s k) (O3 ap.s ci k) (by
    have:Ek (F.scale H.c).s H.s F.c (LB.map (·.1)) k=(F.scale H.c).s k:=by unfold Ek;rw[if_neg hkn]
    rw[this,A46];exact ci k)) ?_
  intro v5 u5 o5 a5 a6;rw[Jo _ _ _ hkn]at a6;refine G.b (cn (D++[e],LB++[(k,_)]) _ _ _ cV ((lB.trans a3).trans a5)
   ⟨hS',by rw[Ad _ _ (Ne.symm d1),Ab],by rw[Ad _ _ (Ne.symm al),Ad _ _ dr];exact a1,o5,Ab _ _ _,by
    simpa[A3p] using a6⟩ (by have:=hS'.len;simp at this;dsimp only;simp;omega))
 case doneB =>
 intro C;rw[Me _ _ _ fun k hk=>dm k fun hm=>hk (by
  obtain⟨p,hp,rfl⟩:=A1b.1 hm;exact A1b.2 ⟨p,C p hp,rfl⟩)]at be
 have eh:=X.len;have e5:=be.congr (f':=(F.mul H).s) (fun k=>by show F.s k*H.c+H.s k*F.c=H.s k*F.c+F.s k*H.c;rw[A46]);have dz:=dy.mono lB;clear cn X E C be;refine G.mapRange v2 ba ae 175 69 kV (.inl (av _ _ f2)) ?_;intro aj cb ep;have d2:g1≠aj:=fun e=>by subst e;rw[cb]at ai;cases ai
 have bw:g2≠aj:=fun e=>by subst e;rw[cb]at a1;cases a1
 refine G.l (ι:=List MapEntry×List ((Par×Par)×Value)) (fun _=>[(2,.p 0 0),(3,.p 1 0),(4,.p 2 0),(5,.p 1001 0),(58,.v (.pointer (zA aj)))])
  (fun _=>[(0,⟨108,[bV vb,sV va vn vc,bV b0,sV az b3 b1,.v (.map (some v1)),.v (.map (some v2))]⟩),(1,⟨108,[bV wb,sV wa wn wc,bV b6,sV b5 b8 b7,.v (.map (some w1)),.v (.map (some w2))]⟩),(2,⟨108,[bF,sN,bF,sN,.v (.map none),.v (.map none)]⟩),(1001,⟨108,[bV b2,sV a2 x2 c2,bF,sV I P K,.v (.map (some g1)),.v (.map (some g2))]⟩)])
  (fun i u' V=>Gj prV ba kv i.1 i.2/\V aj=some (.mapIter (some v2) ae (Ar i.1) ae)/\V g1=some oB/\∃ oo,V g2=some oo/\D7 prV KO u' oo (Ek (fun _=>0) F.t H.c (i.2.map (·.1))) (0+i.2.length))
  (fun i=>kv.length-i.2.length) ([],[])
  ⟨Gj.nil _ _,Ab _ _ _,by rw[Ad _ _ d2];exact ai,_,by rw[Ad _ _ bw];exact a1,by
   have:Ek (fun _=>0) F.t H.c (([]:List ((Par×Par)×Value)).map (·.1))=(fun _=>0):=by funext k;simp[Ek]
   dsimp only;rw[this];exact dz⟩ ?_
 rintro JC ⟨D,LC⟩ co uC mC lC ⟨X,E,R,oC,a8,bf⟩;simp only at X E R a8 bf co;have aw:=av.trans lC;refine G.mapNextL I1.inj aj v2 ba ae kv D LC kV kV E (.inl (aw _ _ f2)) bk cd cw X ?doneC ?nextC
 case nextC =>
  rintro⟨k,xv⟩ e hp hkn he hek hev hS';simp only at hkn hek hev;obtain⟨hx,ad⟩:=dd _ hp;simp only at hx ad;obtain⟨yb,ya,yn,yc,bn,bp,bo,rfl,_⟩:=hx.opn;refine G.mapEntry aj v2 ba ae D e kV (Ab _ _ _) (.inl (aw _ _ f2)) bk he ?_;rw[hek,hev];have Z:=ad.fix;refine G.pub 13003 175 [zI k.1.1,zS k.1.2,zI k.2.1,zS k.2.2] kV kV ?_;intro bq ea U;have q1:g1≠bq:=fun e=>by subst e;rw[Ad _ _ d2,R]at U;cases U
  have q2:g2≠bq:=fun e=>by subst e;rw[Ad _ _ bw,a8]at U;cases U
  have q3:aj≠bq:=fun e=>by subst e;rw[Ab]at U;cases U
  obtain⟨d5,d6⟩:=Aly (m:=(mC.upd aj (.mapIter (some v2) ae (Ar (D++[e])) ae)).upd bq (.cells [Value.int .i64 k.1.1,zS k.1.2,zI k.2.1,zS k.2.2].toArray 175 (0,0))) (Ab _ _ _);refine G.addrA 175 118 2 bq 0 0 2 kV kV kV kV oV<|G.v (some 2) d5<|G.addrA 175 118 2 bq 0 1 2 kV kV kV kV oV<|G.v (some 2) d6<|G.c call28 (Gh (hx.mono aw) (cz.mono aw) (SB.ten (ok.a.t k)) (SB.ten ok.b.c)) ?_;intro v4 u4 a3 r4;obtain⟨b4,a4,x4,c4,ck,d7,cl,rfl,_⟩:=r4.opn;refine G.callG _ _ kV kV call110 (g:=g2) (o:=oC) (by rw[Ad _ _ q2,Ad _ _ bw];exact a8)
   (H7 (g1:=some g1) (y1:=b2) (y2:=(a2,x2,c2)) (y3:=false) (y4:=(I,P,K)) (p:=k.1) (r:=k.2) (bf.mono a3) r4 (ap.t k) (by rw[Z];exact O3 (fun _=>SB.zero) dj k) (by
    have:Ek (fun _=>0) F.t H.c (LC.map (·.1)) k=(fun _=>0) k:=by unfold Ek;rw[if_neg hkn]
    rw[Z,this,A46];exact dj k)) ?_
  intro v5 u5 o5 a5 a6;rw[Z,Jo _ _ _ hkn]at a6;refine G.b (co (D++[e],LC++[(k,_)]) _ _ _ cV ((lC.trans a3).trans a5)
   ⟨hS',by rw[Ad _ _ (Ne.symm bw),Ad _ _ q3,Ab],by rw[Ad _ _ al,Ad _ _ q1,Ad _ _ d2];exact R,o5,Ab _ _ _,by
    simpa[A3p] using a6⟩ (by have:=hS'.len;simp at this;dsimp only;simp;omega))
 case doneC =>
 intro C;rw[Me _ _ _ fun k hk=>dl k fun hm=>hk (by
  obtain⟨p,hp,rfl⟩:=A1b.1 hm;exact A1b.2 ⟨p,C p hp,rfl⟩)]at bf
 have ei:=X.len;have e0:=bf.congr (f':=(F.scale H.c).t) (fun k=>by show 0+F.t k*H.c=F.t k*H.c;rw[A9f]);have e6:=e5.mono lC;clear co X E C bf;refine G.mapRange w2 bb af 175 69 kV (.inl (aw _ _ e2)) ?_;intro ak cc er;have d3:g1≠ak:=fun e=>by subst e;rw[cc]at R;cases R
 have bx:g2≠ak:=fun e=>by subst e;rw[cc]at a8;cases a8
 refine G.l (ι:=List MapEntry×List ((Par×Par)×Value)) (fun _=>[(2,.p 0 0),(3,.p 1 0),(4,.p 2 0),(5,.p 1001 0),(76,.v (.pointer (zA ak)))])
  (fun _=>[(0,⟨108,[bV vb,sV va vn vc,bV b0,sV az b3 b1,.v (.map (some v1)),.v (.map (some v2))]⟩),(1,⟨108,[bV wb,sV wa wn wc,bV b6,sV b5 b8 b7,.v (.map (some w1)),.v (.map (some w2))]⟩),(2,⟨108,[bF,sN,bF,sN,.v (.map none),.v (.map none)]⟩),(1001,⟨108,[bV b2,sV a2 x2 c2,bF,sV I P K,.v (.map (some g1)),.v (.map (some g2))]⟩)])
  (fun i u' V=>Gj prV bb kw i.1 i.2/\V ak=some (.mapIter (some w2) af (Ar i.1) af)/\V g1=some oB/\∃ oo,V g2=some oo/\D7 prV KO u' oo (Ek (F.scale H.c).t H.t F.c (i.2.map (·.1))) (0+LC.length+i.2.length))
  (fun i=>kw.length-i.2.length) ([],[])
  ⟨Gj.nil _ _,Ab _ _ _,by rw[Ad _ _ d3];exact R,_,by rw[Ad _ _ bx];exact a8,by
   have:Ek (F.scale H.c).t H.t F.c (([]:List ((Par×Par)×Value)).map (·.1))=(F.scale H.c).t:=by funext k;simp[Ek]
   dsimp only;rw[this];exact e0⟩ ?_
 rintro JD ⟨D,LD⟩ cp uD mD lD ⟨X,E,T,oD,aa,bg⟩;simp only at X E T aa bg cp;have ax:=aw.trans lD;refine G.mapNextL I1.inj ak w2 bb af kw D LD kV kV E (.inl (ax _ _ e2)) bm ce cx X ?doneD ?nextD
 case nextD =>
  rintro⟨k,xv⟩ e hp hkn he hek hev hS';simp only at hkn hek hev;obtain⟨hx,ad⟩:=dg _ hp;simp only at hx ad;obtain⟨yb,ya,yn,yc,bn,bp,bo,rfl,_⟩:=hx.opn;refine G.mapEntry ak w2 bb af D e kV (Ab _ _ _) (.inl (ax _ _ e2)) bm he ?_;rw[hek,hev];have Z:=ad.fix;refine G.pub 17003 175 [zI k.1.1,zS k.1.2,zI k.2.1,zS k.2.2] kV kV ?_;intro bq ea U;have q1:g1≠bq:=fun e=>by subst e;rw[Ad _ _ d3,T]at U;cases U
  have q2:g2≠bq:=fun e=>by subst e;rw[Ad _ _ bx,aa]at U;cases U
  have q3:ak≠bq:=fun e=>by subst e;rw[Ab]at U;cases U
  obtain⟨d5,d6⟩:=Aly (m:=(mD.upd ak (.mapIter (some w2) af (Ar (D++[e])) af)).upd bq (.cells [Value.int .i64 k.1.1,zS k.1.2,zI k.2.1,zS k.2.2].toArray 175 (0,0))) (Ab _ _ _);refine G.addrA 175 118 2 bq 0 0 2 kV kV kV kV oV<|G.v (some 2) d5<|G.addrA 175 118 2 bq 0 1 2 kV kV kV kV oV<|G.v (some 2) d6<|G.c call28 (Gh (hx.mono ax) (cy.mono ax) (SB.ten (ok.b.t k)) (SB.ten ok.a.c)) ?_;intro v4 u4 a3 r4;obtain⟨b4,a4,x4,c4,ck,d7,cl,rfl,_⟩:=r4.opn;refine G.callG _ _ kV kV call110 (g:=g2) (o:=oD) (by rw[Ad _ _ q2,Ad _ _ bx];exact aa)
   (H7 (g1:=some g1) (y1:=b2) (y2:=(a2,x2,c2)) (y3:=false) (y4:=(I,P,K)) (p:=k.1) (r:=k.2) (bg.mono a3) r4 (da.t k) (by rw[Z];exact O3 ap.t bi k) (by
    have:Ek (F.scale H.c).t H.t F.c (LD.map (·.1)) k=(F.scale H.c).t k:=by unfold Ek;rw[if_neg hkn]
    rw[Z,this,A46];exact bi k)) ?_
  intro v5 u5 o5 a5 a6;rw[Z,Jo _ _ _ hkn]at a6;refine G.b (cp (D++[e],LD++[(k,_)]) _ _ _ cV ((lD.trans a3).trans a5)
   ⟨hS',by rw[Ad _ _ (Ne.symm bx),Ad _ _ q3,Ab],by rw[Ad _ _ al,Ad _ _ q1,Ad _ _ d3];exact T,o5,Ab _ _ _,by
    simpa[A3p] using a6⟩ (by have:=hS'.len;simp at this;dsimp only;simp;omega))
 case doneD =>
 intro C;rw[Me _ _ _ fun k hk=>dp k fun hm=>hk (by
  obtain⟨p,hp,rfl⟩:=A1b.1 hm;exact A1b.2 ⟨p,C p hp,rfl⟩)]at bg
 have ej:=X.len;have d8:=bg.congr (f':=((H.scale F.c).add (F.scale H.c)).t) (fun k=>by show F.t k*H.c+H.t k*F.c=H.t k*F.c+F.t k*H.c;rw[A46]);have e7:=e6.mono lD;clear cp X E C bg;obtain⟨base,bh⟩:∃ base:Par×Par->Rat,base=((H.scale F.c).add (F.scale H.c)).t:=⟨_,rfl⟩;have ag:=ok.acc;rw[<-bh]at d8 ag;have dv:=ok.pr;have du:=ok.con;refine G.mapRange v1 ab Q 118 69 kV (.inl (ax _ _ f1)) ?_;intro it db f4;have i1:g1≠it:=fun e=>by subst e;rw[db]at T;cases T
 have i2:g2≠it:=fun e=>by subst e;rw[db]at aa;cases aa
 refine G.l (ι:=List MapEntry×List (Par×Value)) (fun _=>[(2,.p 0 0),(3,.p 1 0),(4,.p 2 0),(5,.p 1001 0),(94,.v (.pointer (zA it)))])
  (fun _=>[(0,⟨108,[bV vb,sV va vn vc,bV b0,sV az b3 b1,.v (.map (some v1)),.v (.map (some v2))]⟩),(1,⟨108,[bV wb,sV wa wn wc,bV b6,sV b5 b8 b7,.v (.map (some w1)),.v (.map (some w2))]⟩),(2,⟨108,[bF,sN,bF,sN,.v (.map none),.v (.map none)]⟩),(1001,⟨108,[bV b2,sV a2 x2 c2,bF,sV I P K,.v (.map (some g1)),.v (.map (some g2))]⟩)])
  (fun i u' V=>Gj Ap ab lv i.1 i.2/\V it=some (.mapIter (some v1) Q (Ar i.1) Q)/\V g1=some oB/\∃ Ps:List (Par×Par),Ps.Nodup/\(∀ x:Par×Par,x∈Ps↔x.1∈i.2.map (·.1)/\x.2∈lw.map (·.1))/\∃ ay,V g2=some ay/\D7 prV KO u' ay (fun k=>base k+Er F H Ps k) (0+LC.length+LD.length+i.2.length*lw.length))
  (fun i=>lv.length-i.2.length) ([],[])
  ⟨Gj.nil _ _,Ab _ _ _,by rw[Ad _ _ i1];exact T,[],mV,mV,oD,by rw[Ad _ _ i2];exact aa,(d8.congr fun k=>by simp only[Er];grind).up mV⟩ ?_
 rintro J ⟨D,L⟩ hJ u6 m6 l6 ⟨X,E,ao,Ps,d9,cq,ay,bt,hR⟩;simp only at X E ao cq bt hR hJ;have c5:=ax.trans l6;refine G.mapNextL Bq.inj it v1 ab Q lv D L kV kV E (.inl (c5 _ _ f1)) bj cu cg X ?done1 ?next1
 case next1 =>
  rintro⟨p,xv⟩ e hp hpn he hek hev hS';simp only at hpn hek hev;have hx:=(dc _ hp).1;simp only at hx;obtain⟨yb,ya,yn,yc,bn,bp,bo,rfl,_⟩:=hx.opn;refine G.mapEntry it v1 ab Q D e kV (Ab _ _ _) (.inl (c5 _ _ f1)) bj he ?_;rw[hek,hev];refine G.mapRange w1 ac W 118 69 kV (.inl (c5 _ _ e1)) ?_;intro am a7 ek;have j1:g1≠am:=fun e=>by subst e;rw[Ad _ _ i1,ao]at a7;cases a7
  have j2:g2≠am:=fun e=>by subst e;rw[Ad _ _ i2,bt]at a7;cases a7
  have k1:it≠am:=fun e=>by subst e;rw[Ab]at a7;cases a7
  refine G.l (ι:=List MapEntry×List (Par×Value)) (fun _=>[(2,.p 0 0),(3,.p 1 0),(4,.p 2 0),(5,.p 1001 0),(14,.p 21003 0),(15,.p 21004 0),(94,.v (.pointer (zA it))),(102,.v (.pointer (zA am)))])
   (fun _=>[(0,⟨108,[bV vb,sV va vn vc,bV b0,sV az b3 b1,.v (.map (some v1)),.v (.map (some v2))]⟩),(1,⟨108,[bV wb,sV wa wn wc,bV b6,sV b5 b8 b7,.v (.map (some w1)),.v (.map (some w2))]⟩),(2,⟨108,[bF,sN,bF,sN,.v (.map none),.v (.map none)]⟩),(1001,⟨108,[bV b2,sV a2 x2 c2,bF,sV I P K,.v (.map (some g1)),.v (.map (some g2))]⟩),(21003,⟨118,[iV p.1,tV p.2]⟩),(21004,⟨69,[bV yb,sV ya yn yc,bF,sV bn bp bo]⟩)])
   (fun i u' V=>Gj Ap ac lw i.1 i.2/\V am=some (.mapIter (some w1) W (Ar i.1) W)/\V it=some (.mapIter (some v1) Q (Ar (D++[e])) Q)/\V g1=some oB/\∃ Qs:List (Par×Par),Qs.Nodup/\(∀ x:Par×Par,x∈Qs↔(x.1∈L.map (·.1)/\x.2∈lw.map (·.1))\/(x.1=p/\x.2∈i.2.map (·.1)))/\∃ oi,V g2=some oi/\D7 prV KO u' oi (fun k=>base k+Er F H Qs k) (0+LC.length+LD.length+L.length*lw.length+i.2.length))
   (fun i=>lw.length-i.2.length) ([],[])
   ⟨Gj.nil _ _,Ab _ _ _,by rw[Ad _ _ k1,Ab],by rw[Ad _ _ j1,Ad _ _ i1];exact ao,Ps,d9,by intro x;rw[cq];simp,ay,by rw[Ad _ _ j2,Ad _ _ i2];exact bt,hR⟩ ?_
  rintro J2 ⟨D2,L2⟩ iJ ui mi c3 ⟨iS,cj,c1,bz,Qs,bs,br,oi,c0,iR⟩;simp only at iS cj c1 bz br c0 iR iJ;have c6:=c5.trans c3;refine G.mapNextL Bq.inj am w1 ac W lw D2 L2 kV kV cj (.inl (c6 _ _ e1)) bl cv ch iS ?done2 ?next2
  case next2 =>
   rintro⟨k,yv⟩ e2 hk hkn he2 hek2 hev2 iS';simp only at hkn hek2 hev2;have hy:=(df _ hk).1;simp only at hy;obtain⟨zb,za,zn,zc,eb,ed,ec,rfl,_⟩:=hy.opn;have dh:(p,k)∉Qs:=fun h=>by
    rcases (br _).1 h with h|h
    ·exact hpn h.1
    exact hkn h.2
   have an:(Qs++[(p,k)]).Nodup:=by
    rw[A4p];exact⟨bs,mV,fun a ha b hb e'=>dh (by simp at hb;rw[<-hb,<-e'];exact ha)⟩
   have c7:∀ x:Par×Par,x∈Qs++[(p,k)]↔(x.1∈L.map (·.1)/\x.2∈lw.map (·.1))\/(x.1=p/\x.2∈(L2++[(k,Value.agg #[.bool zb,.slice za zn zc,zL,.slice eb ed ec])]).map (·.1)):=fun x=>by
    obtain⟨x1,x2⟩:=x;rw[A1h,br];simp only[A1i,A1h,A2u,A7m,A12,A2i];constructor
    ·rintro ((h|⟨h1,h2⟩)|⟨h1,h2⟩)
     ·exact .inl h
     ·exact .inr ⟨h1,.inl h2⟩
     exact .inr ⟨h1,.inr h2⟩
    rintro (h|⟨h1,h2|h2⟩)
    ·exact .inl (.inl h)
    ·exact .inl (.inr ⟨h1,h2⟩)
    exact .inr ⟨h1,h2⟩
   refine G.mapEntry am w1 ac W D2 e2 kV (Ab _ _ _) (.inl (c6 _ _ e1)) bl he2 ?_;rw[hek2,hev2];refine G.c call28 (Gh (hx.mono c6) (hy.mono c6) (SB.ten (ok.a.s p)) (SB.ten (ok.b.s k))) ?_;intro v9 u9 l9 r9;obtain⟨b9,a9,n9,c9,ey,f8,f3,rfl,_⟩:=r9.opn;by_cases bu:p=k
   ·have Y:con F H (p,k)=F.s p*H.s k+F.s p*H.s k:=by unfold con;rw[if_pos bu]
    refine G.eqAgg 118 #[zI p.1,zS p.2] #[zI k.1,zS k.2] true kV kV kV (fun w=>by rw[<-decide_eq_true bu];exact Bq.eq p k w)<|G.c call26 (Pd r9 r9 (SB.ten (dv p k)) (SB.ten (dv p k))) ?_;intro fa f9 ds dw;obtain⟨ez,ex,f7,f0,ee,ew,ef,rfl,_⟩:=dw.opn;refine G.callG _ _ kV kV call110 (g:=g2) (o:=oi) (by rw[Ad _ _ j2];exact c0)
     (H7 (g1:=some g1) (y1:=b2) (y2:=(a2,x2,c2)) (y3:=false) (y4:=(I,P,K)) (p:=p) (r:=k) (iR.mono (l9.trans ds)) dw (by have:=du (p,k);rw[Y]at this;exact this) (ag Qs bs _) (by
      have:=ag (Qs++[(p,k)]) an (Ay p k);rw[Jt,if_pos rfl,Y]at this;rw[show (F.s p*H.s k+F.s p*H.s k)+(base (Ay p k)+Er F H Qs (Ay p k))=base (Ay p k)+((F.s p*H.s k+F.s p*H.s k)+Er F H Qs (Ay p k)) by grind];exact this)) ?_
    intro v8 u8 o8 l8 r8;refine G.b (iJ (D2++[e2],L2++[(k,_)]) _ _ _ cV ((c3.trans (l9.trans ds)).trans l8)
     ⟨iS',by rw[Ad _ _ (Ne.symm j2),Ab],by rw[Ad _ _ (Ne.symm i2),Ad _ _ k1];exact c1,by rw[Ad _ _ al,Ad _ _ j1];exact bz,Qs++[(p,k)],an,c7,o8,Ab _ _ _,?_⟩ (by have:=iS'.len;simp at this;dsimp only;simp;omega))
    refine (r8.congr fun j=>?_).up (by simp[A3p]);rw[Jt,Y];unfold Nh;by_cases e:j=Ay p k
    ·rw[if_pos e,if_pos e,e];grind
    rw[if_neg e,if_neg e]
   have Y:con F H (p,k)=F.s p*H.s k:=by unfold con;rw[if_neg bu]
   refine G.eqAgg 118 #[zI p.1,zS p.2] #[zI k.1,zS k.2] false kV kV kV (fun w=>by rw[<-decide_eq_false bu];exact Bq.eq p k w)<|G.callG _ _ kV kV call110 (g:=g2) (o:=oi) (by rw[Ad _ _ j2];exact c0)
    (H7 (g1:=some g1) (y1:=b2) (y2:=(a2,x2,c2)) (y3:=false) (y4:=(I,P,K)) (p:=p) (r:=k) (iR.mono (l9)) r9 (by have:=du (p,k);rw[Y]at this;exact this) (ag Qs bs _) (by
     have:=ag (Qs++[(p,k)]) an (Ay p k);rw[Jt,if_pos rfl,Y]at this;rw[show (F.s p*H.s k)+(base (Ay p k)+Er F H Qs (Ay p k))=base (Ay p k)+((F.s p*H.s k)+Er F H Qs (Ay p k)) by grind];exact this)) ?_
   intro v8 u8 o8 l8 r8;refine G.b (iJ (D2++[e2],L2++[(k,_)]) _ _ _ cV ((c3.trans (l9)).trans l8)
    ⟨iS',by rw[Ad _ _ (Ne.symm j2),Ab],by rw[Ad _ _ (Ne.symm i2),Ad _ _ k1];exact c1,by rw[Ad _ _ al,Ad _ _ j1];exact bz,Qs++[(p,k)],an,c7,o8,Ab _ _ _,?_⟩ (by have:=iS'.len;simp at this;dsimp only;simp;omega))
   refine (r8.congr fun j=>?_).up (by simp[A3p]);rw[Jt,Y];unfold Nh;by_cases e:j=Ay p k
   ·rw[if_pos e,if_pos e,e];grind
   rw[if_neg e,if_neg e]
  case done2 =>
  intro cr;refine G.b (hJ (D++[e],L++[(p,_)]) _ _ _ cV (l6.trans c3) ⟨hS',c1,bz,Qs,bs,fun x=>?_,oi,c0,iR.up ?_⟩ (by have:=hS'.len;simp at this;dsimp only;simp;omega))
  ·rw[br];simp only[A1i,A1h,A2u,A7m,A12];constructor
   ·rintro (h|⟨h1,h2⟩)
    ·exact⟨.inl h.1,h.2⟩
    obtain⟨y,hy,e'⟩:=A1b.1 h2;exact⟨.inr h1,A1b.2 ⟨y,iS.sub y hy,e'⟩⟩
   rintro⟨h1|h1,h2⟩
   ·exact .inl ⟨h1,h2⟩
   obtain⟨y,hy,e'⟩:=A1b.1 h2;exact .inr ⟨h1,A1b.2 ⟨y,cr y hy,e'⟩⟩
  have:=iS.len;simp only[A1d,A3f,A30,A16];omega
 case done1 =>
 intro C;refine G.drop ((PH.mt.upd g1 oB).upd g2 ay) kV (fun g o hg=>?_) ?_
 ·by_cases e:g=g2
  ·subst e;rw[Ab]at hg;cases hg;exact bt
  rw[Ad _ _ e]at hg;by_cases e:g=g1
  ·subst e;rw[Ab]at hg;cases hg;exact ao
  rw[Ad _ _ e]at hg;cases hg
 refine G.r (.agg #[.bool b2,.slice a2 x2 c2,zL,.slice I P K,.map (some g1),.map (some g2)]) ⟨b2,a2,x2,c2,false,I,P,K,g1,g2,oB,ay,rfl,r5.mono ((((lA.trans lB).trans lC).trans lD).trans l6),al,rfl,(e7.mono l6).up oV,(hR.congr fun k=>?_).up ?_⟩
 ·rw[Amk F H d9 (fun p q h1 h2=>(cq _).2 ⟨?_,?_⟩) k,bh]
  ·rfl
  ·have:p∈lv.map (·.1):=A3m fun h=>h1 (dk p h);obtain⟨y,hy,e'⟩:=A1b.1 this;exact A1b.2 ⟨y,C y hy,e'⟩
  exact A3m fun h=>h2 (dm q h)
 have h1:=X.len;have h2:L.length*lw.length<=N*M:=A25 oV e9;omega
section
variable {p q:Par×Par}{κ:Type}
def Aox {κ:Type}{c:κ->κ->Int}(F:Ord c){S:List (κ×Rat)}{k:κ}{q:Rat}{n:Nat}(R:Hb c (S.map (·.1)))(U:k∉S.map (·.1))
 (J:∀ j x,j<n->S[j]?=some x->c x.1 k<0) (K:∀ x,S[n]?=some x->¬ c x.1 k<0):Hb c ((S.take n++[(k,q)]++S.drop n).map (·.1)):=by
 have C:Hb c ((S.take n).map (·.1)++(S.drop n).map (·.1)):=by rw[<-A1i,A4h];exact R
 unfold Hb at C⊢;rw[A35]at C;obtain⟨W,I,X⟩:=C;have L:∀ a∈(S.take n).map (·.1),c a k<0:=fun a t=>by
  obtain⟨x,E,rfl⟩:=A1b.1 t;obtain⟨j,T,rfl⟩:=A2y E;rw[A1e]at T;refine J j _ oV ?_;rw[A7w,A01 oV]
 have Q:∀ b∈(S.drop n).map (·.1),c k b<0:=by
  cases hd:S.drop n with
  |nil=>intro b h;simp at h
  |cons x B =>
   rw[hd,A2u,A8y]at I;have E:S[n]?=some x:=by
    have:=congrArg (fun l=>l[0]?) hd;simpa using this
   have H:x.1≠k:=fun e=>U (A1b.2 ⟨x,A1k E,e⟩);have Y:=K x E;have h0:c k x.1<0:=by
    have V:=F.sym k x.1;have Z:c x.1 k≠0:=fun e=>H (F.eq _ _ e);rw[V];omega
   intro b h;rw[A2u,A1g]at h;rcases h with rfl|h
   ·exact h0
   exact F.trans _ _ _ h0 (I.1 b h)
 rw[A1i,A1i,A35,A35];refine⟨⟨W,mV,fun a t b h=>?_⟩,I,fun a t b h=>?_⟩
 ·simp at h;subst h;exact L a t
 rcases A1h.1 t with t|t
 ·exact X a t b h
 simp at t;subst t;exact Q b h
def Vy {α:Type}{S:List α}{x y:α}{n:Nat}:y∈S.take n++[x]++S.drop n↔y∈S\/y=x:=by
 have h:y∈S↔y∈S.take n\/y∈S.drop n:=by rw[<-A1h,A4h]
 rw[h];simp only[A1h,A12];constructor
 ·rintro ((a|a)|a)
  ·exact .inl (.inl a)
  ·exact .inr a
  exact .inl (.inr a)
 rintro ((a|a)|a)
 ·exact .inl (.inl a)
 ·exact .inr a
 exact .inl (.inr a)
structure R3 {κ:Type}(c:κ->κ->Int)(f:κ->Rat)(L:List κ)(S:List (κ×Rat)):Prop where
 srt:Hb c (S.map (·.1))
 val:∀ p∈S,p.2=f p.1/\p.2≠0
 mem:∀ k,k∈S.map (·.1)↔k∈L/\f k≠0
def R3.nil {κ:Type}{c:κ->κ->Int}{f:κ->Rat}:R3 c f [] []:=⟨List.Pairwise.nil,fun p hp=>by simp at hp,fun k=>mV⟩
def R3.skip {c:κ->κ->Int}{f:κ->Rat}{L:List κ}{S:List (κ×Rat)}{k:κ}(h:R3 c f L S)(h0:f k=0):R3 c f (L++[k]) S:=⟨h.srt,h.val,fun j=>by
 rw[h.mem,A1h,A12];constructor
 ·rintro⟨a,b⟩;exact⟨.inl a,b⟩
 rintro⟨a|rfl,b⟩
 ·exact⟨a,b⟩
 exact absurd h0 b⟩
def R3.put {κ:Type}{c:κ->κ->Int}(F:Ord c){f:κ->Rat}{L:List κ}{S:List (κ×Rat)}{k:κ}{n:Nat}(h:R3 c f L S)(h0:f k≠0)(I:k∉L)
 (C:∀ j x,j<n->S[j]?=some x->c x.1 k<0) (E:∀ x,S[n]?=some x->¬ c x.1 k<0):R3 c f (L++[k]) (S.take n++[(k,f k)]++S.drop n) :=
 ⟨Aox F h.srt (fun e=>I ((h.mem k).1 e).1) C E,fun p hp=>by
  rcases Vy.1 hp with e|rfl
  ·exact h.val p e
  ·exact⟨rfl,h0⟩,fun j=>by
  have:=h.mem j;constructor
  ·intro H;obtain⟨p,hp,rfl⟩:=A1b.1 H;rcases Vy.1 hp with e|rfl
   ·obtain⟨a,b⟩:=this.1 (A1b.2 ⟨p,e,rfl⟩);exact⟨A24 _ a,b⟩
   exact⟨mV,h0⟩
  rintro⟨a,b⟩;rcases A1h.1 a with e|e
  ·obtain⟨p,hp,t⟩:=A1b.1 (this.2 ⟨e,b⟩);exact A1b.2 ⟨p,Vy.2 (.inl hp),t⟩
  rw[A12]at e;exact A1b.2 ⟨(k,f k),Vy.2 (.inr rfl),e.symm⟩⟩
def R3.can {c:κ->κ->Int}{f:κ->Rat}{L:List κ}{S:List (κ×Rat)}(h:R3 c f L S)(j:∀ k,k∉L->f k=0):Can c f S:=⟨h.srt,h.val,fun k t=>by
 rcases Bas (k∈L) with e|e
 ·exact A3m fun C=>t ((h.mem k).2 ⟨e,C⟩)
 exact j k e⟩
def Ato (h:Bk p.1 q.1<0):Oc p q<0:=by unfold Oc;rw[if_pos oV];exact h
def Avb (h:¬ Bk p.1 q.1<0)(j:p.1≠q.1):¬ Oc p q<0:=by
 have t:Bk p.1 q.1≠0:=fun e=>j (Et.eq _ _ e);unfold Oc;rw[if_pos t];exact h
def Aux (h:p.1=q.1):Oc p q=Bk p.2 q.2:=by unfold Oc;rw[h,Et.refl,if_neg mV]
def P4 {u:PH}(x y:(Par×Par)×Rat)(r:Bool)(h:decide (Oc x.1 y.1<0)=r):zF 114 [D8 x,D8 y] u fun v _=>v=.bool r:=by
 obtain⟨⟨⟨a1,a2⟩,t,C⟩,q⟩:=x;obtain⟨⟨⟨c1,c2⟩,E,F⟩,K⟩:=y;refine Fn0.o func114 ?_;by_cases e:Bk (a1,a2) (c1,c2)<0
 ·rw[decide_eq_true (Ato e)]at h;subst h;refine G.c call113 (Fp (a1,a2) (c1,c2) true (decide_eq_true e)) ?_;rintro J I H rfl;exact G.z zT
 refine G.c call113 (Fp (a1,a2) (c1,c2) false (decide_eq_false e)) ?_;rintro J I H rfl;by_cases j:((a1,a2):Par)=(c1,c2)
 ·refine G.eqAgg 118 #[zI a1,zS a2] #[zI c1,zS c2] true kV kV kV (fun w=>by rw[<-decide_eq_true j];exact Bq.eq (a1,a2) (c1,c2) w) ?_;rw[Aux j]at h;refine G.c call113 (Fp (t,C) (E,F) r h) ?_;rintro Q L l2 rfl;cases r with
  |true=>exact G.z zT
  |false=>exact G.z zL
 rw[decide_eq_false (Avb e j)]at h;subst h;exact G.eqAgg 118 #[zI a1,zS a2] #[zI c1,zS c2] false kV kV kV (fun w=>by rw[<-decide_eq_false j];exact Bq.eq (a1,a2) (c1,c2) w)<|G.z zL
section
variable {P:Program} [A6 P] {fn:Func} {Post:Ce} {st:List KI×S} {u m:PH}
def G.sliceFromG (a:zP)(n c k sz:Nat)(h:Aj P (adv P st)=.slice (some sz) (.slice a n c) (some (zI k)) none none)(Y:k<=n)(Z:n<=c)
 (g:G P fn Post (nx (adv P st) (.slice (if c=k then a else a.map (·.add (k*sz))) (n-k) (c-k))) u m):G P fn Post st u m:=by
 refine G.ask h mV (fun U o C w hp=>?_) g;obtain⟨t,X,L,H,M,F,K,Q,R,T,j⟩:=Jx C;obtain⟨J,W,I,pos,after,E⟩:=o;simp only at F;subst F;unfold Ot at j;split at j
 ·rename_i e hu;have V:(0:Int)<=k/\(k:Int)<=n:=oV;simp only[execOp,K,Q,R,T];simp only[Instr.sliceAt,Sem.run_bind,run_underlying hu,Result.andThen_ok,Instr.slice,Instr.sliceBounds,Instr.sliceBound,asIntOf,Sem.run_pure,if_true,Option.isSome,Sem.run_ite,Bf j,V,and_self,A23]
 cases j
end
end
section
def ElP.fld {u:PH}{b off j:Nat}{xs:Array Value}{x:Value}(h:ElP u b off (.agg xs))(C:xs[j]?=some x)(t:x.cells = #[x]):ElP u b (off+j) x:=h.sub fun i y e=>by
 rw[t]at e
 match i,e with
 |0,e=>simp at e;subst e;exact C
 |i+1,e=>simp at e
def Ajn (P:Program):List KI×S->zV->List KI×S
 |st,[]=>st
 |st,v::l=>Ajn P (nx (adv P st) v) l
section
variable {P:Program} [A6 P] {fn:Func} {Post:Ce} {st:List KI×S} {u m:PH}
def G.joinF {ι:Type}(f:List KI×S->List KI×S)(T:ι->List (Nat×SV))(B:ι->List (Nat×Blk))(C:ι->PH->PH->Prop)(L:∀ i,Up (T i) (B i)=true)(Q:F2 (Ff P 200 (f st)).1=true)
 (E:∀ i h j,PH.le u h->C i h j->G P fn Post ((Ff P 200 (f st)).1,S.of (Ff P 200 (f st)).2.n (T i) (B i)) h j)
 (k:(∀ i e h j,(Ff P 200 e).1=(Ff P 200 (f st)).1->Cov (Ff P 200 (f st)).2.n (Ff P 200 e).2 (T i) (B i)->PH.le u h->C i h j->G P fn Post e h j)->G P fn Post st u m):G P fn Post st u m:=by
 refine k fun i e h j H F I J=>?_;have K:Cov (Ff P 200 e).2.n (Ff P 200 e).2 (T i) (B i):=⟨rfl,F.t,F.b⟩;refine G.canon (T i) (B i) (by rw[H];exact Q) (L i) K ?_;rw[H,F.n];exact E i h j I J
end
def Aeo {L:zW}(h:L.Nodup){i k:Nat}{x y:zB}(E:L[i]?=some x)(F:L[k]?=some y)(j:k≠i):y≠x:=fun e=>by
 subst e;obtain⟨a1,a2⟩:=A05.1 E;obtain⟨t,C⟩:=A05.1 F;rcases Nat.lt_or_gt_of_ne j with e|e
 ·exact absurd (C.trans a2.symm) (A3n.1 h k i t a1 e)
 exact absurd (a2.trans C.symm) (A3n.1 h i k a1 t e)
def Rr {u:PH}{s:zB}(h:Hn s=true):zF 107 [zS s] u fun v _=>v=zT:=by
 obtain⟨H,I⟩:=Aa2 h;obtain⟨c0,j⟩:∃ c,s[0]?=some c:=⟨_,A01 oV⟩;have K:=Y3 h j;refine Fn0.o func107<|G.eF s.length 0<|G.gF s.length 12<|G.idxS s 0 c0 kV j<|G.cmpG .lss .u8 (c0.toNat:Int) 97 false kV rfl (by simp only[Db,decide_eq_false_iff_not];omega)<|G.idxS s 0 c0 kV j<|G.cmpG .gtr .u8 (c0.toNat:Int) 122 false kV rfl (by simp only[Db,decide_eq_false_iff_not];omega)<|G.l (ι:=Nat) (fun i=>[(0,tV s),(3,iV i)]) (fun _=>[])
  (fun i T L=>i<=s.length/\L=PH.mt) (fun i=>s.length-i) 0 ⟨oV,rfl⟩ ?_
 rintro J i t U R l2 ⟨hi,rfl⟩;by_cases C:i<s.length
 ·refine G.lT i s.length ?_;obtain⟨b,e⟩:∃ b,s[i]?=some b:=⟨_,A01 C⟩;have Q:=Y3 h e;refine G.idxS s i b kV e ?_;by_cases F:97<=b.toNat
  ·exact G.cmpG .geq .u8 (b.toNat:Int) 97 true kV rfl (by simp only[Db,decide_eq_true_eq];omega)<|G.idxS s i b kV e<|G.cmpG .leq .u8 (b.toNat:Int) 122 true kV rfl (by simp only[Db,decide_eq_true_eq];omega)<|G.i i<|G.b (t (i+1) _ _ _ cV l2 ⟨oV,rfl⟩ oV)
  refine G.cmpG .geq .u8 (b.toNat:Int) 97 false kV rfl (by simp only[Db,decide_eq_false_iff_not];omega)<|G.idxS s i b kV e ?_;by_cases E:48<=b.toNat
  ·exact G.cmpG .geq .u8 (b.toNat:Int) 48 true kV rfl (by simp only[Db,decide_eq_true_eq];omega)<|G.idxS s i b kV e<|G.cmpG .leq .u8 (b.toNat:Int) 57 true kV rfl (by simp only[Db,decide_eq_true_eq];omega)<|G.i i<|G.b (t (i+1) _ _ _ cV l2 ⟨oV,rfl⟩ oV)
  exact G.cmpG .geq .u8 (b.toNat:Int) 48 false kV rfl (by simp only[Db,decide_eq_false_iff_not];omega)<|G.idxS s i b kV e<|G.cmpG .eql .u8 (b.toNat:Int) 45 true kV rfl (by simp only[Db,decide_eq_true_eq];omega)<|G.i i<|G.b (t (i+1) _ _ _ cV l2 ⟨oV,rfl⟩ oV)
 obtain rfl:i=s.length:=oV;exact G.lF s.length s.length<|G.z zT
def T2 {u:PH}{v:Value}{T:List (List UInt8×Nat)}{R:List Br}{F:List Al}{lab:Int}(h:H5 u v T R F lab)(ok:Bl u T R F lab) :
 Fn0 prog 45 [v] u fun r _=>r=.int .i64 0:=by
 obtain⟨xa,xc,xb,X,xe,xf,rfl,hT,hR,hF⟩:=h;have t1:=ok.t1;have t2:=ok.t2;have r1:=ok.r1;have r2:=ok.r2;have f2:=ok.f2;have lo:=ok.l1;have hi:lab<T.length:=by
  rcases A5q lab 0 with aq|bg
  ·omega
  obtain⟨n,hn⟩:=ok.l2 lab.toNat oV;obtain⟨hk,_⟩:=A05.1 hn;omega
 refine Fn0.o func45<|G.eF T.length 0<|G.gF T.length 12<|G.eF R.length 0<|G.gF R.length 6<|G.gF F.length 8<|G.l (ι:=Nat) (fun i=>[(1,.p 0 0),(49,sV xa T.length xc),(50,iV T.length),(51,iV i)])
  (fun _=>[(0,⟨30,[sV xa T.length xc,sV xb R.length X,sV xe F.length xf,iV lab]⟩)])
  (fun i u' U=>i<=T.length/\U=PH.mt) (fun i=>T.length-i) 0 ⟨oV,rfl⟩ ?_
 rintro J i hJ u1 m1 l1 ⟨bo,rfl⟩;by_cases aq:i<T.length
 ·refine G.lT i T.length ?_;obtain⟨x,an⟩:∃ x,T[i]?=some x:=⟨_,A01 aq⟩;have b6:=A1k an;obtain⟨bi,bj⟩:=ok.att.kind x b6;have C:=ok.att.names.word x.1 (A1b.2 ⟨x,b6,rfl⟩);have W:(T.map (·.1))[i]?=some x.1:=by rw[A1a,an];rfl
  obtain⟨K,V,rfl,ea⟩:=Ac.at' (hT.mono l1) (j:=i) (e:=D9 x) (by simp[an]);obtain⟨xn,xk⟩:=x;simp only at bi bj C W;refine G.a K V T.length xc i 2 aq<|G.lU (some 2) K (V+i*2) (.agg #[.string (mkS xn),.int .i64 xk]) ea<|G.c call107 (Rr C) ?_;rintro v2 u2 l2 rfl;refine G.l (ι:=Nat) (fun k=>[(1,.p 0 0),(3,iV i),(4,.p 5003 0),(5,iV k),(49,sV (some ⟨K,V,none⟩) T.length xc),(50,iV T.length),(51,iV i)])
   (fun _=>[(0,⟨30,[sV (some ⟨K,V,none⟩) T.length xc,sV xb R.length X,sV xe F.length xf,iV lab]⟩),(5003,⟨96,[tV xn,iV xk]⟩)])
   (fun k u' U=>k<=i/\U=PH.mt) (fun k=>i-k) 0 ⟨oV,rfl⟩ ?_
  rintro J2 k E u3 m3 l3 ⟨hk,rfl⟩;by_cases ap:k<i
  ·refine G.lT k i ?_;obtain⟨y,a1⟩:∃ y,T[k]?=some y:=⟨_,A01 oV⟩;have a5:(T.map (·.1))[k]?=some y.1:=by rw[A1a,a1];rfl
   have aa:=Aeo ok.att.names.nodup W a5 oV;obtain⟨_,_,e',ek⟩:=Ac.at' (hT.mono ((l1.trans l2).trans l3)) (j:=k) (e:=D9 y) (by simp[a1]);cases e';exact G.a K V T.length xc k 2 oV<|G.f 96 K (V+k*2) 0 0<|G.lU none K (V+k*2+0) (.string (mkS y.1)) (ek.fld rfl rfl)<|G.w y.1 xn aa<|G.i k<|G.b (E (k+1) _ _ _ cV l3 ⟨oV,rfl⟩ oV)
  obtain rfl:k=i:=oV;exact G.lF k k<|G.lF xk 1<|G.gF xk 3<|G.i k<|G.b (hJ (k+1) _ _ _ cV ((l1.trans l2).trans l3) ⟨oV,rfl⟩ oV)
 obtain rfl:i=T.length:=oV;refine G.lF T.length T.length ?_;clear hJ;refine G.make 4 1 1 (.bool false) T.length kV rfl rfl oV oV oV ?_;rintro v1 mA au ⟨ad,rfl⟩;obtain⟨g,rfl,_⟩:=au.some';refine G.l (ι:=Nat×List Bool) (fun i=>[(1,.p 0 0),(6,sV (some ⟨g,0,none⟩) T.length T.length),(88,sV xb R.length X),(89,iV R.length),(90,iV i.1)])
  (fun _=>[(0,⟨30,[sV xa T.length xc,sV xb R.length X,sV xe F.length xf,iV lab]⟩)])
  (fun i u' U=>i.1<=R.length/\i.2.length=T.length/\(∀ r∈R.take i.1,∀ q∈r.2.1,i.2[q]?=some true)/\Af PH.mt U (.slice (some ⟨g,0,none⟩) T.length T.length) 4 1 (i.2.map Value.bool)) (fun i=>R.length-i.1) (0,List.replicate T.length false)
  ⟨mV,mV,mV,by rw[A8z];exact au⟩ ?_
 rintro J ⟨i,L⟩ hJ u2 m2 l2 ⟨bh,hL,a0,aj⟩;simp only at bh hL a0 aj hJ;have ac:=l1.trans l2;by_cases af:i<R.length
 ·refine G.lT i R.length ?_;obtain⟨q,a8⟩:∃ q,R[i]?=some q:=⟨_,A01 af⟩;have I:=A1k a8;have b4:R.take (i+1)=R.take i++[q]:=by rw[A1n,a8];rfl
  have C:=ok.rel.names.word q.1 (A1b.2 ⟨q,I,rfl⟩);have W:(R.map (·.1))[i]?=some q.1:=by rw[A1a,a8];rfl
  obtain⟨K,V,rfl,ea⟩:=Ac.at' (hR.mono ac) (j:=i) (e:=Hs q) (by simp[a8]);obtain⟨qs,t,qa,qc⟩:=q;have aa:t≠[]:=ok.rel.ne _ I;have bk:∀ p∈t,p<T.length:=ok.rel.lt _ I;have bw:t.length<=1000:=ok.rel.len _ I;have ax:∀ (k:Nat) x y,t[k]?=some x->t[k+1]?=some y->x<y:=ok.rel.asc _ I;have b3:Ac u2 (.slice qa t.length qc) 1 (Ai t):=(ok.rel.at' _ I).mono ac;have bu:0<t.length:=A4f.2 aa;simp only at C W;refine G.a K V R.length X i 2 af<|G.lU (some 2) K (V+i*2) (.agg #[.string (mkS qs),.slice qa t.length qc]) ea<|G.c call107 (Rr C) ?_;rintro v3 u3 l3 rfl;refine G.l (ι:=Nat) (fun k=>[(1,.p 0 0),(6,sV (some ⟨g,0,none⟩) T.length T.length),(7,iV i),(8,.p 19003 0),(9,iV k),(88,sV (some ⟨K,V,none⟩) R.length X),(89,iV R.length),(90,iV i)])
   (fun _=>[(0,⟨30,[sV xa T.length xc,sV (some ⟨K,V,none⟩) R.length X,sV xe F.length xf,iV lab]⟩),(19003,⟨98,[tV qs,sV qa t.length qc]⟩)])
   (fun k u' U=>k<=i/\U=m2) (fun k=>i-k) 0 ⟨oV,rfl⟩ ?_
  rintro J2 k E u4 m4 l4 ⟨hk,rfl⟩;by_cases ap:k<i
  ·refine G.lT k i ?_;obtain⟨y,a1⟩:∃ y,R[k]?=some y:=⟨_,A01 oV⟩;have a5:(R.map (·.1))[k]?=some y.1:=by rw[A1a,a1];rfl
   have b0:=Aeo ok.rel.names.nodup W a5 oV;obtain⟨_,_,e',ek⟩:=Ac.at' (hR.mono ((ac.trans l3).trans l4)) (j:=k) (e:=Hs y) (by simp[a1]);cases e';exact G.a K V R.length X k 2 oV<|G.f 98 K (V+k*2) 0 0<|G.lU none K (V+k*2+0) (.string (mkS y.1)) (ek.fld rfl rfl)<|G.w y.1 qs b0<|G.i k<|G.b (E (k+1) _ _ _ cV l4 ⟨oV,rfl⟩ oV)
  obtain rfl:k=i:=oV;refine G.lF k k ?_;clear E;refine G.eF t.length 0<|G.l (ι:=Nat×List Bool) (fun j=>[(1,.p 0 0),(6,sV (some ⟨g,0,none⟩) T.length T.length),(8,.p 19003 0),(88,sV (some ⟨K,V,none⟩) R.length X),(89,iV R.length),(90,iV k),(118,sV qa t.length qc),(119,iV t.length),(120,iV j.1)])
   (fun _=>[(0,⟨30,[sV xa T.length xc,sV (some ⟨K,V,none⟩) R.length X,sV xe F.length xf,iV lab]⟩),(19003,⟨98,[tV qs,sV qa t.length qc]⟩)])
   (fun j u' U=>j.1<=t.length/\j.2.length=T.length/\(∀ r∈R.take k,∀ q∈r.2.1,j.2[q]?=some true)/\(∀ q∈t.take j.1,j.2[q]?=some true)/\Af PH.mt U (.slice (some ⟨g,0,none⟩) T.length T.length) 4 1 (j.2.map Value.bool)) (fun j=>t.length-j.1) (0,L)
   ⟨mV,hL,a0,mV,aj⟩ ?_
  rintro J2 ⟨j,L2⟩ E u6 m6 l6 ⟨hj,am,Y,Q,ak⟩;simp only at hj am Y Q ak E;have b7:=(l3.trans l4).trans l6;have a6:=b3.mono b7;by_cases ah:j<t.length
  ·refine G.lT j t.length ?_;obtain⟨p,ar⟩:∃ p,t[j]?=some p:=⟨_,A01 ah⟩;have bl:p<T.length:=bk _ (A1k ar);have b5:t.take (j+1)=t.take j++[p]:=by rw[A1n,ar];rfl
   obtain⟨bq,oq,rfl,eq⟩:=Ac.at' a6 (j:=j) (e:=.int .i64 p) (by simp[Ai,ar]);refine G.a bq oq t.length qc j 1 ah<|G.lU none bq (oq+j*1) (.int .i64 p) eq<|G.lF p 0<|G.hF p T.length<|G.a g 0 T.length T.length p 1 bl<|G.storeA 1 PH.mt (L2.map Value.bool) g T.length T.length p (.bool true) kV ak (by rw[A03];omega) rfl rfl ?_;intro m7 av;rw[Sd]at av;refine G.i j ?_;have a2:∀ q,L2[q]?=some true->(L2.set p true)[q]?=some true:=fun q hq=>by
    rw[A1z];split
    ·subst_vars;rw[if_pos oV]
    exact hq
   exact G.b (E (j+1,L2.set p true) _ _ _ cV l6 ⟨dV,by simp[am],fun r hr q hq=>a2 q (Y r hr q hq),by
    intro q hq;dsimp only at hq⊢;rw[b5,A1h,A12]at hq;rcases hq with hq|rfl
    ·exact a2 q (Q q hq)
    rw[A1z];simp;omega,av⟩ dV)
  obtain rfl:j=t.length:=oV;refine G.lF t.length t.length ?_;clear E;rw[A15]at Q;refine G.l (ι:=Nat) (fun j=>[(1,.p 0 0),(6,sV (some ⟨g,0,none⟩) T.length T.length),(8,.p 19003 0),(12,iV (j+1:Nat)),(88,sV (some ⟨K,V,none⟩) R.length X),(89,iV R.length),(90,iV k)])
   (fun _=>[(0,⟨30,[sV xa T.length xc,sV (some ⟨K,V,none⟩) R.length X,sV xe F.length xf,iV lab]⟩),(19003,⟨98,[tV qs,sV qa t.length qc]⟩)])
   (fun j u' U=>j+1<=t.length/\U=m6) (fun j=>t.length-j) 0
   ⟨oV,rfl⟩ ?_
  rintro J3 j bd u8 m8 l8 ⟨bs,rfl⟩;have a7:=a6.mono l8;by_cases ai:j+1<t.length
  ·refine G.lT (j+1:Nat) t.length ?_;obtain⟨H,b1⟩:∃ p,t[j]?=some p:=⟨_,A01 oV⟩;obtain⟨p2,b2⟩:∃ p,t[j+1]?=some p:=⟨_,A01 ai⟩;have a4:=ax j _ _ b1 b2;obtain⟨bq,oq,rfl,b9⟩:=Ac.at' a7 (j:=j+1) (e:=.int .i64 p2) (by simp[Ai,b2]);obtain⟨_,_,e',b8⟩:=Ac.at' a7 (j:=j) (e:=.int .i64 H) (by simp[Ai,b1]);cases e';exact G.a bq oq t.length qc (j+1) 1 ai<|G.lU none bq (oq+(j+1)*1) (.int .i64 p2) b9<|G.s (j+1:Nat) 1 j<|G.a bq oq t.length qc j 1 oV<|G.lU none bq (oq+j*1) (.int .i64 H) b8<|G.kF p2 H<|G.p (j+1:Nat) 1 (j+1+1:Nat)<|G.b (bd (j+1) _ _ _ cV l8 ⟨oV,rfl⟩ oV)
  refine G.lF (j+1:Nat) t.length<|G.i k ?_;exact G.b (hJ (k+1,L2) _ _ _ cV ((l2.trans b7).trans l8) ⟨dV,am,by
   intro r hr q hq;dsimp only at hr hq⊢;rw[b4,A1h,A12]at hr;rcases hr with hr|rfl
   ·exact Y r hr q hq
   exact Q q hq,ak⟩ dV)
 obtain rfl:i=R.length:=oV;refine G.lF R.length R.length ?_;clear hJ;rw[A15]at a0;refine G.l (ι:=Nat) (fun i=>[(1,.p 0 0),(6,sV (some ⟨g,0,none⟩) T.length T.length),(156,sV (some ⟨g,0,none⟩) T.length T.length),(157,iV T.length),(158,iV i)])
  (fun _=>[(0,⟨30,[sV xa T.length xc,sV xb R.length X,sV xe F.length xf,iV lab]⟩)])
  (fun i u' U=>i<=T.length/\U=m2) (fun i=>T.length-i) 0 ⟨oV,rfl⟩ ?_
 rintro J i hJ u3 m3 l3 ⟨bp,rfl⟩;by_cases a4:i<T.length
 ·refine G.lT i T.length ?_;have be:L[i]?=some true:=by
   obtain⟨r,hr,hq⟩:=ok.rel.all i a4;exact a0 r hr i hq
  exact G.a g 0 T.length T.length i 1 a4<|G.lM none g (0+i*1) (.bool true) (aj.el (by rw[A1a,be];rfl))<|G.i i<|G.b (hJ (i+1) _ _ _ cV l3 ⟨oV,rfl⟩ oV)
 obtain rfl:i=T.length:=oV;refine G.lF T.length T.length ?_;clear hJ;have bm:=ac.trans l3;refine G.l (ι:=Nat) (fun i=>[(1,.p 0 0),(6,sV (some ⟨g,0,none⟩) T.length T.length),(166,sV xe F.length xf),(167,iV F.length),(168,iV i)])
  (fun _=>[(0,⟨30,[sV xa T.length xc,sV xb R.length X,sV xe F.length xf,iV lab]⟩)])
  (fun i u' U=>i<=F.length/\U=m3) (fun i=>F.length-i) 0 ⟨oV,rfl⟩ ?_
 rintro J i hJ u4 m4 l4 ⟨br,rfl⟩;have ae:=bm.trans l4;by_cases ag:i<F.length
 ·refine G.lT i F.length ?_;obtain⟨f,al⟩:∃ f,F[i]?=some f:=⟨_,A01 ag⟩;have bf:=A1k al;obtain⟨fn,fk,ay,a3,az⟩:=ok.feat.ok f bf;obtain⟨a9,_⟩:=A05.1 ay;have W:(F.map (·.1))[i]?=some f.1:=by rw[A1a,al];rfl
  obtain⟨fb,fo,rfl,ef⟩:=Ac.at' (hF.mono ae) (j:=i) (e:=Cm f) (by simp[al]);obtain⟨ab,ao,rfl,ea⟩:=Ac.at' (hT.mono ae) (j:=f.1) (e:=D9 (fn,fk)) (by simp[ay]);obtain⟨H,p2,p3⟩:=f;simp only at a3 az a9 W ea;refine G.a fb fo F.length xf i 3 ag<|G.lU (some 3) fb (fo+i*3) (.agg #[.int .i64 H,.int .i64 p2,.int .i64 p3]) ef<|G.lF H 0<|G.hF H T.length<|G.joinF (ι:=Unit) (fun st=>Ip prog (Ajn prog st [.bool false,.bool true,.bool true,undef,undef,undef,.bool true])) (fun _=>[(1,.p 0 0),(6,sV (some ⟨g,0,none⟩) T.length T.length),(15,iV i),(16,.p 50003 0),(166,sV (some ⟨fb,fo,none⟩) F.length xf),(167,iV F.length),(168,iV i)])
   (fun _=>[(0,⟨30,[sV (some ⟨ab,ao,none⟩) T.length xc,sV xb R.length X,sV (some ⟨fb,fo,none⟩) F.length xf,iV lab]⟩),(50003,⟨100,[iV H,iV p2,iV p3]⟩)])
   (fun _ u' U=>u'=u4/\U=m4) (fun _=>kV) kV ?tail ?way
  case way =>
   intro Z;rcases a3 with ⟨rfl,rfl,bt⟩|⟨rfl,rfl,rfl⟩
   ·refine G.eT (1:Nat) 1 ?_;rcases (by omega:p3=0\/p3=1) with rfl|rfl
    ·refine G.eT (0:Nat) 0<|G.a ab ao T.length xc H 2 a9<|G.f 96 ab (ao+H*2) 1 1<|G.lU none ab (ao+H*2+1) (.int .i64 (2:Nat)) (L9 ea)<|G.eT (2:Nat) 2<|G.eF (1:Nat) 2<|G.pastI ?_;exact Z () _ _ _ kV cV (PH.le_refl _) ⟨rfl,rfl⟩
    refine G.eF (1:Nat) 0<|G.eT (1:Nat) 1<|G.a ab ao T.length xc H 2 a9<|G.f 96 ab (ao+H*2) 1 1<|G.lU none ab (ao+H*2+1) (.int .i64 (2:Nat)) (L9 ea)<|G.eT (2:Nat) 2<|G.eF (1:Nat) 2<|G.pastI ?_;exact Z () _ _ _ kV cV (PH.le_refl _) ⟨rfl,rfl⟩
   refine G.eF (2:Nat) 1<|G.eT (2:Nat) 2<|G.eT (0:Nat) 0<|G.a ab ao T.length xc H 2 a9<|G.f 96 ab (ao+H*2) 1 1<|G.lU none ab (ao+H*2+1) (.int .i64 (3:Nat)) (L9 ea)<|G.eT (3:Nat) 3<|G.pastI ?_;exact Z () _ _ _ kV cV (PH.le_refl _) ⟨rfl,rfl⟩
  rintro _ u5 m5 _ ⟨rfl,rfl⟩;refine G.l (ι:=Nat) (fun k=>[(1,.p 0 0),(6,sV (some ⟨g,0,none⟩) T.length T.length),(15,iV i),(16,.p 50003 0),(19,iV k),(166,sV (some ⟨fb,fo,none⟩) F.length xf),(167,iV F.length),(168,iV i)])
   (fun _=>[(0,⟨30,[sV (some ⟨ab,ao,none⟩) T.length xc,sV xb R.length X,sV (some ⟨fb,fo,none⟩) F.length xf,iV lab]⟩),(50003,⟨100,[iV H,iV p2,iV p3]⟩)])
   (fun k u' U=>k<=i/\U=m5) (fun k=>i-k) 0 ⟨oV,rfl⟩ ?_
  rintro J2 k E u6 m6 l6 ⟨hk,rfl⟩;by_cases ap:k<i
  ·refine G.lT k i ?_;obtain⟨y,aw⟩:∃ y,F[k]?=some y:=⟨_,A01 oV⟩;have a5:(F.map (·.1))[k]?=some y.1:=by rw[A1a,aw];rfl
   have aa:y.1≠H:=fun e=>Nat.ne_of_lt ap (Yu ok.feat.nodup a5 (by rw[W,e]));obtain⟨_,_,e',ek⟩:=Ac.at' (hF.mono (ae.trans l6)) (j:=k) (e:=Cm y) (by simp[aw]);cases e';exact G.a fb fo F.length xf k 3 oV<|G.f 100 fb (fo+k*3) 0 0<|G.lU none fb (fo+k*3+0) (.int .i64 y.1) (ek.fld rfl rfl)<|G.eF y.1 H<|G.i k<|G.b (E (k+1) _ _ _ cV l6 ⟨oV,rfl⟩ oV)
  obtain rfl:k=i:=oV;exact G.lF k k<|G.eF' H lab az<|G.i k<|G.b (hJ (k+1) _ _ _ cV (l4.trans l6) ⟨oV,rfl⟩ oV)
 obtain rfl:i=F.length:=oV;refine G.lF F.length F.length<|G.drop PH.mt kV (PH.mt_le _)<|G.lF lab (-1)<|G.hF lab T.length ?_;rcases A5q lab 0 with bn|bg
 ·exact G.hF lab 0<|G.z (.int .i64 0)
 refine G.hT lab 0 ?_;obtain⟨l,rfl⟩:∃ l:Nat,lab=(l:Int):=⟨lab.toNat,oV⟩;obtain⟨n,hn⟩:=ok.l2 l rfl;obtain⟨bb,ob,rfl,eb⟩:=Ac.at' (hT.mono ae) (j:=l) (e:=D9 (n,2)) (by simp[hn]);exact G.a bb ob T.length xc l 2 oV<|G.f 96 bb (ob+l*2) 1 1<|G.lU none bb (ob+l*2+1) (.int .i64 (2:Nat)) (L9 eb)<|G.nF (2:Nat) 2<|G.z (.int .i64 0)
end
section
variable {u:PH}
def Aup {l:zK}{i:Nat}(h:i<l.length):l.drop i=l.getD i 0::l.drop (i+1):=by
 rw[A5z h];simp[A02,A01 h]
def Afi (l:zK):∀ k,val (l.drop k)<=val l:=by
 induction l with
 |nil=>intro k;simp
 |cons a l ih =>
  intro k;cases k with
  |zero=>simp
  |succ k =>
   have:=ih k;simp only[List.drop_succ_cons,val];omega
def Pi {z:Int}(hz:z.natAbs<1000000000000000000):zF 183 [zS (Lib.itoa z)] u fun v _=>v=.tuple #[zI z,zT]:=by
 have F:=Jk hz;refine Fn0.o func183<|G.c call144 (Tl F) ?_;rintro v1 u1 l1 rfl;refine G.c call77 (Oh F) ?_;intro v2 u2 l2 k2;obtain⟨b,a,n,c,rfl,P,hi⟩:=k2.opn;obtain⟨rfl,hc⟩:=hi.len;refine G.c call67 (Ac6 (n:=4611686018427387904) oV oV) ?_;intro v3 u3 U k3;obtain⟨b',a',n',c',rfl,Y,C⟩:=k3.opn;obtain⟨rfl,Z⟩:=C.len;have H:nl z.natAbs<=400:=Bd F;have T:nl (4611686018427387904:Int).natAbs<=400:=Bd jV;refine G.c call151 (Lx (hi.mono U) C oV oV) ?_;rintro v4 u4 l4 rfl;have hs:sgn (((z.natAbs:Nat):Int)-(((4611686018427387904:Int).natAbs:Nat):Int))<=0:=by
  unfold sgn;have:((4611686018427387904:Int).natAbs:Int)=4611686018427387904:=fV;split
  ·omega
  split<;>omega
 refine G.gF (sgn (((z.natAbs:Nat):Int)-(((4611686018427387904:Int).natAbs:Nat):Int))) 0 ?_;have R:(Aa z.natAbs).length<=400:=H;refine G.s ((Aa z.natAbs).length:Int) 1 ((Aa z.natAbs).length-1:Int)<|G.l (ι:=Int×Nat) (fun i=>[(4,.p 3002 0),(6,iV i.2),(7,iV i.1)]) (fun _=>[(3002,⟨67,[bV b,sV a (Aa z.natAbs).length c]⟩)])
  (fun i u' m'=>-1<=i.1/\i.1<(Aa z.natAbs).length/\i.2=val ((Aa z.natAbs).drop (i.1+1).toNat)/\m'=PH.mt) (fun i=>(i.1+1).toNat) (((Aa z.natAbs).length-1:Int),0) ⟨dV,dV,by
   dsimp only;rw[show (((Aa z.natAbs).length:Int)-1+1).toNat=(Aa z.natAbs).length by omega,List.drop_length];rfl,rfl⟩ ?_
 rintro J ⟨i,s⟩ L u5 m5 V ⟨W,X,h,rfl⟩;simp only at W X h L;have E:=Am z.natAbs;by_cases a0:0<=i
 ·obtain⟨k,rfl⟩:∃ k:Nat,i=(k:Int):=⟨i.toNat,oV⟩;have t:k<(Aa z.natAbs).length:=oV;rw[show ((k:Int)+1).toNat=k+1 by omega]at h;have m:=Aup t;have j:=Afi (Aa z.natAbs) k;rw[E,m]at j;simp only[val]at j;rw[<-h]at j;refine G.hT k 0<|G.mul (s:Int) 1000000000 ((s*1000000000:Nat):Int) kV oV oV oV ?_;obtain⟨bb,off,rfl,e⟩:=(hi.mono ((U.trans l4).trans V)).at t;refine G.N (Aa z.natAbs).length c t e ?_;generalize hg:(Aa z.natAbs).getD k 0=d at m j;refine G.p (s*1000000000:Nat) d (s*1000000000+d:Nat)<|G.s k 1 ((k:Int)-1) ?_;exact G.b (L ((k:Int)-1,s*1000000000+d) _ _ _ cV V ⟨dV,dV,by
   dsimp only;rw[show ((k:Int)-1+1).toNat=k by omega,m];simp only[val];rw[<-h];omega,rfl⟩ dV)
 obtain rfl:i = -1:=oV;refine G.hF (-1) 0 ?_;have I:s=z.natAbs:=by rw[h,show ((-1:Int)+1).toNat=0 by decide,A5a,E]
 subst I;cases b with
 |true =>
  have Q:z<0:=by simpa using P.symm
  exact G.neg ((z.natAbs:Nat):Int) z kV oV oV oV<|G.z (.tuple #[zI z,zT])
 |false =>
  have a1:¬ z<0:=by simpa using P.symm
  have K:((z.natAbs:Nat):Int)=z:=oV;refine G.r (.tuple #[zI (z.natAbs:Nat),zT]) ⟨rfl,by rw[K]⟩
def Axb (z:Int):Ae (z:Rat)=Lib.itoa z:=by
 unfold Ae;simp
def Anq {x:zB×Nat}{t:zB}(H:1<=x.2)(I:x.2<=3)(m:Rj x.2 t):zF 108 [D9 x,zS t] u fun v _=>v=zT:=by
 obtain⟨s,k⟩:=x;simp only at H I m;refine Fn0.o func108<|G.lF k 1<|G.gF k 3 ?_;by_cases j:t = []
 ·exact G.q t [] j<|G.z zT
 refine G.w t [] j ?_;rcases m with e|⟨rfl,L⟩|⟨rfl,z,W,rfl⟩|⟨rfl,q,K,rfl⟩
 ·exact absurd e j
 ·refine G.eT (3:Nat) 3<|G.c call107 (Rr L) ?_;rintro F E C rfl;exact G.z zT
 ·refine G.eF (1:Nat) 3 ?_;have hp:=Ua (u:=u) (q:=(z:Rat)) ⟨Jk (by simpa using (by omega:z.natAbs<1000000000000000000)),by simp;decide +kernel⟩;rw[Axb]at hp;simp only[Rat.num_intCast,Rat.den_intCast]at hp;refine G.c call72 hp ?_;rintro F E C rfl;refine G.eT (1:Nat) 1<|G.y (Lib.itoa ((1:Nat):Int)) [49] jV<|G.c call183 (Pi (z:=z) oV) ?_;rintro T Q l2 rfl;refine G.c call183 (Pi (z:=((1:Nat):Int)) oV) ?_;rintro U R P rfl;exact G.hT z (-1000000000)<|G.kT z 1000000000<|G.kT (1:Nat) 12<|G.z zT
 have h:=K.dat;have V:=h.num;have J:=h.den;refine G.eF (2:Nat) 3<|G.c call72 (Ua h.tx) ?_;rintro F E C rfl;refine G.eF (2:Nat) 1<|G.c call183 (Pi (z:=q.num) oV) ?_;rintro T Q l2 rfl;refine G.c call183 (Pi (z:=(q.den:Int)) oV) ?_;rintro U R P rfl;exact G.hT q.num (-1000000000)<|G.kT q.num 1000000000<|G.kT q.den 12<|G.z zT
def Anz {v U:Value}{T:zC}{R:List Br}{F:List Al}{lab:Int}{ss:zW}(h:Mv u v U T R F lab ss) :
 zF 47 [v,U] u fun r _=>r=zO:=by
 have I:=fun (V:PH) (l:PH.le u V)=>T2 (h.sch.mono l) (h.ok.mono l);obtain⟨⟨xa,xc,xb,xd,xe,xf,rfl,H,Z,X⟩,ok,E,hT⟩:=h;obtain⟨ya,W,rfl⟩:=E.opn;rw[A03]at E⊢;have Q:=hT.len;have t2:=ok.t2;refine Fn0.o func47<|G.c call45 (I u (PH.le_refl _)) ?_;rintro v1 u1 l1 rfl;refine G.nF 0 0<|G.nF ss.length T.length<|G.l (ι:=Nat) (fun i=>[(2,.p 0 0),(19,sV ya ss.length W),(20,iV ss.length),(21,iV i)])
  (fun _=>[(0,⟨30,[sV xa T.length xc,sV xb R.length xd,sV xe F.length xf,iV lab]⟩)])
  (fun i V m'=>i<=ss.length/\m'=PH.mt) (fun i=>ss.length-i) 0 ⟨oV,rfl⟩ ?_
 rintro J i Y u2 m2 l2 ⟨hi,rfl⟩;have C:=l1.trans l2;by_cases m:i<ss.length
 ·refine G.lT i ss.length ?_;obtain⟨b,off,rfl,e⟩:=M5 (E.mono C) m;refine G.N ss.length W m e ?_;have t:T[i]?=some T[i]:=A01 oV;have K:=ok.att.kind T[i] (A09 oV);have L:=hT.val i _ _ t (A01 m);rw[show ss[i]=ss.getD i [] by simp[A02,A01 m]]at L;obtain⟨ba,oa,rfl,P⟩:=Ac.at' (H.mono C) (j:=i) (e:=D9 T[i]) (by simp[t]);generalize T[i]=x at t K L P;refine G.n T.length xc P<|G.c call108 (Anq K.1 K.2 L) ?_;rintro v3 u3 l3 rfl;exact G.i i<|G.b (Y (i+1) _ _ _ cV (l2.trans l3) ⟨oV,rfl⟩ oV)
 obtain rfl:i=ss.length:=oV;exact G.lF ss.length ss.length<|G.z zO
end
section
variable {F:CF}{N b sz:Nat}{es:zV}{v:Value}
def Az4 (u m:PH)(v:Value)(F:CF)(N:Nat):Prop :=
 ∃ b a n c b' a' n' c' g1 g2 o1 o2,v=.agg #[.bool b,.slice a n c,.bool b',.slice a' n' c',.map (some g1),.map (some g2)]/\QP u (.agg #[.bool b,.slice a n c,.bool b',.slice a' n' c']) F.c/\(u g1=some o1\/m g1=some o1)/\(u g2=some o2\/m g2=some o2)/\D7 Ap KT u o1 F.s N/\D7 prV KO u o2 F.t N
def Kk.i {u m:PH}(h:Kk m u v F N):Az4 u m v F N:=by
 obtain⟨b,a,n,c,b',j,n',t,g1,g2,J,K,e,C,E,rfl,H,I⟩:=h;exact⟨b,a,n,c,b',j,n',t,g1,g2,J,K,e,C,.inr (by rw[Ad _ _ E,Ab]),.inr (Ab _ _ _),H,I⟩
section
variable {P:Program} [A6 P] {fn:Func} {Post:Ce} {st:List KI×S} {u m:PH}
def G.appendMV (e:TypeId)(sz j:Nat)(z:Value)(m0:PH)(es xs:zV)(v:Value)(a:zP)(n c:Nat)(h:Aj P (adv P st)=.app (some (e,sz,j,z)) true [v,.slice a n c])(U:z.cells.toList.all Ax=true)(I:z.cells.size=sz)(E:0<sz)
 (t:Af m0 m v e sz es) (J:n=xs.length) (T:xs≠[]->∃ b off,a=some ⟨b,off,none⟩/\Hc m b off sz xs) (R:A9 sz xs) (Q:(es.length+xs.length)*j<=140737488355328) (C:es.length+xs.length<=9223372036854775807)
 (k:∀ L K,Af m0 K L e sz (es++xs)->G P fn Post (nx (adv P st) L) u K):G P fn Post st u m:=by
 cases xs with
 |nil =>
  subst J;obtain⟨a1,c1,rfl⟩:=t.shape;refine G.append0 e sz j z a1 a es.length c1 c h t.cap ?_;exact k _ _ (by rw[A1x];exact t)
 |cons x xs =>
  obtain⟨b,off,rfl,H⟩:=T mV;subst J;exact G.appendM e sz j z m0 es (x::xs) v b off _ c h U I E t H R rfl mV Q C k
end
def Af.els {m0 m:PH}{t:TypeId}{b n c:Nat}(h:Af m0 m (zG b n c) t sz es):Hc m b 0 sz es:=fun j e C=>h.el C
def Hc.drop {m:PH}(h:Hc m b 0 sz es)(k:Nat):Hc m b (0+k*sz) sz (es.drop k):=fun j e t=>by
 have:=h (k+j) e (by rw[A39]at t;exact t);rw[A16,A2w]at this;rw[A2w];exact this
theorem An2 (l:List (Par×Rat)):A9 3 (l.map Bt):=fun e he=>by
 obtain⟨p,_,rfl⟩:=A1b.1 he;exact Afk p _ mV
def Ao9 (l:List ((Par×Par)×Rat)):A9 5 (l.map D8):=fun e h=>by
 obtain⟨p,_,rfl⟩:=A1b.1 h;exact Aj6 p _ mV
def Rl {q:Rat}:q.num=0↔q=0:=A4r
def Aod {u m:PH}(h:Az4 u m v F N)(sF:CFS F)(hN:N<=1000000) :
 FnK prog 50 [v] u m fun r u'=>Azl u' r F N:=by
 obtain⟨b,a,n,c,b',a',n',c',g1,g2,o1,o2,rfl,hF,bg,bh,s1,s2⟩:=h;obtain⟨l1,⟨es1,E,rfl,au,ak⟩,bj,am,c0⟩:=s1.at;obtain⟨l2,⟨a3,C,rfl,av,al⟩,bk,an,ae⟩:=s2.at;have b9:(l1.map (·.1)).Nodup:=Hu.nodup (enc:=Ap) ⟨es1,E,rfl,au,ak⟩;have ba:(l2.map (·.1)).Nodup:=Hu.nodup (enc:=prV) ⟨a3,C,rfl,av,al⟩;have ao:∀ {u' m':PH},PH.le u u'->PH.le m m'->u' g1=some (.map es1 E)\/m' g1=some (.map es1 E):=fun a b=>bg.elim (fun e=>.inl (a _ _ e)) (fun e=>.inr (b _ _ e));have ap:∀ {u' m':PH},PH.le u u'->PH.le m m'->u' g2=some (.map a3 C)\/m' g2=some (.map a3 C):=fun a b=>bh.elim (fun e=>.inl (a _ _ e)) (fun e=>.inr (b _ _ e));refine FnK.of func50 kV kV<|G.c call84 (Ox hF (SB.tx sF.c)) ?_;rintro v1 u1 bd rfl;refine G.nF 0 0<|G.mapRange g1 es1 E 118 69 kV (ao bd (fun _ _ h=>h)) ?_;intro it bi bz;have ab:∀ o,PH.le m (m.upd it o):=fun o=>Jw o bi;refine G.l (ι:=List MapEntry×List (Par×Value)×List (Par×Rat)×(zP×Nat)) (fun i=>[(1,.p 0 0),(2,.p 1 0),(6,.p 2002 0),(33,.v (.pointer (zA it)))])
  (fun i=>[(0,⟨108,[bV b,sV a n c,bV b',sV a' n' c',.v (.map (some g1)),.v (.map (some g2))]⟩),(1,⟨38,[tV [],sN,sN]⟩),(2002,⟨38,[tV (Ae F.c),sV i.2.2.2.1 i.2.2.1.length i.2.2.2.2,sN]⟩)])
  (fun i u' m'=>Gj Ap es1 l1 i.1 i.2.1/\R3 Bk F.s (i.2.1.map (·.1)) i.2.2.1/\i.2.2.1.length<=i.2.1.length/\Af (m.upd it (.mapIter (some g1) E (Ar i.1) E)) m' (.slice i.2.2.2.1 i.2.2.1.length i.2.2.2.2) 162 3 (i.2.2.1.map Bt))
  (fun i=>l1.length-i.2.1.length) ([],[],[],(none,0))
  ⟨Gj.nil _ _,R3.nil,A08 _,Af.nil _ _ _⟩ ?_
 rintro J ⟨D,L,S,⟨V,R⟩⟩ hJ u2 m2 a2 ⟨hS,hI,aq,hA⟩;simp only at hS hI aq hA hJ;have Q:=bd.trans a2;have ar:m2 it=some (.mapIter (some g1) E (Ar D) E):=hA.see (Ab _ _ _);have ac:PH.le m m2:=fun g o hg=>hA.see (ab _ g o hg);refine G.mapNextL Bq.inj it g1 es1 E l1 D L kV kV ar (ao Q ac) ak au b9 hS ?done1 ?next1
 case next1 =>
  rintro⟨k,xv⟩ e hp hkn he hek hev hS';simp only at hkn hek hev;have hx:=(bj _ hp).1;simp only at hx;obtain⟨yb,ya,yn,yc,bt,bw,bu,rfl,_⟩:=hx.opn;have W:=hA.base (b:=it) (o:=.mapIter (some g1) E (Ar (D++[e])) E) (by rw[Ab];simp);rw[Dp]at W;have ad:PH.le m (m2.upd it (.mapIter (some g1) E (Ar (D++[e])) E)):=fun g o hg=>W.see (ab _ g o hg);refine G.mapEntry it g1 es1 E D e kV (Ab _ _ _) (ao Q ad) ak he ?_;rw[hek,hev];have a4:=hS'.len;simp only[A1d,A3f,A30]at a4;have aj:=sF.s k;refine G.c call81 (Nt (hx.mono Q) (by have:=(SB.sz aj).1;omega)) ?_;rintro v3 u3 l3 rfl;by_cases h0:F.s k=0
  ·rw[decide_eq_true (Rl.2 h0)];refine G.b (hJ (D++[e],L++[(k,_)],S,(V,R)) _ _ _ cV (a2.trans l3) ⟨hS',by dsimp only;rw[A1i];exact hI.skip h0,by dsimp only;simp;omega,W⟩ (by have:=hS'.len;simp at this;dsimp only;simp;omega))
  rw[decide_eq_false (fun e=>h0 (Rl.1 e))];refine G.c call84 (Ox (hx.mono (Q.trans l3)) (SB.tx aj)) ?_;rintro v4 u4 l4 rfl;refine G.nF 0 0 ?_;have H:=W;generalize bl:m2.upd it (.mapIter (some g1) E (Ar (D++[e])) E)=m3 at H ad;have b4:k∉L.map (·.1):=hkn;refine G.l (ι:=Nat) (fun n=>[(1,.p 0 0),(2,.p 1 0),(6,.p 2002 0),(7,.p 7003 0),(11,.p 12003 0),(12,iV n),(33,.v (.pointer (zA it)))])
   (fun _=>[(0,⟨108,[bV b,sV a n c,bV b',sV a' n' c',.v (.map (some g1)),.v (.map (some g2))]⟩),(1,⟨38,[tV [],sN,sN]⟩),(2002,⟨38,[tV (Ae F.c),sV V S.length R,sN]⟩),(7003,⟨118,[iV k.1,tV k.2]⟩),(12003,⟨162,[iV k.1,tV k.2,tV (Ae (F.s k))]⟩)])
   (fun n u' m'=>n<=S.length/\(∀ j x,j<n->S[j]?=some x->Bk x.1 k<0)/\m'=m3) (fun n=>S.length-n) 0 ⟨oV,fun j x hj=>oV,rfl⟩ ?_
  rintro J2 n2 ay u5 m5 l5 ⟨ae,a0,rfl⟩;have bp:=((Q.trans l3).trans l4).trans l5;refine G.joinF (ι:=Unit) (fun st=>Ajn prog st [zL]) (fun _=>[(1,.p 0 0),(2,.p 1 0),(6,.p 2002 0),(11,.p 12003 0),(12,iV n2),(33,.v (.pointer (zA it)))])
   (fun _=>[(0,⟨108,[bV b,sV a n c,bV b',sV a' n' c',.v (.map (some g1)),.v (.map (some g2))]⟩),(1,⟨38,[tV [],sN,sN]⟩),(2002,⟨38,[tV (Ae F.c),sV V S.length R,sN]⟩),(12003,⟨162,[iV k.1,tV k.2,tV (Ae (F.s k))]⟩)])
   (fun _ u' m'=>m'=m5/\∀ x,S[n2]?=some x->¬ Bk x.1 k<0) (fun _=>kV) kV ?tail ?way
  case way =>
   intro U;by_cases a7:n2<S.length
   ·refine G.lT n2 S.length ?_;obtain⟨x,a5⟩:∃ x,S[n2]?=some x:=⟨_,A01 a7⟩;obtain⟨gs,cs,T⟩:=H.ptr (fun e=>by
     have:S.length=0:=by simpa using congrArg List.length e
     omega)
    simp only[Value.slice.injEq]at T;obtain⟨rfl,_,rfl⟩:=T;refine G.a gs 0 S.length R n2 3 a7<|G.f 162 gs (0+n2*3) 0 0 ?_;have b2:ElP m5 gs (0+n2*3) (Bt x):=H.el (by rw[A1a,a5];rfl);refine G.lM (some 2) gs (0+n2*3+0) (.agg #[zI x.1.1,zS x.1.2]) (b2.sub (k:=0) fun i y I=>by
     match i,I with
     |0,I=>simpa[Bt,Value.cells] using I
     |1,I=>simpa[Bt,Value.cells] using I
     |i+2,I=>simp[Value.cells]at I) ?_
    by_cases hc:Bk x.1 k<0
    ·refine G.c call113 (Fp x.1 k true (decide_eq_true hc)) ?_;rintro v6 u6 l6 rfl;refine G.i n2 ?_;exact G.b (ay (n2+1) _ _ _ cV (l5.trans l6) ⟨oV,fun j y hj I=>by
      rcases (by omega:j<n2\/j=n2) with e|rfl
      ·exact a0 j y e I
      rw[a5]at I;cases I;exact hc,rfl⟩ oV)
    refine G.c call113 (Fp x.1 k false (decide_eq_false hc)) ?_;rintro v6 u6 l6 rfl;exact U () _ _ _ kV cV l6 ⟨rfl,fun y I=>by rw[a5]at I;cases I;exact hc⟩
   refine G.lF n2 S.length ?_;exact U () _ _ _ kV cV (PH.le_refl _) ⟨rfl,fun y I=>by rw[A1v oV]at I;cases I⟩
  rintro _ u6 m6 l6 ⟨rfl,a6⟩;have ah:=H.cap;refine G.sliceTo 3 V S.length R n2 kV oV<|G.sliceFromG V S.length R n2 3 kV ae ah<|G.buildM 162 3 40 (.agg #[zO,zE,zE]) [.agg #[zI k.1,zS k.2,zS (Ae (F.s k))]] kV (Afk (k,F.s k)) rfl oV mV mV ?_;intro gt m7 af;refine G.appendMV 162 3 40 (.agg #[zO,zE,zE]) m6 [.agg #[zI k.1,zS k.2,zS (Ae (F.s k))]] ((S.drop n2).map Bt) (zG gt 1 1) (if R=n2 then V else V.map (·.add (n2*3))) (S.length-n2) (R-n2) kV rfl rfl oV af mV (fun b5=>?_) (An2 _) gV gV ?_
  ·have a7:n2<S.length:=by
    rcases A2e n2 S.length with h|h
    ·exact h
    exact absurd (by rw[A2b h];rfl) b5
   obtain⟨gs,cs,T⟩:=H.ptr (fun e=>by
    have:S.length=0:=by simpa using congrArg List.length e
    omega)
   simp only[Value.slice.injEq]at T;obtain⟨rfl,_,rfl⟩:=T;refine⟨gs,0+n2*3,?_,?_⟩
   ·rw[if_neg oV];simp[Ed]
   have:=H.els.drop n2;rw[<-List.map_drop]at this;exact fun j e hj i y I=>by
    obtain⟨cs,t,fr,q1,q2⟩:=this j e hj i y I;exact⟨cs,t,fr,af.le _ _ q1,q2⟩
  intro v8 m8 Y;obtain⟨a8,c8,rfl⟩:=Y.ptr mV;have ax:=H.take (k:=n2) (by rw[A03];exact ae);obtain⟨mx,bn,bm,ai⟩:=At.swap (x:=⟨.slice V n2 R,162,3,(S.map Bt).take n2⟩) (y:=⟨zG a8 _ c8,162,3,_⟩) Y ax;refine G.appendM 162 3 40 (.agg #[zO,zE,zE]) mx ((S.map Bt).take n2) _ (.slice V n2 R) a8 0 _ c8 kV rfl rfl oV bm Y.els Y.1 rfl mV gV gV ?_;intro v9 m9 aw;obtain⟨mz,am,an⟩:=ai ⟨v9,162,3,_⟩ m9 aw;have b3:(S.map Bt).take n2++([.agg #[zI k.1,zS k.2,zS (Ae (F.s k))]]++(S.drop n2).map Bt)=(S.take n2++[(k,F.s k)]++S.drop n2).map Bt:=by
   rw[A1i,A1i,A5g,A2k];rfl
  have a1:Af (m.upd it (.mapIter (some g1) E (Ar (D++[e])) E)) mz v9 162 3 ((S.take n2++[(k,F.s k)]++S.drop n2).map Bt):=by rw[<-b3];exact an
  obtain⟨a9,c9,rfl⟩:=a1.shape;rw[A03]at a1⊢;have az:(S.take n2++[(k,F.s k)]++S.drop n2).length=S.length+1:=gV;refine G.drop mz kV (fun g o hg=>Af.le am g o hg)<|G.b (hJ (D++[e],L++[(k,_)],S.take n2++[(k,F.s k)]++S.drop n2,(a9,c9)) _ _ _ cV ((((a2.trans l3).trans l4).trans l5).trans l6) ⟨hS',?_,by dsimp only;rw[az];simp;omega,a1⟩ (by have:=hS'.len;simp at this;dsimp only;simp;omega));dsimp only;rw[A1i];exact hI.put Et h0 b4 a0 a6
 case done1 =>
 intro aa;have ag:Can Bk F.s S:=hI.can fun k hk=>am k fun hm=>hk (by
  obtain⟨p,hp,rfl⟩:=A1b.1 hm;exact A1b.2 ⟨p,aa p hp,rfl⟩)
 have b7:S.length<=N:=by have:=hS.len;omega
 refine G.give _ _ _ kV hA (fun g=>?_) ?_
 ·cases hg:m g with
  |none=>exact .inl hg
  |some o=>exact .inr (by rw[ab _ g o hg];simp)
 intro u3 l3 hX;refine G.drop m kV (ab _) ?_;have be:=Q.trans l3;clear hJ hA hI aq ar ac hS aa
 revert S V R
 intro X xa xc ag b7 hX;refine G.mapRange g2 a3 C 175 69 kV (ap be (fun _ _ h=>h)) ?_;intro K b8 bx;have Z:∀ o,PH.le m (m.upd K o):=fun o=>Jw o b8;refine G.l (ι:=List MapEntry×List ((Par×Par)×Value)×List ((Par×Par)×Rat)×(zP×Nat)) (fun i=>[(1,.p 0 0),(2,.p 1 0),(6,.p 2002 0),(85,.v (.pointer (zA K)))])
  (fun i=>[(0,⟨108,[bV b,sV a n c,bV b',sV a' n' c',.v (.map (some g1)),.v (.map (some g2))]⟩),(1,⟨38,[tV [],sN,sN]⟩),(2002,⟨38,[tV (Ae F.c),sV xa X.length xc,sV i.2.2.2.1 i.2.2.1.length i.2.2.2.2]⟩)])
  (fun i u' m'=>Gj prV a3 l2 i.1 i.2.1/\R3 Oc F.t (i.2.1.map (·.1)) i.2.2.1/\i.2.2.1.length<=i.2.1.length/\Af (m.upd K (.mapIter (some g2) C (Ar i.1) C)) m' (.slice i.2.2.2.1 i.2.2.1.length i.2.2.2.2) 181 5 (i.2.2.1.map D8))
  (fun i=>l2.length-i.2.1.length) ([],[],[],(none,0))
  ⟨Gj.nil _ _,R3.nil,A08 _,Af.nil _ _ _⟩ ?_
 rintro J ⟨D,L,S,⟨V,R⟩⟩ hJ u2 m2 a2 ⟨hS,hI,aq,hA⟩;simp only at hS hI aq hA hJ;have Q:=be.trans a2;have ar:m2 K=some (.mapIter (some g2) C (Ar D) C):=hA.see (Ab _ _ _);have ac:PH.le m m2:=fun g o hg=>hA.see (Z _ g o hg);refine G.mapNextL I1.inj K g2 a3 C l2 D L kV kV ar (ap Q ac) al av ba hS ?done2 ?next2
 case next2 =>
  rintro⟨k,xv⟩ e hp hkn he hek hev hS';simp only at hkn hek hev;have hx:=(bk _ hp).1;simp only at hx;obtain⟨yb,ya,yn,yc,bt,bw,bu,rfl,_⟩:=hx.opn;have W:=hA.base (b:=K) (o:=.mapIter (some g2) C (Ar (D++[e])) C) (by rw[Ab];simp);rw[Dp]at W;have ad:PH.le m (m2.upd K (.mapIter (some g2) C (Ar (D++[e])) C)):=fun g o hg=>W.see (Z _ g o hg);refine G.mapEntry K g2 a3 C D e kV (Ab _ _ _) (ap Q ad) al he ?_;rw[hek,hev];have a4:=hS'.len;simp only[A1d,A3f,A30]at a4;have aj:=sF.t k;refine G.c call81 (Nt (hx.mono Q) (by have:=(SB.sz aj).1;omega)) ?_;rintro v3 u3 l3 rfl;by_cases h0:F.t k=0
  ·rw[decide_eq_true (Rl.2 h0)];refine G.b (hJ (D++[e],L++[(k,_)],S,(V,R)) _ _ _ cV (a2.trans l3) ⟨hS',by dsimp only;rw[A1i];exact hI.skip h0,by dsimp only;simp;omega,W⟩ (by have:=hS'.len;simp at this;dsimp only;simp;omega))
  rw[decide_eq_false (fun e=>h0 (Rl.1 e))];refine G.c call84 (Ox (hx.mono (Q.trans l3)) (SB.tx aj)) ?_;rintro v4 u4 l4 rfl;refine G.nF 0 0<|G.pub 19003 175 [zI k.1.1,zS k.1.2,zI k.2.1,zS k.2.2] kV kV ?_;intro bq c1 b6;have b0:(m.upd K (.mapIter (some g2) C (Ar (D++[e])) C)) bq=none:=by
   cases hh:(m.upd K (.mapIter (some g2) C (Ar (D++[e])) C)) bq with
   |none=>rfl
   |some o=>rw[W.see hh]at b6;cases b6
  have H:=W.fresh (o:=.cells [Value.int .i64 k.1.1,zS k.1.2,zI k.2.1,zS k.2.2].toArray 175 (0,0)) b6;obtain⟨br,bs⟩:=Aly (m:=(m2.upd K (.mapIter (some g2) C (Ar (D++[e])) C)).upd bq (.cells [Value.int .i64 k.1.1,zS k.1.2,zI k.2.1,zS k.2.2].toArray 175 (0,0))) (Ab _ _ _);refine G.addrA 175 118 2 bq 0 0 2 kV kV kV kV oV<|G.v (some 2) br<|G.addrA 175 118 2 bq 0 1 2 kV kV kV kV oV<|G.v (some 2) bs ?_;generalize bl:(m2.upd K (.mapIter (some g2) C (Ar (D++[e])) C)).upd bq (.cells [Value.int .i64 k.1.1,zS k.1.2,zI k.2.1,zS k.2.2].toArray 175 (0,0))=m3 at H;have b4:k∉L.map (·.1):=hkn;refine G.l (ι:=Nat) (fun n=>[(1,.p 0 0),(2,.p 1 0),(6,.p 2002 0),(17,.p 24006 0),(18,iV n),(85,.v (.pointer (zA K)))])
   (fun _=>[(0,⟨108,[bV b,sV a n c,bV b',sV a' n' c',.v (.map (some g1)),.v (.map (some g2))]⟩),(1,⟨38,[tV [],sN,sN]⟩),(2002,⟨38,[tV (Ae F.c),sV xa X.length xc,sV V S.length R]⟩),(24006,⟨181,[iV k.1.1,tV k.1.2,iV k.2.1,tV k.2.2,tV (Ae (F.t k))]⟩)])
   (fun n u' m'=>n<=S.length/\(∀ j x,j<n->S[j]?=some x->Oc x.1 k<0)/\m'=m3) (fun n=>S.length-n) 0 ⟨oV,fun j x hj=>oV,rfl⟩ ?_
  rintro J2 n2 ay u5 m5 l5 ⟨ae,a0,rfl⟩;have bp:=((Q.trans l3).trans l4).trans l5;refine G.joinF (ι:=Unit) (fun st=>Ajn prog st [zL]) (fun _=>[(1,.p 0 0),(2,.p 1 0),(6,.p 2002 0),(17,.p 24006 0),(18,iV n2),(85,.v (.pointer (zA K)))])
   (fun _=>[(0,⟨108,[bV b,sV a n c,bV b',sV a' n' c',.v (.map (some g1)),.v (.map (some g2))]⟩),(1,⟨38,[tV [],sN,sN]⟩),(2002,⟨38,[tV (Ae F.c),sV xa X.length xc,sV V S.length R]⟩),(24006,⟨181,[iV k.1.1,tV k.1.2,iV k.2.1,tV k.2.2,tV (Ae (F.t k))]⟩)])
   (fun _ u' m'=>m'=m5/\∀ x,S[n2]?=some x->¬ Oc x.1 k<0) (fun _=>kV) kV ?tail2 ?way2
  case way2 =>
   intro U;by_cases a7:n2<S.length
   ·refine G.lT n2 S.length ?_;obtain⟨x,a5⟩:∃ x,S[n2]?=some x:=⟨_,A01 a7⟩;obtain⟨gs,cs,T⟩:=H.ptr (fun e=>by
     have:S.length=0:=by simpa using congrArg List.length e
     omega)
    simp only[Value.slice.injEq]at T;obtain⟨rfl,_,rfl⟩:=T;refine G.a gs 0 S.length R n2 5 a7 ?_;have b2:ElP m5 gs (0+n2*5) (D8 x):=H.el (by rw[A1a,a5];rfl);refine G.v (some 5) b2 ?_;by_cases hc:Oc x.1 k<0
    ·refine G.c call114 (P4 x (k,F.t k) true (decide_eq_true hc)) ?_;rintro v6 u6 l6 rfl;refine G.i n2 ?_;exact G.b (ay (n2+1) _ _ _ cV (l5.trans l6) ⟨oV,fun j y hj I=>by
      rcases (by omega:j<n2\/j=n2) with e|rfl
      ·exact a0 j y e I
      rw[a5]at I;cases I;exact hc,rfl⟩ oV)
    refine G.c call114 (P4 x (k,F.t k) false (decide_eq_false hc)) ?_;rintro v6 u6 l6 rfl;exact U () _ _ _ kV cV l6 ⟨rfl,fun y I=>by rw[a5]at I;cases I;exact hc⟩
   refine G.lF n2 S.length ?_;exact U () _ _ _ kV cV (PH.le_refl _) ⟨rfl,fun y I=>by rw[A1v oV]at I;cases I⟩
  rintro _ u6 m6 l6 ⟨rfl,a6⟩;have ah:=H.cap;refine G.sliceTo 5 V S.length R n2 kV oV<|G.sliceFromG V S.length R n2 5 kV ae ah<|G.buildM 181 5 64 (.agg #[zO,zE,zO,zE,zE]) [.agg #[zI k.1.1,zS k.1.2,zI k.2.1,zS k.2.2,zS (Ae (F.t k))]] kV (Aj6 (k,F.t k)) rfl oV mV mV ?_;intro gt m7 af;refine G.appendMV 181 5 64 (.agg #[zO,zE,zO,zE,zE]) m6 [.agg #[zI k.1.1,zS k.1.2,zI k.2.1,zS k.2.2,zS (Ae (F.t k))]] ((S.drop n2).map D8) (zG gt 1 1) (if R=n2 then V else V.map (·.add (n2*5))) (S.length-n2) (R-n2) kV rfl rfl oV af mV (fun b5=>?_) (Ao9 _) gV gV ?_
  ·have a7:n2<S.length:=by
    rcases A2e n2 S.length with h|h
    ·exact h
    exact absurd (by rw[A2b h];rfl) b5
   obtain⟨gs,cs,T⟩:=H.ptr (fun e=>by
    have:S.length=0:=by simpa using congrArg List.length e
    omega)
   simp only[Value.slice.injEq]at T;obtain⟨rfl,_,rfl⟩:=T;refine⟨gs,0+n2*5,?_,?_⟩
   ·rw[if_neg oV];simp[Ed]
   have:=H.els.drop n2;rw[<-List.map_drop]at this;exact fun j e hj i y I=>by
    obtain⟨cs,t,fr,q1,q2⟩:=this j e hj i y I;exact⟨cs,t,fr,af.le _ _ q1,q2⟩
  intro v8 m8 Y;obtain⟨a8,c8,rfl⟩:=Y.ptr mV;have ax:=H.take (k:=n2) (by rw[A03];exact ae);obtain⟨mx,bn,bb,ai⟩:=At.swap (x:=⟨.slice V n2 R,181,5,(S.map D8).take n2⟩) (y:=⟨zG a8 _ c8,181,5,_⟩) Y ax;refine G.appendM 181 5 64 (.agg #[zO,zE,zO,zE,zE]) mx ((S.map D8).take n2) _ (.slice V n2 R) a8 0 _ c8 kV rfl rfl oV bb Y.els Y.1 rfl mV gV gV ?_;intro v9 m9 aw;obtain⟨mz,am,an⟩:=ai ⟨v9,181,5,_⟩ m9 aw;have b3:(S.map D8).take n2++([.agg #[zI k.1.1,zS k.1.2,zI k.2.1,zS k.2.2,zS (Ae (F.t k))]]++(S.drop n2).map D8)=(S.take n2++[(k,F.t k)]++S.drop n2).map D8:=by
   rw[A1i,A1i,A5g,A2k];rfl
  have bo:Af ((m.upd K (.mapIter (some g2) C (Ar (D++[e])) C)).upd bq (.cells [Value.int .i64 k.1.1,zS k.1.2,zI k.2.1,zS k.2.2].toArray 175 (0,0))) mz v9 181 5 ((S.take n2++[(k,F.t k)]++S.drop n2).map D8):=by rw[<-b3];exact an
  have a1:=bo.del (l:=bq) (by rw[Ab];simp);rw[Rk b0]at a1;obtain⟨a9,c9,rfl⟩:=a1.shape;rw[A03]at a1⊢;have az:(S.take n2++[(k,F.t k)]++S.drop n2).length=S.length+1:=gV;refine G.drop (mz.del bq) kV (fun g o hg=>Af.le am g o (Ap6 _ _ g o hg))<|G.b (hJ (D++[e],L++[(k,_)],S.take n2++[(k,F.t k)]++S.drop n2,(a9,c9)) _ _ _ cV ((((a2.trans l3).trans l4).trans l5).trans l6) ⟨hS',?_,by dsimp only;rw[az];simp;omega,a1⟩ (by have:=hS'.len;simp at this;dsimp only;simp;omega));dsimp only;rw[A1i];exact hI.put A0t h0 b4 a0 a6
 case done2 =>
 intro aa;have b1:Can Oc F.t S:=hI.can fun k hk=>an k fun hm=>hk (by
  obtain⟨p,hp,rfl⟩:=A1b.1 hm;exact A1b.2 ⟨p,aa p hp,rfl⟩)
 have bf:S.length<=N:=by have:=hS.len;omega
 refine G.give _ _ _ kV hA (fun g=>?_) ?_
 ·cases hg:m g with
  |none=>exact .inl hg
  |some o=>exact .inr (by rw[Z _ g o hg];simp)
 intro u4 l4 hY;exact G.drop m kV (Z _)<|G.r (.tuple #[.agg #[zS (Ae F.c),.slice xa X.length xc,.slice V S.length R],zO]) ⟨rfl,_,rfl,X,S,xa,xc,V,R,rfl,hX.mono (a2.trans l4),hY,ag,b1,b7,bf⟩
end
section
variable {F:List Al}{a i:Nat}{f:Al}{z:Int}
def Aro (F:List Al)(a:Nat)(z:Int)(i:Nat)(fe:Int)(dr ho:Bool):Prop :=
 (∃ k f,k<i/\F[k]?=some f/\f.1=a/\fe=(k:Int)/\dr=decide (f.2.2=1)/\ho=decide (f.2.1=2))\/((∀ k f,k<i->F[k]?=some f->f.1≠a)/\fe=z/\dr=true/\ho=false)
theorem Af1 (q:Rat):q+0=q:=by grind
theorem An4 {t:Int}{m u:Bool}(h:Aro F a z i t m u)(I:F[i]?=some f)(H:f.1≠a):Aro F a z (i+1) t m u:=by
 rcases h with ⟨k,g,C,j,E⟩|⟨C,j⟩
 ·exact .inl ⟨k,g,oV,j,E⟩
 refine .inr ⟨fun k g K J=>?_,j⟩;rcases (by omega:k<i\/k=i) with e|rfl
 ·grind
 grind
theorem Aqe (hf:F[i]?=some f)(he:f.1=a):Aro F a z (i+1) (i:Int) (decide (f.2.2=1)) (decide (f.2.1=2)) :=
 .inl ⟨i,f,oV,hf,he,rfl,rfl,rfl⟩
theorem Av7 {T:zC}{F:List Al}{lab:Int}{a:Nat}{z:Int}{x:zB×Nat}{t:zB}{u:Int}{P E:Bool}(hF:Da T F lab)(l1:-1<=lab)(l2:∀ l:Nat,lab=(l:Int)->∃ n,T[l]?=some (n,2))
 (J:T[a]?=some x) (R:Rj x.2 t) (W:((a:Int)=lab/\z = -1)\/((a:Int)≠lab/\z = -2)) (h:Aro F a z F.length u P E) :
 (u = -2/\Gm F lab a t=some none)\/(u≠-2/\((E=true/\Gm F lab a t=some (some ((u,t),1)))\/(E=false/\t = []/\Gm F lab a t=(if P then none else some none))\/(E=false/\t≠[]/\SmW (Lk t)/\Ae (Lk t)=t/\Gm F lab a t=some (some ((u,[]),Lk t))))):=by
 rcases h with ⟨k,f,Z,H,rfl,rfl,rfl,rfl⟩|⟨V,rfl,rfl,rfl⟩
 ·obtain⟨n,kd,hT,j,I⟩:=hF.ok f (A1k H);rw[Zu hF.nodup H I];rw[hT]at J;cases J;refine .inr ⟨oV,?_⟩;unfold I3;rcases j with ⟨U,rfl,X⟩|⟨U,rfl,X⟩
  ·rw[U,if_neg oV];by_cases m:t = []
   ·grind
   obtain⟨K,L⟩:=Hz R m;exact .inr (.inr ⟨rfl,m,K,L,by rw[if_neg m]⟩)
  grind
 rcases W with ⟨C,rfl⟩|⟨C,rfl⟩
 ·refine .inr ⟨oV,.inr ?_⟩;obtain⟨n,Q⟩:=l2 a C.symm;rw[J]at Q;cases Q;have e:Gm F lab a t=Sy t:=by unfold Gm;rw[if_pos C]
  rw[e];unfold Sy;by_cases m:t = []
  ·grind
  obtain⟨K,L⟩:=Hz R m;exact .inr ⟨rfl,m,K,L,by rw[if_neg m]⟩
 rcases Gn (F:=F) (w:=t) C with e|⟨i,f,H,Y,_⟩
 ·grind
 grind
def Ale {g1 g2:Nat}(h:g1≠g2)(t u j m:Obj):(((PH.mt.upd g1 t).upd g2 u).upd g1 j).upd g2 m=(PH.mt.upd g1 j).upd g2 m:=by
 rw[Iq _ _ _ (fun e=>h e.symm),Dp,Dp]
def Ahp {u:PH}{v:Value}{T:zC}{R:List Br}{lab:Int}{x:zB×Nat}{t:zB}(h:H5 u v T R F lab)(ok:Bl u T R F lab)(hx:T[a]?=some x)(hv:Rj x.2 t) :
 Ag prog 112 [v,zI a,zS t] u PH.mt fun v' u' m'=>Kk m' u' v' (Gm F lab a t).cf 1:=by
 have ae:=ok.f2;have l1:=ok.l1;have t2:=ok.t2;have ad:a<T.length:=(A05.1 hx).1;obtain⟨pa,ca,pb,cb,pe,ce,rfl,hT,hR,hF⟩:=h;refine Ag.o func112<|G.joinF (ι:=Int) (fun st=>Ajn prog st [zL]) (fun z=>[(1,iV a),(2,tV t),(3,.p 0 0),(6,.p 1 0),(7,iV z),(8,bT),(9,bF)])
  (fun _=>[(0,⟨30,[sV pa T.length ca,sV pb R.length cb,sV pe F.length ce,iV lab]⟩),(1,⟨108,[bF,sN,bF,sN,.v (.map none),.v (.map none)]⟩)])
  (fun z u' m'=>u'=u/\m'=PH.mt/\(((a:Int)=lab/\z = -1)\/((a:Int)≠lab/\z = -2))) (fun _=>kV) kV ?tail ?way
 case way =>
  intro L;by_cases hl:(a:Int)=lab
  ·refine G.eT' a lab hl<|G.pastI ?_;exact L (-1) _ _ _ kV cV (PH.le_refl _) ⟨rfl,rfl,.inl ⟨hl,rfl⟩⟩
  refine G.eF' a lab hl ?_;exact L (-2) _ _ _ kV cV (PH.le_refl _) ⟨rfl,rfl,.inr ⟨hl,rfl⟩⟩
 rintro z _ _ _ ⟨rfl,rfl,hz⟩;refine G.l (ι:=Nat×Int×Bool×Bool) (fun i=>[(1,iV a),(2,tV t),(6,.p 1 0),(7,iV i.2.1),(8,bV i.2.2.1),(9,bV i.2.2.2),(20,sV pe F.length ce),(21,iV F.length),(22,iV i.1)])
  (fun _=>[(1,⟨108,[bF,sN,bF,sN,.v (.map none),.v (.map none)]⟩)])
  (fun i u' m'=>i.1<=F.length/\m'=PH.mt/\Aro F a z i.1 i.2.1 i.2.2.1 i.2.2.2) (fun i=>F.length-i.1) (0,z,true,false) ⟨oV,rfl,.inr ⟨fun k f hk=>by dsimp only at hk;omega,rfl,rfl,rfl⟩⟩ ?_
 rintro J ⟨i,m,dr,ho⟩ hJ u2 m2 l2 ⟨hi,rfl,hI⟩;simp only at hi hI hJ;by_cases a0:i<F.length
 ·refine G.lT i F.length ?_;obtain⟨f,V⟩:∃ f,F[i]?=some f:=⟨_,A01 a0⟩;obtain⟨fb,fo,rfl,ef⟩:=Ac.at' (hF.mono l2) (j:=i) (e:=Cm f) (by simp[V]);obtain⟨p1,p2,p3⟩:=f;refine G.N F.length ce a0 ef ?_;by_cases hp:(p1:Int)=(a:Int)
  ·refine G.eT' p1 a hp ?_;have Q:=Aqe (z:=z) V (show p1=a by omega);simp only at Q;by_cases h3:p3=1
   ·refine G.eT p3 1 ?_;by_cases h2:p2=2
    ·refine G.eT p2 2<|G.i i ?_;rw[decide_eq_true h3,decide_eq_true h2]at Q;exact G.b (hJ (i+1,(i:Int),true,true) _ _ _ cV l2 ⟨dV,rfl,Q⟩ dV)
    refine G.eF p2 2<|G.i i ?_;rw[decide_eq_true h3,decide_eq_false h2]at Q;exact G.b (hJ (i+1,(i:Int),true,false) _ _ _ cV l2 ⟨dV,rfl,Q⟩ dV)
   refine G.eF p3 1 ?_;by_cases h2:p2=2
   ·refine G.eT p2 2<|G.i i ?_;rw[decide_eq_false h3,decide_eq_true h2]at Q;exact G.b (hJ (i+1,(i:Int),false,true) _ _ _ cV l2 ⟨dV,rfl,Q⟩ dV)
   refine G.eF p2 2<|G.i i ?_;rw[decide_eq_false h3,decide_eq_false h2]at Q;exact G.b (hJ (i+1,(i:Int),false,false) _ _ _ cV l2 ⟨dV,rfl,Q⟩ dV)
  exact G.eF' p1 a hp<|G.i i<|G.b (hJ (i+1,m,dr,ho) _ _ _ cV l2 ⟨dV,rfl,An4 hI V (show ¬ p1=a by omega)⟩ dV)
 obtain rfl:i=F.length:=oV;refine G.lF F.length F.length ?_;have n0:(⟨((0:Int):Rat),fun _=>0,fun _=>0⟩:CF)=CF.num 0:=by rw[show ((0:Int):Rat)=0 by decide +kernel];rfl
 have n1:(⟨((1:Int):Rat),fun _=>0,fun _=>0⟩:CF)=CF.num 1:=by rw[show ((1:Int):Rat)=1 by decide +kernel];rfl
 rcases Av7 ok.feat l1 ok.l2 hx hv hz hI with ⟨rfl,e⟩|⟨a7,hc⟩
 ·rw[e];refine G.eT' (-2) (-2) rfl<|G.callO _ _ kV call46 (Jm (n:=1) oV oV) ?_;intro v3 u3 m3 l3 W _;obtain⟨b,H,n,c,b',E,n',I,g1,g2,rfl⟩:=Oe W;rw[By];exact G.r (.agg #[.bool b,.slice H n c,.bool b',.slice E n' I,.map (some g1),.map (some g2)]) (W.congr n1 oV)
 refine G.eF' m (-2) a7<|G.callO _ _ kV call46 (Jm (n:=1) oV oV) ?_;intro v3 u3 m3 l3 W _;rw[By];rcases hc with ⟨rfl,e⟩|⟨rfl,ht,e⟩|⟨rfl,ht,Z,q2,e⟩
 ·rw[e];obtain⟨b,H,n,c,b',E,n',I,g1,g2,o1,o2,rfl,k1,C,rfl,s1,s2⟩:=W;have K:Ay (m,t) (m,t)=((m,t),(m,t)):=Ii (by rw[Et.refl];omega);refine G.c call22 (P6 (z:=1) oV oV) ?_;intro v4 u4 U P;rw[show ((1:Int):Rat)=1 by decide +kernel]at P;obtain⟨b4,a4,n4,c4,a2,a8,a3,rfl,_⟩:=P.opn;refine G.callG _ _ kV kV call109 (g:=g1) (o:=o1) (by rw[Ad _ _ C,Ab])
   (Oi (a:=(m,t)) (g2:=some g2) (y1:=b) (y2:=(H,n,c)) (y3:=b') (y4:=(E,n',I)) (s1.mono U) P I7.sb SB.zero (by rw[Af1];exact I7.sb)) ?_
  intro v5 u5 a9 X k5;refine G.c call22 (P6 (z:=1) oV oV) ?_;intro v6 u6 Y k6;rw[show ((1:Int):Rat)=1 by decide +kernel]at k6;obtain⟨b6,a6,n6,c6,ab,af,ac,rfl,_⟩:=k6.opn;refine G.callG _ _ kV kV call110 (g:=g2) (o:=o2) (by rw[Ad _ _ C.symm,Ab])
   (H7 (p:=(m,t)) (r:=(m,t)) (g1:=some g1) (y1:=b) (y2:=(H,n,c)) (y3:=b') (y4:=(E,n',I)) (((s2.mono U).mono X).mono Y) k6 I7.sb (by rw[K];exact SB.zero) (by rw[K,Af1];exact I7.sb)) ?_
  intro v7 u7 aa l7 k7;rw[Ale C];rw[K]at k7;exact G.r (.agg #[.bool b,.slice H n c,.bool b',.slice E n' I,.map (some g1),.map (some g2)]) ⟨b,H,n,c,b',E,n',I,g1,g2,_,_,rfl,(((k1.mono U).mono X).mono Y).mono l7,C,rfl,((k5.mono Y).mono l7).congr fun k=>by rw[Af1];rfl,k7.congr fun k=>by
   rw[Af1];show (if k=((m,t),(m,t)) then (1:Rat) else 0)=if k=((m,t),(m,t)) then (1:Rat)*1 else 0
   rw[show (1:Rat)*1=1 by decide +kernel]⟩
 ·obtain⟨b,H,n,c,b',E,n',I,g1,g2,rfl⟩:=Oe W;refine G.q t [] ht ?_;rw[e];cases dr with
  |true =>
   refine G.drop PH.mt kV (PH.mt_le _)<|G.callO _ _ kV call46 (Jm (n:=0) oV oV) ?_;intro v4 u4 m4 U P _;obtain⟨b,H,n,c,b',E,n',I,g1,g2,rfl⟩:=Oe P;rw[By];exact G.r (.agg #[.bool b,.slice H n c,.bool b',.slice E n' I,.map (some g1),.map (some g2)]) (P.congr n0 oV)
  |false =>
   exact G.r (.agg #[.bool b,.slice H n c,.bool b',.slice E n' I,.map (some g1),.map (some g2)]) (W.congr n1 oV)
 rw[e];obtain⟨b,H,n,c,b',E,n',I,g1,g2,o1,o2,rfl,k1,C,rfl,s1,s2⟩:=W;refine G.w t [] ht ?_;have K:Ay (m,[]) (m,[])=((m,[]),(m,[])):=Ii (by rw[Et.refl];omega);have a1:=G8 (u:=u3) (q:=Lk t) (SB.tx Z.sb);rw[q2]at a1;refine G.c call27 a1 ?_;intro v4 u4 U P;obtain⟨b4,a4,n4,c4,a2,a8,a3,rfl,_⟩:=P.opn;refine G.callG _ _ kV kV call109 (g:=g1) (o:=o1) (by rw[Ad _ _ C,Ab])
  (Oi (a:=(m,[])) (g2:=some g2) (y1:=b) (y2:=(H,n,c)) (y3:=b') (y4:=(E,n',I)) (s1.mono U) P Z.sb SB.zero (by rw[Af1];exact Z.sb)) ?_
 intro v5 u5 a9 X k5;refine G.c call28 (Gh (P.mono X) (P.mono X) (SB.ten Z.sb) (SB.ten Z.sb)) ?_;intro v6 u6 Y k6;refine G.callG _ _ kV kV call110 (g:=g2) (o:=o2) (by rw[Ad _ _ C.symm,Ab])
  (H7 (p:=(m,[])) (r:=(m,[])) (g1:=some g1) (y1:=b) (y2:=(H,n,c)) (y3:=b') (y4:=(E,n',I)) (((s2.mono U).mono X).mono Y) k6 Z.sb2 (by rw[K];exact SB.zero) (by rw[K,Af1];exact Z.sb2)) ?_
 intro v7 u7 aa l7 k7;rw[Ale C];rw[K]at k7;exact G.r (.agg #[.bool b,.slice H n c,.bool b',.slice E n' I,.map (some g1),.map (some g2)]) ⟨b,H,n,c,b',E,n',I,g1,g2,_,_,rfl,(((k1.mono U).mono X).mono Y).mono l7,C,rfl,((k5.mono Y).mono l7).congr fun k=>by rw[Af1];rfl,k7.congr fun k=>by rw[Af1];rfl⟩
end
section
variable {u:PH}
def Kk.all {f:FuncId}{args:zV}{F:CF}{N:Nat}(c:Ag prog f args u PH.mt fun v e j=>Kk j e v F N):zF f args u fun v e=>R9 e v F N:=by
 refine Fn0.weak c.giveAll ?_;rintro v e ⟨t,m,h,l2,k⟩;exact k.give h l2
def R9.up {u:PH}{v:Value}{F:CF}{N M:Nat}(h:R9 u v F N)(j:N<=M):R9 u v F M:=by
 obtain⟨b,a,n,c,b',m,n',t,g1,g2,K,L,e,C,E,H,I,J⟩:=h;exact⟨b,a,n,c,b',m,n',t,g1,g2,K,L,e,C,E,H,I.up j,J.up j⟩
def Arh {v tv:Value}{T:zC}{R:List Br}{F:List Al}{lab:Int}{ss:zW}(h:Mv u v tv T R F lab ss)(ak:ss.length<=8) :
 zF 49 [v,tv] u fun r u'=>R9 u' r (cfT F lab ss) 255/\CFS (cfT F lab ss):=by
 have hX:=h.sch;obtain⟨⟨xa,xc,xb,xd,xe,xf,rfl,al,aj,ah⟩,ok,hS,hT⟩:=h;obtain⟨ya,yc,rfl⟩:=hS.opn;rw[A03]at hS⊢;have m:=N0 ok hT;have a9:=hT.len;obtain⟨L,P⟩:∃ L,L=Fh F lab ss:=⟨_,rfl⟩;have a3:cfT F lab ss=Iv (CF.num 1) L:=by rw[P];rfl
 rw[a3];rw[<-P]at m;have ai:L.length=ss.length:=by rw[P];exact G3
 refine Fn0.o func49<|G.c call46 (Kk.all (Jm (n:=1) oV oV)) ?_;intro v2 u2 l2 k2;have n1:(⟨((1:Int):Rat),fun _=>0,fun _=>0⟩:CF)=CF.num 1:=by rw[show ((1:Int):Rat)=1 by decide +kernel];rfl
 rw[n1]at k2;obtain⟨b,a,n,c,b',Q,n',W,g1,g2,rfl⟩:=Sw k2;refine G.l (ι:=Nat×(Bool×SlI)×(Bool×SlI)×Nat×Nat) (fun i=>[(2,.p 0 0),(4,.p 1 0),(5,.p 1001 0),(9,sV ya ss.length yc),(10,iV ss.length),(11,iV i.1)])
  (fun i=>[(0,⟨30,[sV xa T.length xc,sV xb R.length xd,sV xe F.length xf,iV lab]⟩),(1,⟨108,[bF,sN,bF,sN,.v (.map none),.v (.map none)]⟩),(1001,⟨108,[bV i.2.1.1,sV i.2.1.2.1 i.2.1.2.2.1 i.2.1.2.2.2,bV i.2.2.1.1,sV i.2.2.1.2.1 i.2.2.1.2.2.1 i.2.2.1.2.2.2,.v (.map (some i.2.2.2.1)),.v (.map (some i.2.2.2.2))]⟩)])
  (fun i u' m'=>i.1<=ss.length/\R9 u' (.agg #[.bool i.2.1.1,.slice i.2.1.2.1 i.2.1.2.2.1 i.2.1.2.2.2,.bool i.2.2.1.1,.slice i.2.2.1.2.1 i.2.2.1.2.2.1 i.2.2.1.2.2.2,.map (some i.2.2.2.1),.map (some i.2.2.2.2)]) (Iv (CF.num 1) (L.take i.1)) (2^i.1-1)/\m'=PH.mt)
  (fun i=>ss.length-i.1) (0,(b,a,n,c),(b',Q,n',W),g1,g2) ⟨oV,k2,rfl⟩ ?_
 rintro J ⟨i,⟨b,a,n,c⟩,⟨b',Q,n',W⟩,g1,g2⟩ hJ u3 m3 l3 ⟨hi,K,rfl⟩;simp only at hi K hJ;have C:=l2.trans l3;by_cases j:i<ss.length
 ·refine G.lT i ss.length ?_;obtain⟨bb,off,rfl,e⟩:=M5 (hS.mono C) j;refine G.N ss.length yc j e ?_;have I:ss.getD i []=ss[i]:=by simp[A02,A01 j]
  have H:T[i]?=some T[i]:=A01 oV;have E:L[i]?=some (Gm F lab i (ss.getD i [])):=by rw[P,I];exact Hg (A01 j)
  have a2:(Gm F lab i (ss.getD i [])).Small:=m _ (A1k E);have hv:=hT.val i _ _ H (A01 j);rw[<-I]at hv;refine G.c call112 (Kk.all (Ahp (hX.mono C) (ok.mono C) H hv)) ?_;intro v4 u4 l4 k4;obtain⟨b4,a4,n4,c4,ab,aa,am,ac,ae,af,rfl⟩:=Sw k4;have a1:2^i<=2^7:=A10 oV oV;have ag:1<=2^i:=Nat.one_le_two_pow;obtain⟨Y,ad⟩:=R2 m i oV;have t:Iv (CF.num 1) (L.take (i+1))=(Iv (CF.num 1) (L.take i)).mul (Gm F lab i (ss.getD i [])).cf:=by
   rw[A1n,E];exact Aa0 _ _ _
  refine G.c call111 (Kk.all (Arj (K.mono l4) k4 (Azw Y a2.cfd oV (Azz oV) (Nat.pos_of_ne_zero mV) oV))) ?_;intro v5 u5 l5 k5;obtain⟨b5,a5,n5,c5,V,U,a8,X,Z,a0,rfl⟩:=Sw k5;refine G.i i ?_;rw[<-t]at k5;exact G.b (hJ (i+1,(b5,a5,n5,c5),(V,U,a8,X),Z,a0) _ _ _ cV ((l3.trans l4).trans l5) ⟨dV,k5.up (by dsimp only;rw[A2d];omega),rfl⟩ dV)
 obtain rfl:i=ss.length:=oV;refine G.lF ss.length ss.length ?_;have a7:L.take ss.length=L:=by rw[A1j oV]
 have a6:CFS (Iv (CF.num 1) L):=by
  obtain⟨q1,_⟩:=R2 m L.length (A08 _);rw[A15]at q1;exact q1.cfs oV (A0n oV)
 rw[a7]at K;have a1:2^ss.length<=2^8:=A10 oV oV;exact G.r (.agg #[.bool b,.slice a n c,.bool b',.slice Q n' W,.map (some g1),.map (some g2)]) ⟨rfl,K.up oV,a6⟩
end
section
variable {u:PH}
def Tw {p:Par}(h:PV p):zF 161 [Ap p] u fun v _=>v=zT:=by
 refine Fn0.o func161<|G.hT' p.1 (-1) (by have:=h.lo;omega) ?_;by_cases e:p.2 = []
 ·exact G.q p.2 [] e<|G.z zT
 refine G.w p.2 [] e<|G.c call107 (Rr (h.cat.resolve_left e)) ?_;rintro t m j rfl;exact G.z zT
def ElP.par {b off:Nat}{x:Par×Rat}(h:ElP u b off (Bt x)):ElP u b (off+0) (.agg #[zI x.1.1,zS x.1.2]):=h.sub fun i y e=>by
 match i,e with
 |0,e=>simpa[Bt,Value.cells] using e
 |1,e=>simpa[Bt,Value.cells] using e
 |i+2,e=>simp[Value.cells]at e
def Ahu {v:Value}{F:CF}{K:Nat}(h:No u v F K)(sF:CFS F)(vF:CFV F)(hK:K<=1000000):zF 92 [v] u fun r _=>r=zT:=by
 obtain⟨T,Q,a1,c1,a2,c2,rfl,hT,hQ,cT,cQ,kT,kQ⟩:=h;refine Fn0.o func92<|G.c call24 (Ee (SB.tx sF.c)) ?_;rintro v1 u1 l1 rfl;refine G.l (ι:=Nat) (fun i=>[(1,.p 0 0),(12,sV a1 T.length c1),(13,iV T.length),(14,iV i)])
  (fun _=>[(0,⟨38,[tV (Ae F.c),sV a1 T.length c1,sV a2 Q.length c2]⟩)])
  (fun i u' m'=>i<=T.length/\m'=PH.mt) (fun i=>T.length-i) 0 ⟨oV,rfl⟩ ?_
 rintro J i X u2 m2 l2 ⟨hi,rfl⟩;have W:=l1.trans l2;by_cases C:i<T.length
 ·refine G.lT i T.length ?_;obtain⟨x,P⟩:∃ x,T[i]?=some x:=⟨_,A01 C⟩;have E:=A1k P;obtain⟨m,H⟩:=cT.val _ E;obtain⟨ba,oa,rfl,ea⟩:=Ac.at' (hT.mono W) (j:=i) (e:=Bt x) (by simp[P]);have R:SB x.2:=by rw[m];exact sF.s _
  have a6:PV x.1:=vF.s x.1 (by rw[<-m];exact H);refine G.N T.length c1 C ea<|G.c call161 (Tw a6) ?_;rintro v3 u3 U rfl;refine G.c call24 (Ee (SB.tx R)) ?_;rintro v4 u4 V rfl;refine G.w (Ae x.2) [48] (Sf H) ?_;by_cases h0:i=0
  ·subst h0;exact G.gF (0:Nat) 0<|G.p (0:Nat) 1 (0+1:Nat)<|G.b (X (0+1) _ _ _ cV ((l2.trans U).trans V) ⟨oV,rfl⟩ oV)
  refine G.gT i 0<|G.s i 1 (i-1:Nat) ?_;obtain⟨y,Z⟩:∃ y,T[i-1]?=some y:=⟨_,A01 oV⟩;have I:Bk y.1 x.1<0:=by
   have hp:=cT.srt;obtain⟨h1,rfl⟩:=A05.1 P;obtain⟨h2,rfl⟩:=A05.1 Z;have:=A3n.1 hp (i-1) i (by rw[A03];omega) (by rw[A03];omega) oV;rw[A3v,A3v]at this;exact this
  obtain⟨bb,ob,e1,eb⟩:=Ac.at' (hT.mono ((W.trans U).trans V)) (j:=i-1) (e:=Bt y) (by simp[Z]);cases e1;refine G.a ba oa T.length c1 (i-1) 3 oV<|G.f 162 ba (oa+(i-1)*3) 0 0<|G.g (some 2) eb.par<|G.c call113 (Fp y.1 x.1 true (decide_eq_true I)) ?_;rintro v5 u5 l5 rfl;exact G.i i<|G.b (X (i+1) _ _ _ cV (((l2.trans U).trans V).trans l5) ⟨oV,rfl⟩ oV)
 obtain rfl:i=T.length:=oV;refine G.lF T.length T.length ?_;clear X;refine G.l (ι:=Nat) (fun i=>[(1,.p 0 0),(53,sV a2 Q.length c2),(54,iV Q.length),(55,iV i)])
  (fun _=>[(0,⟨38,[tV (Ae F.c),sV a1 T.length c1,sV a2 Q.length c2]⟩)])
  (fun i u' m'=>i<=Q.length/\m'=PH.mt) (fun i=>Q.length-i) 0 ⟨oV,rfl⟩ ?_
 rintro J i X u3 m3 U ⟨hi,rfl⟩;have a3:=W.trans U;by_cases C:i<Q.length
 ·refine G.lT i Q.length ?_;obtain⟨x,L⟩:∃ x,Q[i]?=some x:=⟨_,A01 C⟩;have E:=A1k L;obtain⟨m,H⟩:=cQ.val _ E;obtain⟨ba,oa,rfl,ea⟩:=Ac.at' (hQ.mono a3) (j:=i) (e:=D8 x) (by simp[L]);have R:SB x.2:=by rw[m];exact sF.t _
  obtain⟨a4,a5,a0⟩:=vF.t x.1 (by rw[<-m];exact H);refine G.N Q.length c2 C ea<|G.c call161 (Tw a4) ?_;rintro v3 u4 V rfl;refine G.c call161 (Tw a5) ?_;rintro v4 u5 l5 rfl;refine G.c call113 (Fp x.1.2 x.1.1 false (decide_eq_false fun e=>a0 ((Et.sym _ _).1 e))) ?_;rintro v5 u6 l6 rfl;refine G.c call24 (Ee (SB.tx R)) ?_;rintro v6 u7 l7 rfl;refine G.w (Ae x.2) [48] (Sf H) ?_;by_cases h0:i=0
  ·subst h0;exact G.gF (0:Nat) 0<|G.p (0:Nat) 1 (0+1:Nat)<|G.b (X (0+1) _ _ _ cV ((((U.trans V).trans l5).trans l6).trans l7) ⟨oV,rfl⟩ oV)
  refine G.gT i 0<|G.s i 1 (i-1:Nat) ?_;obtain⟨y,Y⟩:∃ y,Q[i-1]?=some y:=⟨_,A01 oV⟩;have I:Oc y.1 x.1<0:=by
   have hp:=cQ.srt;obtain⟨h1,rfl⟩:=A05.1 L;obtain⟨h2,rfl⟩:=A05.1 Y;have:=A3n.1 hp (i-1) i (by rw[A03];omega) (by rw[A03];omega) oV;rw[A3v,A3v]at this;exact this
  obtain⟨bb,ob,e1,eb⟩:=Ac.at' (hQ.mono ((((a3.trans V).trans l5).trans l6).trans l7)) (j:=i-1) (e:=D8 y) (by simp[Y]);cases e1;refine G.n Q.length c2 eb<|G.c call114 (P4 y x true (decide_eq_true I)) ?_;rintro v5 u8 l8 rfl;exact G.i i<|G.b (X (i+1) _ _ _ cV (((((U.trans V).trans l5).trans l6).trans l7).trans l8) ⟨oV,rfl⟩ oV)
 obtain rfl:i=Q.length:=oV;exact G.lF Q.length Q.length<|G.z zT
end
end Go.Proofs.YtemmheaocgmebaaGreatDoor
