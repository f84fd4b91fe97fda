/- Parts of one proof, joined by a program. -/
import Derived.Test.YtemmheaocgmebaaGreatDoorW08
set_option linter.defProp false
set_option linter.unusedVariables false
set_option linter.unusedSimpArgs false
set_option linter.unusedSectionVars false
set_option maxHeartbeats 16000000
namespace Go.Proofs.YtemmheaocgmebaaGreatDoor
open Go.Proofs.Tryz
open Go.RowKit Go.MapKept
def A9f:=@Rat.zero_add
theorem Arj {u:PH}{F H:CF}{N M:Nat}{v w:Value}(hv:R9 u v F N)(hw:R9 u w H M)(ok:Aw3 F H) :
 Ag prog 111 [v,w] u PH.mt fun v' u' U=>Kk U u' v' (F.mul H) (M+N+N*M):=by
 obtain⟨vb,va,vn,vc,az,ay,b1,b0,v1,v2,q1,q2,rfl,cx,f1,f2,s1,s2⟩:=id hv;obtain⟨wb,wa,wn,wc,b5,b3,b7,b6,w1,w2,p1,p2,rfl,cy,e1,e2,t1,t2⟩:=id hw;obtain⟨lv,⟨aa,P,rfl,ct,bi⟩,db,dj,f4⟩:=s1.at;obtain⟨lw,⟨ab,V,rfl,cu,bk⟩,dd,dl,e8⟩:=t1.at;obtain⟨kv,⟨b8,ad,rfl,cc,bj⟩,dc,dk,er⟩:=s2.at;obtain⟨kw,⟨ba,ae,rfl,cd,bl⟩,df,dm,et⟩:=t2.at;have ce:(lv.map (·.1)).Nodup:=Hu.nodup (enc:=Ap) ⟨aa,P,rfl,ct,bi⟩;have cg:(lw.map (·.1)).Nodup:=Hu.nodup (enc:=Ap) ⟨ab,V,rfl,cu,bk⟩;have cv:(kv.map (·.1)).Nodup:=Hu.nodup (enc:=prV) ⟨b8,ad,rfl,cc,bj⟩;have cw:(kw.map (·.1)).Nodup:=Hu.nodup (enc:=prV) ⟨ba,ae,rfl,cd,bl⟩;refine Ag.o func111<|G.callO _ _ kV call46 (Jm (n:=0) oV oV) ?_;rintro v3 u3 m3 l3 ⟨b,a,n,c,b',a',n',c',g1,g2,o1,o2,rfl,_,ak,rfl,h1,h2⟩ _;rw[By];refine G.c call28 (Gh (cx.mono l3) (cy.mono l3) (SB.ten ok.a.c) (SB.ten ok.b.c)) ?_;intro v5 u5 l5 r5;obtain⟨b2,a2,x2,c2,E,K,I,rfl,_⟩:=r5.opn;have d3:=l3.trans l5;obtain⟨m5,e7,cr,cs⟩:∃ m5:PH,m5=(PH.mt.upd g1 o1).upd g2 o2/\m5 g1=some o1/\m5 g2=some o2:=⟨_,rfl,by rw[Ad _ _ ak,Ab],Ab _ _ _⟩;rw[<-e7];have ao:CFS (F.scale H.c):=ok.d;have d9:CFS (H.scale F.c):=ok.c;have ch:∀ k,SB ((F.scale H.c).s k+H.s k*F.c):=fun k=>by rw[A46];exact ok.e.s k
 have bh:∀ k,SB ((F.scale H.c).t k+H.t k*F.c):=fun k=>by rw[A46];exact ok.e.t k
 have dh:∀ k:Par,SB ((fun _:Par=>(0:Rat)) k+F.s k*H.c):=fun k=>by show SB (0+F.s k*H.c);rw[A9f];exact ao.s k
 have di:∀ k:Par×Par,SB ((fun _:Par×Par=>(0:Rat)) k+F.t k*H.c):=fun k=>by show SB (0+F.t k*H.c);rw[A9f];exact ao.t k
 have e0:D7 Ap KT u5 o1 (fun _=>0) 0:=h1.mono l5;have dw:D7 prV KO u5 o2 (fun _=>0) 0:=h2.mono l5;have f5:=d3;refine G.mapRange v1 aa P 118 69 kV (.inl (d3 _ _ f1)) ?_;intro ap c7 ek;have cz:g1≠ap:=fun e=>by subst e;rw[c7]at cr;cases cr
 have dp:g2≠ap:=fun e=>by subst e;rw[c7]at cs;cases cs
 refine G.l (ι:=List MapEntry×List ((Par)×Value)) (fun _=>[(2,.p 0 0),(3,.p 1 0),(4,.p 2 0),(5,.p 1001 0),(28,.v (.pointer (zA ap)))])
  (fun _=>[(0,⟨108,[bV vb,sV va vn vc,bV az,sV ay b1 b0,.v (.map (some v1)),.v (.map (some v2))]⟩),(1,⟨108,[bV wb,sV wa wn wc,bV b5,sV b3 b7 b6,.v (.map (some w1)),.v (.map (some w2))]⟩),(2,⟨108,[bV false,sV none 0 0,bV false,sV none 0 0,.v (.map none),.v (.map none)]⟩),(1001,⟨108,[bV b2,sV a2 x2 c2,bV false,sV E K I,.v (.map (some g1)),.v (.map (some g2))]⟩)])
  (fun i u' U=>Gj Ap aa lv i.1 i.2/\U ap=some (.mapIter (some v1) P (Ar i.1) P)/\U g2=some o2/\∃ oo,U g1=some oo/\D7 Ap KT u' oo (Ek (fun _=>0) F.s H.c (i.2.map (·.1))) (0+i.2.length))
  (fun i=>lv.length-i.2.length) ([],[])
  ⟨Gj.nil _ _,Ab _ _ _,by rw[Ad _ _ dp];exact cs,_,by rw[Ad _ _ cz];exact cr,by
   have:Ek (fun _=>0) F.s H.c (([]:List ((Par)×Value)).map (·.1))=(fun _=>0):=by funext k;simp[Ek]
   dsimp only;rw[this];exact e0⟩ ?_
 rintro JA ⟨D,LA⟩ cl uA mA lA ⟨W,C,Z,oA,ag,bb⟩;simp only at W C Z ag bb cl;have ar:=d3.trans lA;refine G.mapNextL Bq.inj ap v1 aa P lv D LA kV kV C (.inl (ar _ _ f1)) bi ct ce W ?doneA ?nextA
 case nextA =>
  rintro⟨k,xv⟩ e hp hkn he hek hev hS';simp only at hkn hek hev;obtain⟨hx,ac⟩:=db _ hp;simp only at hx ac;obtain⟨yb,ya,yn,yc,bm,bo,bn,rfl,_⟩:=hx.opn;refine G.mapEntry ap v1 aa P D e kV (Ab _ _ _) (.inl (ar _ _ f1)) bi he ?_;rw[hek,hev];refine G.c call28 (Gh (hx.mono ar) (cy.mono ar) (SB.ten (ok.a.s k)) (SB.ten ok.b.c)) ?_;intro v4 u4 a1 r4;obtain⟨b4,a4,x4,c4,cj,d6,ck,rfl,_⟩:=r4.opn;refine G.callG _ _ kV kV call109 (g:=g1) (o:=oA) (by rw[Ad _ _ cz];exact ag)
   (Oi (g2:=some g2) (y1:=b2) (y2:=(a2,x2,c2)) (y3:=false) (y4:=(E,K,I)) (bb.mono a1) r4 (ao.s k) (O3 (fun _=>SB.zero) dh k) (by
    have:Ek (fun _=>0) F.s H.c (LA.map (·.1)) k=(fun _=>0) k:=by unfold Ek;rw[if_neg hkn]
    rw[this,A46];exact dh k)) ?_
  intro v5 u5 o5 a3 a5;rw[Jo _ _ _ hkn]at a5;refine G.b (cl (D++[e],LA++[(k,_)]) _ _ _ cV ((lA.trans a1).trans a3)
   ⟨hS',by rw[Ad _ _ (Ne.symm cz),Ab],by rw[Ad _ _ (Ne.symm ak),Ad _ _ dp];exact Z,o5,Ab _ _ _,by
    simpa[A3p] using a5⟩ (by have:=hS'.len;simp at this;dsimp only;simp;omega))
 case doneA =>
 intro z;rw[Me _ _ _ fun k hk=>dj k fun hm=>hk (by
  obtain⟨p,hp,rfl⟩:=A1b.1 hm;exact A1b.2 ⟨p,z p hp,rfl⟩)]at bb
 have ef:=W.len;have e3:=bb.congr (f':=(F.scale H.c).s) (fun k=>by show 0+F.s k*H.c=F.s k*H.c;rw[A9f]);have dx:=dw.mono lA;clear cl W C z bb;refine G.mapRange w1 ab V 118 69 kV (.inl (ar _ _ e1)) ?_;intro aq c8 em;have d0:g1≠aq:=fun e=>by subst e;rw[c8]at ag;cases ag
 have dq:g2≠aq:=fun e=>by subst e;rw[c8]at Z;cases Z
 refine G.l (ι:=List MapEntry×List ((Par)×Value)) (fun _=>[(2,.p 0 0),(3,.p 1 0),(4,.p 2 0),(5,.p 1001 0),(43,.v (.pointer (zA aq)))])
  (fun _=>[(0,⟨108,[bV vb,sV va vn vc,bV az,sV ay b1 b0,.v (.map (some v1)),.v (.map (some v2))]⟩),(1,⟨108,[bV wb,sV wa wn wc,bV b5,sV b3 b7 b6,.v (.map (some w1)),.v (.map (some w2))]⟩),(2,⟨108,[bV false,sV none 0 0,bV false,sV none 0 0,.v (.map none),.v (.map none)]⟩),(1001,⟨108,[bV b2,sV a2 x2 c2,bV false,sV E K I,.v (.map (some g1)),.v (.map (some g2))]⟩)])
  (fun i u' U=>Gj Ap ab lw i.1 i.2/\U aq=some (.mapIter (some w1) V (Ar i.1) V)/\U g2=some o2/\∃ oo,U g1=some oo/\D7 Ap KT u' oo (Ek (F.scale H.c).s H.s F.c (i.2.map (·.1))) (0+LA.length+i.2.length))
  (fun i=>lw.length-i.2.length) ([],[])
  ⟨Gj.nil _ _,Ab _ _ _,by rw[Ad _ _ dq];exact Z,_,by rw[Ad _ _ d0];exact ag,by
   have:Ek (F.scale H.c).s H.s F.c (([]:List ((Par)×Value)).map (·.1))=(F.scale H.c).s:=by funext k;simp[Ek]
   dsimp only;rw[this];exact e3⟩ ?_
 rintro JB ⟨D,LB⟩ cm uB mB lB ⟨W,C,a0,oB,ah,bd⟩;simp only at W C a0 ah bd cm;have au:=ar.trans lB;refine G.mapNextL Bq.inj aq w1 ab V lw D LB kV kV C (.inl (au _ _ e1)) bk cu cg W ?doneB ?nextB
 case nextB =>
  rintro⟨k,xv⟩ e hp hkn he hek hev hS';simp only at hkn hek hev;obtain⟨hx,ac⟩:=dd _ hp;simp only at hx ac;obtain⟨yb,ya,yn,yc,bm,bo,bn,rfl,_⟩:=hx.opn;refine G.mapEntry aq w1 ab V D e kV (Ab _ _ _) (.inl (au _ _ e1)) bk he ?_;rw[hek,hev];refine G.c call28 (Gh (hx.mono au) (cx.mono au) (SB.ten (ok.b.s k)) (SB.ten ok.a.c)) ?_;intro v4 u4 a1 r4;obtain⟨b4,a4,x4,c4,cj,d6,ck,rfl,_⟩:=r4.opn;refine G.callG _ _ kV kV call109 (g:=g1) (o:=oB) (by rw[Ad _ _ d0];exact ah)
   (Oi (g2:=some g2) (y1:=b2) (y2:=(a2,x2,c2)) (y3:=false) (y4:=(E,K,I)) (bd.mono a1) r4 (d9.s k) (O3 ao.s ch k) (by
    have:Ek (F.scale H.c).s H.s F.c (LB.map (·.1)) k=(F.scale H.c).s k:=by unfold Ek;rw[if_neg hkn]
    rw[this,A46];exact ch k)) ?_
  intro v5 u5 o5 a3 a5;rw[Jo _ _ _ hkn]at a5;refine G.b (cm (D++[e],LB++[(k,_)]) _ _ _ cV ((lB.trans a1).trans a3)
   ⟨hS',by rw[Ad _ _ (Ne.symm d0),Ab],by rw[Ad _ _ (Ne.symm ak),Ad _ _ dq];exact a0,o5,Ab _ _ _,by
    simpa[A3p] using a5⟩ (by have:=hS'.len;simp at this;dsimp only;simp;omega))
 case doneB =>
 intro z;rw[Me _ _ _ fun k hk=>dl k fun hm=>hk (by
  obtain⟨p,hp,rfl⟩:=A1b.1 hm;exact A1b.2 ⟨p,z p hp,rfl⟩)]at bd
 have eg:=W.len;have e4:=bd.congr (f':=(F.mul H).s) (fun k=>by show F.s k*H.c+H.s k*F.c=H.s k*F.c+F.s k*H.c;rw[A46]);have dy:=dx.mono lB;clear cm W C z bd;refine G.mapRange v2 b8 ad 175 69 kV (.inl (au _ _ f2)) ?_;intro ai ca eo;have d1:g1≠ai:=fun e=>by subst e;rw[ca]at ah;cases ah
 have bu:g2≠ai:=fun e=>by subst e;rw[ca]at a0;cases a0
 refine G.l (ι:=List MapEntry×List ((Par×Par)×Value)) (fun _=>[(2,.p 0 0),(3,.p 1 0),(4,.p 2 0),(5,.p 1001 0),(58,.v (.pointer (zA ai)))])
  (fun _=>[(0,⟨108,[bV vb,sV va vn vc,bV az,sV ay b1 b0,.v (.map (some v1)),.v (.map (some v2))]⟩),(1,⟨108,[bV wb,sV wa wn wc,bV b5,sV b3 b7 b6,.v (.map (some w1)),.v (.map (some w2))]⟩),(2,⟨108,[bV false,sV none 0 0,bV false,sV none 0 0,.v (.map none),.v (.map none)]⟩),(1001,⟨108,[bV b2,sV a2 x2 c2,bV false,sV E K I,.v (.map (some g1)),.v (.map (some g2))]⟩)])
  (fun i u' U=>Gj prV b8 kv i.1 i.2/\U ai=some (.mapIter (some v2) ad (Ar i.1) ad)/\U g1=some oB/\∃ oo,U g2=some oo/\D7 prV KO u' oo (Ek (fun _=>0) F.t H.c (i.2.map (·.1))) (0+i.2.length))
  (fun i=>kv.length-i.2.length) ([],[])
  ⟨Gj.nil _ _,Ab _ _ _,by rw[Ad _ _ d1];exact ah,_,by rw[Ad _ _ bu];exact a0,by
   have:Ek (fun _=>0) F.t H.c (([]:List ((Par×Par)×Value)).map (·.1))=(fun _=>0):=by funext k;simp[Ek]
   dsimp only;rw[this];exact dy⟩ ?_
 rintro JC ⟨D,LC⟩ cn uC mC lC ⟨W,C,Q,oC,a7,be⟩;simp only at W C Q a7 be cn;have av:=au.trans lC;refine G.mapNextL I1.inj ai v2 b8 ad kv D LC kV kV C (.inl (av _ _ f2)) bj cc cv W ?doneC ?nextC
 case nextC =>
  rintro⟨k,xv⟩ e hp hkn he hek hev hS';simp only at hkn hek hev;obtain⟨hx,ac⟩:=dc _ hp;simp only at hx ac;obtain⟨yb,ya,yn,yc,bm,bo,bn,rfl,_⟩:=hx.opn;refine G.mapEntry ai v2 b8 ad D e kV (Ab _ _ _) (.inl (av _ _ f2)) bj he ?_;rw[hek,hev];have Y:=ac.fix;refine G.pub 13003 175 [zI k.1.1,zS k.1.2,zI k.2.1,zS k.2.2] kV kV ?_;intro bq e9 T;have q1:g1≠bq:=fun e=>by subst e;rw[Ad _ _ d1,Q]at T;cases T
  have q2:g2≠bq:=fun e=>by subst e;rw[Ad _ _ bu,a7]at T;cases T
  have q3:ai≠bq:=fun e=>by subst e;rw[Ab]at T;cases T
  obtain⟨d4,d5⟩:=Aly (m:=(mC.upd ai (.mapIter (some v2) ad (Ar (D++[e])) ad)).upd bq (.cells [Value.int .i64 k.1.1,zS k.1.2,zI k.2.1,zS k.2.2].toArray 175 (0,0))) (Ab _ _ _);refine G.addrA 175 118 2 bq 0 0 2 kV kV kV kV oV<|G.v (some 2) d4<|G.addrA 175 118 2 bq 0 1 2 kV kV kV kV oV<|G.v (some 2) d5<|G.c call28 (Gh (hx.mono av) (cy.mono av) (SB.ten (ok.a.t k)) (SB.ten ok.b.c)) ?_;intro v4 u4 a1 r4;obtain⟨b4,a4,x4,c4,cj,d6,ck,rfl,_⟩:=r4.opn;refine G.callG _ _ kV kV call110 (g:=g2) (o:=oC) (by rw[Ad _ _ q2,Ad _ _ bu];exact a7)
   (H7 (g1:=some g1) (y1:=b2) (y2:=(a2,x2,c2)) (y3:=false) (y4:=(E,K,I)) (p:=k.1) (r:=k.2) (be.mono a1) r4 (ao.t k) (by rw[Y];exact O3 (fun _=>SB.zero) di k) (by
    have:Ek (fun _=>0) F.t H.c (LC.map (·.1)) k=(fun _=>0) k:=by unfold Ek;rw[if_neg hkn]
    rw[Y,this,A46];exact di k)) ?_
  intro v5 u5 o5 a3 a5;rw[Y,Jo _ _ _ hkn]at a5;refine G.b (cn (D++[e],LC++[(k,_)]) _ _ _ cV ((lC.trans a1).trans a3)
   ⟨hS',by rw[Ad _ _ (Ne.symm bu),Ad _ _ q3,Ab],by rw[Ad _ _ ak,Ad _ _ q1,Ad _ _ d1];exact Q,o5,Ab _ _ _,by
    simpa[A3p] using a5⟩ (by have:=hS'.len;simp at this;dsimp only;simp;omega))
 case doneC =>
 intro z;rw[Me _ _ _ fun k hk=>dk k fun hm=>hk (by
  obtain⟨p,hp,rfl⟩:=A1b.1 hm;exact A1b.2 ⟨p,z p hp,rfl⟩)]at be
 have eh:=W.len;have dz:=be.congr (f':=(F.scale H.c).t) (fun k=>by show 0+F.t k*H.c=F.t k*H.c;rw[A9f]);have e5:=e4.mono lC;clear cn W C z be;refine G.mapRange w2 ba ae 175 69 kV (.inl (av _ _ e2)) ?_;intro aj cb ep;have d2:g1≠aj:=fun e=>by subst e;rw[cb]at Q;cases Q
 have bw:g2≠aj:=fun e=>by subst e;rw[cb]at a7;cases a7
 refine G.l (ι:=List MapEntry×List ((Par×Par)×Value)) (fun _=>[(2,.p 0 0),(3,.p 1 0),(4,.p 2 0),(5,.p 1001 0),(76,.v (.pointer (zA aj)))])
  (fun _=>[(0,⟨108,[bV vb,sV va vn vc,bV az,sV ay b1 b0,.v (.map (some v1)),.v (.map (some v2))]⟩),(1,⟨108,[bV wb,sV wa wn wc,bV b5,sV b3 b7 b6,.v (.map (some w1)),.v (.map (some w2))]⟩),(2,⟨108,[bV false,sV none 0 0,bV false,sV none 0 0,.v (.map none),.v (.map none)]⟩),(1001,⟨108,[bV b2,sV a2 x2 c2,bV false,sV E K I,.v (.map (some g1)),.v (.map (some g2))]⟩)])
  (fun i u' U=>Gj prV ba kw i.1 i.2/\U aj=some (.mapIter (some w2) ae (Ar i.1) ae)/\U g1=some oB/\∃ oo,U g2=some oo/\D7 prV KO u' oo (Ek (F.scale H.c).t H.t F.c (i.2.map (·.1))) (0+LC.length+i.2.length))
  (fun i=>kw.length-i.2.length) ([],[])
  ⟨Gj.nil _ _,Ab _ _ _,by rw[Ad _ _ d2];exact Q,_,by rw[Ad _ _ bw];exact a7,by
   have:Ek (F.scale H.c).t H.t F.c (([]:List ((Par×Par)×Value)).map (·.1))=(F.scale H.c).t:=by funext k;simp[Ek]
   dsimp only;rw[this];exact dz⟩ ?_
 rintro JD ⟨D,LD⟩ co uD mD lD ⟨W,C,R,oD,a8,bf⟩;simp only at W C R a8 bf co;have aw:=av.trans lD;refine G.mapNextL I1.inj aj w2 ba ae kw D LD kV kV C (.inl (aw _ _ e2)) bl cd cw W ?doneD ?nextD
 case nextD =>
  rintro⟨k,xv⟩ e hp hkn he hek hev hS';simp only at hkn hek hev;obtain⟨hx,ac⟩:=df _ hp;simp only at hx ac;obtain⟨yb,ya,yn,yc,bm,bo,bn,rfl,_⟩:=hx.opn;refine G.mapEntry aj w2 ba ae D e kV (Ab _ _ _) (.inl (aw _ _ e2)) bl he ?_;rw[hek,hev];have Y:=ac.fix;refine G.pub 17003 175 [zI k.1.1,zS k.1.2,zI k.2.1,zS k.2.2] kV kV ?_;intro bq e9 T;have q1:g1≠bq:=fun e=>by subst e;rw[Ad _ _ d2,R]at T;cases T
  have q2:g2≠bq:=fun e=>by subst e;rw[Ad _ _ bw,a8]at T;cases T
  have q3:aj≠bq:=fun e=>by subst e;rw[Ab]at T;cases T
  obtain⟨d4,d5⟩:=Aly (m:=(mD.upd aj (.mapIter (some w2) ae (Ar (D++[e])) ae)).upd bq (.cells [Value.int .i64 k.1.1,zS k.1.2,zI k.2.1,zS k.2.2].toArray 175 (0,0))) (Ab _ _ _);refine G.addrA 175 118 2 bq 0 0 2 kV kV kV kV oV<|G.v (some 2) d4<|G.addrA 175 118 2 bq 0 1 2 kV kV kV kV oV<|G.v (some 2) d5<|G.c call28 (Gh (hx.mono aw) (cx.mono aw) (SB.ten (ok.b.t k)) (SB.ten ok.a.c)) ?_;intro v4 u4 a1 r4;obtain⟨b4,a4,x4,c4,cj,d6,ck,rfl,_⟩:=r4.opn;refine G.callG _ _ kV kV call110 (g:=g2) (o:=oD) (by rw[Ad _ _ q2,Ad _ _ bw];exact a8)
   (H7 (g1:=some g1) (y1:=b2) (y2:=(a2,x2,c2)) (y3:=false) (y4:=(E,K,I)) (p:=k.1) (r:=k.2) (bf.mono a1) r4 (d9.t k) (by rw[Y];exact O3 ao.t bh k) (by
    have:Ek (F.scale H.c).t H.t F.c (LD.map (·.1)) k=(F.scale H.c).t k:=by unfold Ek;rw[if_neg hkn]
    rw[Y,this,A46];exact bh k)) ?_
  intro v5 u5 o5 a3 a5;rw[Y,Jo _ _ _ hkn]at a5;refine G.b (co (D++[e],LD++[(k,_)]) _ _ _ cV ((lD.trans a1).trans a3)
   ⟨hS',by rw[Ad _ _ (Ne.symm bw),Ad _ _ q3,Ab],by rw[Ad _ _ ak,Ad _ _ q1,Ad _ _ d2];exact R,o5,Ab _ _ _,by
    simpa[A3p] using a5⟩ (by have:=hS'.len;simp at this;dsimp only;simp;omega))
 case doneD =>
 intro z;rw[Me _ _ _ fun k hk=>dm k fun hm=>hk (by
  obtain⟨p,hp,rfl⟩:=A1b.1 hm;exact A1b.2 ⟨p,z p hp,rfl⟩)]at bf
 have ei:=W.len;have d7:=bf.congr (f':=((H.scale F.c).add (F.scale H.c)).t) (fun k=>by show F.t k*H.c+H.t k*F.c=H.t k*F.c+F.t k*H.c;rw[A46]);have e6:=e5.mono lD;clear co W C z bf;obtain⟨base,bg⟩:∃ base:Par×Par->Rat,base=((H.scale F.c).add (F.scale H.c)).t:=⟨_,rfl⟩;have af:=ok.acc;rw[<-bg]at d7 af;have du:=ok.pr;have ds:=ok.con;refine G.mapRange v1 aa P 118 69 kV (.inl (aw _ _ f1)) ?_;intro it da f3;have i1:g1≠it:=fun e=>by subst e;rw[da]at R;cases R
 have i2:g2≠it:=fun e=>by subst e;rw[da]at a8;cases a8
 refine G.l (ι:=List MapEntry×List (Par×Value)) (fun _=>[(2,.p 0 0),(3,.p 1 0),(4,.p 2 0),(5,.p 1001 0),(94,.v (.pointer (zA it)))])
  (fun _=>[(0,⟨108,[bV vb,sV va vn vc,bV az,sV ay b1 b0,.v (.map (some v1)),.v (.map (some v2))]⟩),(1,⟨108,[bV wb,sV wa wn wc,bV b5,sV b3 b7 b6,.v (.map (some w1)),.v (.map (some w2))]⟩),(2,⟨108,[bV false,sV none 0 0,bV false,sV none 0 0,.v (.map none),.v (.map none)]⟩),(1001,⟨108,[bV b2,sV a2 x2 c2,bV false,sV E K I,.v (.map (some g1)),.v (.map (some g2))]⟩)])
  (fun i u' U=>Gj Ap aa lv i.1 i.2/\U it=some (.mapIter (some v1) P (Ar i.1) P)/\U g1=some oB/\∃ Ps:List (Par×Par),Ps.Nodup/\(∀ x:Par×Par,x∈Ps↔x.1∈i.2.map (·.1)/\x.2∈lw.map (·.1))/\∃ ax,U g2=some ax/\D7 prV KO u' ax (fun k=>base k+Er F H Ps k) (0+LC.length+LD.length+i.2.length*lw.length))
  (fun i=>lv.length-i.2.length) ([],[])
  ⟨Gj.nil _ _,Ab _ _ _,by rw[Ad _ _ i1];exact R,[],mV,mV,oD,by rw[Ad _ _ i2];exact a8,(d7.congr fun k=>by simp only[Er];grind).up mV⟩ ?_
 rintro J ⟨D,L⟩ hJ u6 m6 l6 ⟨W,C,an,Ps,d8,cp,ax,bs,hR⟩;simp only at W C an cp bs hR hJ;have c3:=aw.trans l6;refine G.mapNextL Bq.inj it v1 aa P lv D L kV kV C (.inl (c3 _ _ f1)) bi ct ce W ?done1 ?next1
 case next1 =>
  rintro⟨p,xv⟩ e hp hpn he hek hev hS';simp only at hpn hek hev;have hx:=(db _ hp).1;simp only at hx;obtain⟨yb,ya,yn,yc,bm,bo,bn,rfl,_⟩:=hx.opn;refine G.mapEntry it v1 aa P D e kV (Ab _ _ _) (.inl (c3 _ _ f1)) bi he ?_;rw[hek,hev];refine G.mapRange w1 ab V 118 69 kV (.inl (c3 _ _ e1)) ?_;intro al a6 ej;have j1:g1≠al:=fun e=>by subst e;rw[Ad _ _ i1,an]at a6;cases a6
  have j2:g2≠al:=fun e=>by subst e;rw[Ad _ _ i2,bs]at a6;cases a6
  have k1:it≠al:=fun e=>by subst e;rw[Ab]at a6;cases a6
  refine G.l (ι:=List MapEntry×List (Par×Value)) (fun _=>[(2,.p 0 0),(3,.p 1 0),(4,.p 2 0),(5,.p 1001 0),(14,.p 21003 0),(15,.p 21004 0),(94,.v (.pointer (zA it))),(102,.v (.pointer (zA al)))])
   (fun _=>[(0,⟨108,[bV vb,sV va vn vc,bV az,sV ay b1 b0,.v (.map (some v1)),.v (.map (some v2))]⟩),(1,⟨108,[bV wb,sV wa wn wc,bV b5,sV b3 b7 b6,.v (.map (some w1)),.v (.map (some w2))]⟩),(2,⟨108,[bV false,sV none 0 0,bV false,sV none 0 0,.v (.map none),.v (.map none)]⟩),(1001,⟨108,[bV b2,sV a2 x2 c2,bV false,sV E K I,.v (.map (some g1)),.v (.map (some g2))]⟩),(21003,⟨118,[iV p.1,tV p.2]⟩),(21004,⟨69,[bV yb,sV ya yn yc,bV false,sV bm bo bn]⟩)])
   (fun i u' U=>Gj Ap ab lw i.1 i.2/\U al=some (.mapIter (some w1) V (Ar i.1) V)/\U it=some (.mapIter (some v1) P (Ar (D++[e])) P)/\U g1=some oB/\∃ Qs:List (Par×Par),Qs.Nodup/\(∀ x:Par×Par,x∈Qs↔(x.1∈L.map (·.1)/\x.2∈lw.map (·.1))\/(x.1=p/\x.2∈i.2.map (·.1)))/\∃ oi,U g2=some oi/\D7 prV KO u' oi (fun k=>base k+Er F H Qs k) (0+LC.length+LD.length+L.length*lw.length+i.2.length))
   (fun i=>lw.length-i.2.length) ([],[])
   ⟨Gj.nil _ _,Ab _ _ _,by rw[Ad _ _ k1,Ab],by rw[Ad _ _ j1,Ad _ _ i1];exact an,Ps,d8,by intro x;rw[cp];simp,ax,by rw[Ad _ _ j2,Ad _ _ i2];exact bs,hR⟩ ?_
  rintro J2 ⟨D2,L2⟩ iJ ui mi c1 ⟨iS,ci,c0,bx,Qs,br,bp,oi,bz,iR⟩;simp only at iS ci c0 bx bp bz iR iJ;have c5:=c3.trans c1;refine G.mapNextL Bq.inj al w1 ab V lw D2 L2 kV kV ci (.inl (c5 _ _ e1)) bk cu cg iS ?done2 ?next2
  case next2 =>
   rintro⟨k,yv⟩ e2 hk hkn he2 hek2 hev2 iS';simp only at hkn hek2 hev2;have hy:=(dd _ hk).1;simp only at hy;obtain⟨zb,za,zn,zc,ea,ec,eb,rfl,_⟩:=hy.opn;have dg:(p,k)∉Qs:=fun h=>by
    rcases (bp _).1 h with h|h
    ·exact hpn h.1
    exact hkn h.2
   have am:(Qs++[(p,k)]).Nodup:=by
    rw[A4p];exact⟨br,mV,fun a ha b hb e'=>dg (by simp at hb;rw[<-hb,<-e'];exact ha)⟩
   have c6:∀ x:Par×Par,x∈Qs++[(p,k)]↔(x.1∈L.map (·.1)/\x.2∈lw.map (·.1))\/(x.1=p/\x.2∈(L2++[(k,Value.agg #[.bool zb,.slice za zn zc,zL,.slice ea ec eb])]).map (·.1)):=fun x=>by
    obtain⟨x1,x2⟩:=x;rw[A1h,bp];simp only[A1i,A1h,A2u,A7m,A12,A2i];constructor
    ·rintro ((h|⟨h1,h2⟩)|⟨h1,h2⟩)
     ·exact .inl h
     ·exact .inr ⟨h1,.inl h2⟩
     exact .inr ⟨h1,.inr h2⟩
    rintro (h|⟨h1,h2|h2⟩)
    ·exact .inl (.inl h)
    ·exact .inl (.inr ⟨h1,h2⟩)
    exact .inr ⟨h1,h2⟩
   refine G.mapEntry al w1 ab V D2 e2 kV (Ab _ _ _) (.inl (c5 _ _ e1)) bk he2 ?_;rw[hek2,hev2];refine G.c call28 (Gh (hx.mono c5) (hy.mono c5) (SB.ten (ok.a.s p)) (SB.ten (ok.b.s k))) ?_;intro v9 u9 l9 r9;obtain⟨b9,a9,n9,c9,ex,f7,f0,rfl,_⟩:=r9.opn;by_cases bt:p=k
   ·have X:con F H (p,k)=F.s p*H.s k+F.s p*H.s k:=by unfold con;rw[if_pos bt]
    refine G.eqAgg 118 #[zI p.1,zS p.2] #[zI k.1,zS k.2] true kV kV kV (fun w=>by rw[<-decide_eq_true bt];exact Bq.eq p k w)<|G.c call26 (Pd r9 r9 (SB.ten (du p k)) (SB.ten (du p k))) ?_;intro f9 f8 dr dv;obtain⟨ey,ew,f6,ez,ed,eu,ee,rfl,_⟩:=dv.opn;refine G.callG _ _ kV kV call110 (g:=g2) (o:=oi) (by rw[Ad _ _ j2];exact bz)
     (H7 (g1:=some g1) (y1:=b2) (y2:=(a2,x2,c2)) (y3:=false) (y4:=(E,K,I)) (p:=p) (r:=k) (iR.mono (l9.trans dr)) dv (by have:=ds (p,k);rw[X]at this;exact this) (af Qs br _) (by
      have:=af (Qs++[(p,k)]) am (Ay p k);rw[Jt,if_pos rfl,X]at this;rw[show (F.s p*H.s k+F.s p*H.s k)+(base (Ay p k)+Er F H Qs (Ay p k))=base (Ay p k)+((F.s p*H.s k+F.s p*H.s k)+Er F H Qs (Ay p k)) by grind];exact this)) ?_
    intro v8 u8 o8 l8 r8;refine G.b (iJ (D2++[e2],L2++[(k,_)]) _ _ _ cV ((c1.trans (l9.trans dr)).trans l8)
     ⟨iS',by rw[Ad _ _ (Ne.symm j2),Ab],by rw[Ad _ _ (Ne.symm i2),Ad _ _ k1];exact c0,by rw[Ad _ _ ak,Ad _ _ j1];exact bx,Qs++[(p,k)],am,c6,o8,Ab _ _ _,?_⟩ (by have:=iS'.len;simp at this;dsimp only;simp;omega))
    refine (r8.congr fun j=>?_).up (by simp[A3p]);rw[Jt,X];unfold Nh;by_cases e:j=Ay p k
    ·rw[if_pos e,if_pos e,e];grind
    rw[if_neg e,if_neg e]
   have X:con F H (p,k)=F.s p*H.s k:=by unfold con;rw[if_neg bt]
   refine G.eqAgg 118 #[zI p.1,zS p.2] #[zI k.1,zS k.2] false kV kV kV (fun w=>by rw[<-decide_eq_false bt];exact Bq.eq p k w)<|G.callG _ _ kV kV call110 (g:=g2) (o:=oi) (by rw[Ad _ _ j2];exact bz)
    (H7 (g1:=some g1) (y1:=b2) (y2:=(a2,x2,c2)) (y3:=false) (y4:=(E,K,I)) (p:=p) (r:=k) (iR.mono (l9)) r9 (by have:=ds (p,k);rw[X]at this;exact this) (af Qs br _) (by
     have:=af (Qs++[(p,k)]) am (Ay p k);rw[Jt,if_pos rfl,X]at this;rw[show (F.s p*H.s k)+(base (Ay p k)+Er F H Qs (Ay p k))=base (Ay p k)+((F.s p*H.s k)+Er F H Qs (Ay p k)) by grind];exact this)) ?_
   intro v8 u8 o8 l8 r8;refine G.b (iJ (D2++[e2],L2++[(k,_)]) _ _ _ cV ((c1.trans (l9)).trans l8)
    ⟨iS',by rw[Ad _ _ (Ne.symm j2),Ab],by rw[Ad _ _ (Ne.symm i2),Ad _ _ k1];exact c0,by rw[Ad _ _ ak,Ad _ _ j1];exact bx,Qs++[(p,k)],am,c6,o8,Ab _ _ _,?_⟩ (by have:=iS'.len;simp at this;dsimp only;simp;omega))
   refine (r8.congr fun j=>?_).up (by simp[A3p]);rw[Jt,X];unfold Nh;by_cases e:j=Ay p k
   ·rw[if_pos e,if_pos e,e];grind
   rw[if_neg e,if_neg e]
  case done2 =>
  intro cq;refine G.b (hJ (D++[e],L++[(p,_)]) _ _ _ cV (l6.trans c1) ⟨hS',c0,bx,Qs,br,fun x=>?_,oi,bz,iR.up ?_⟩ (by have:=hS'.len;simp at this;dsimp only;simp;omega))
  ·rw[bp];simp only[A1i,A1h,A2u,A7m,A12];constructor
   ·rintro (h|⟨h1,h2⟩)
    ·exact⟨.inl h.1,h.2⟩
    obtain⟨y,hy,e'⟩:=A1b.1 h2;exact⟨.inr h1,A1b.2 ⟨y,iS.sub y hy,e'⟩⟩
   rintro⟨h1|h1,h2⟩
   ·exact .inl ⟨h1,h2⟩
   obtain⟨y,hy,e'⟩:=A1b.1 h2;exact .inr ⟨h1,A1b.2 ⟨y,cq y hy,e'⟩⟩
  have:=iS.len;simp only[A1d,A3f,A30,A16];omega
 case done1 =>
 intro z;refine G.drop ((PH.mt.upd g1 oB).upd g2 ax) kV (fun g o hg=>?_) ?_
 ·by_cases e:g=g2
  ·subst e;rw[Ab]at hg;cases hg;exact bs
  rw[Ad _ _ e]at hg;by_cases e:g=g1
  ·subst e;rw[Ab]at hg;cases hg;exact an
  rw[Ad _ _ e]at hg;cases hg
 refine G.r (.agg #[.bool b2,.slice a2 x2 c2,zL,.slice E K I,.map (some g1),.map (some g2)]) ⟨b2,a2,x2,c2,false,E,K,I,g1,g2,oB,ax,rfl,r5.mono ((((lA.trans lB).trans lC).trans lD).trans l6),ak,rfl,(e6.mono l6).up oV,(hR.congr fun k=>?_).up ?_⟩
 ·rw[Amk F H d8 (fun p q h1 h2=>(cp _).2 ⟨?_,?_⟩) k,bg]
  ·rfl
  ·have:p∈lv.map (·.1):=A3m fun h=>h1 (dj p h);obtain⟨y,hy,e'⟩:=A1b.1 this;exact A1b.2 ⟨y,z y hy,e'⟩
  exact A3m fun h=>h2 (dl q h)
 have h1:=W.len;have h2:L.length*lw.length<=N*M:=A25 oV e8;omega
section
variable {p q:Par×Par}{κ:Type}
def Aox {κ:Type}{c:κ->κ->Int}(E:Ord c){S:List (κ×Rat)}{k:κ}{q:Rat}{n:Nat}(Q:Hb c (S.map (·.1)))(T:k∉S.map (·.1))
 (I:∀ j x,j<n->S[j]?=some x->c x.1 k<0) (J:∀ x,S[n]?=some x->¬ c x.1 k<0):Hb c ((S.take n++[(k,q)]++S.drop n).map (·.1)):=by
 have z:Hb c ((S.take n).map (·.1)++(S.drop n).map (·.1)):=by rw[<-A1i,A4h];exact Q
 unfold Hb at z⊢;rw[A35]at z;obtain⟨V,H,W⟩:=z;have K:∀ a∈(S.take n).map (·.1),c a k<0:=fun a t=>by
  obtain⟨x,C,rfl⟩:=A1b.1 t;obtain⟨j,R,rfl⟩:=A2y C;rw[A1e]at R;refine I j _ oV ?_;rw[A7w,A01 oV]
 have L:∀ b∈(S.drop n).map (·.1),c k b<0:=by
  cases hd:S.drop n with
  |nil=>intro b h;simp at h
  |cons x B =>
   rw[hd,A2u,A8y]at H;have C:S[n]?=some x:=by
    have:=congrArg (fun l=>l[0]?) hd;simpa using this
   have F:x.1≠k:=fun e=>T (A1b.2 ⟨x,A1k C,e⟩);have X:=J x C;have h0:c k x.1<0:=by
    have U:=E.sym k x.1;have Y:c x.1 k≠0:=fun e=>F (E.eq _ _ e);rw[U];omega
   intro b h;rw[A2u,A1g]at h;rcases h with rfl|h
   ·exact h0
   exact E.trans _ _ _ h0 (H.1 b h)
 rw[A1i,A1i,A35,A35];refine⟨⟨V,mV,fun a t b h=>?_⟩,H,fun a t b h=>?_⟩
 ·simp at h;subst h;exact K a t
 rcases A1h.1 t with t|t
 ·exact W a t b h
 simp at t;subst t;exact L b h
def Vy {α:Type}{S:List α}{x y:α}{n:Nat}:y∈S.take n++[x]++S.drop n↔y∈S\/y=x:=by
 have h:y∈S↔y∈S.take n\/y∈S.drop n:=by rw[<-A1h,A4h]
 rw[h];simp only[A1h,A12];constructor
 ·rintro ((a|a)|a)
  ·exact .inl (.inl a)
  ·exact .inr a
  exact .inl (.inr a)
 rintro ((a|a)|a)
 ·exact .inl (.inl a)
 ·exact .inr a
 exact .inl (.inr a)
structure R3 {κ:Type}(c:κ->κ->Int)(f:κ->Rat)(L:List κ)(S:List (κ×Rat)):Prop where
 srt:Hb c (S.map (·.1))
 val:∀ p∈S,p.2=f p.1/\p.2≠0
 mem:∀ k,k∈S.map (·.1)↔k∈L/\f k≠0
def R3.nil {κ:Type}{c:κ->κ->Int}{f:κ->Rat}:R3 c f [] []:=⟨List.Pairwise.nil,fun p hp=>by simp at hp,fun k=>mV⟩
def R3.skip {c:κ->κ->Int}{f:κ->Rat}{L:List κ}{S:List (κ×Rat)}{k:κ}(h:R3 c f L S)(h0:f k=0):R3 c f (L++[k]) S:=⟨h.srt,h.val,fun j=>by
 rw[h.mem,A1h,A12];constructor
 ·rintro⟨a,b⟩;exact⟨.inl a,b⟩
 rintro⟨a|rfl,b⟩
 ·exact⟨a,b⟩
 exact absurd h0 b⟩
def R3.put {κ:Type}{c:κ->κ->Int}(E:Ord c){f:κ->Rat}{L:List κ}{S:List (κ×Rat)}{k:κ}{n:Nat}(h:R3 c f L S)(h0:f k≠0)(H:k∉L)
 (z:∀ j x,j<n->S[j]?=some x->c x.1 k<0) (C:∀ x,S[n]?=some x->¬ c x.1 k<0):R3 c f (L++[k]) (S.take n++[(k,f k)]++S.drop n) :=
 ⟨Aox E h.srt (fun e=>H ((h.mem k).1 e).1) z C,fun p hp=>by
  rcases Vy.1 hp with e|rfl
  ·exact h.val p e
  ·exact⟨rfl,h0⟩,fun j=>by
  have:=h.mem j;constructor
  ·intro F;obtain⟨p,hp,rfl⟩:=A1b.1 F;rcases Vy.1 hp with e|rfl
   ·obtain⟨a,b⟩:=this.1 (A1b.2 ⟨p,e,rfl⟩);exact⟨A24 _ a,b⟩
   exact⟨mV,h0⟩
  rintro⟨a,b⟩;rcases A1h.1 a with e|e
  ·obtain⟨p,hp,t⟩:=A1b.1 (this.2 ⟨e,b⟩);exact A1b.2 ⟨p,Vy.2 (.inl hp),t⟩
  rw[A12]at e;exact A1b.2 ⟨(k,f k),Vy.2 (.inr rfl),e.symm⟩⟩
def R3.can {c:κ->κ->Int}{f:κ->Rat}{L:List κ}{S:List (κ×Rat)}(h:R3 c f L S)(j:∀ k,k∉L->f k=0):Can c f S:=⟨h.srt,h.val,fun k t=>by
 rcases Bas (k∈L) with e|e
 ·exact A3m fun z=>t ((h.mem k).2 ⟨e,z⟩)
 exact j k e⟩
def Ato (h:Bk p.1 q.1<0):Oc p q<0:=by unfold Oc;rw[if_pos oV];exact h
def Avb (h:¬ Bk p.1 q.1<0)(j:p.1≠q.1):¬ Oc p q<0:=by
 have t:Bk p.1 q.1≠0:=fun e=>j (Et.eq _ _ e);unfold Oc;rw[if_pos t];exact h
def Aux (h:p.1=q.1):Oc p q=Bk p.2 q.2:=by unfold Oc;rw[h,Et.refl,if_neg mV]
def P4 {u:PH}(x y:(Par×Par)×Rat)(r:Bool)(h:decide (Oc x.1 y.1<0)=r):Fn0 prog 114 [D8 x,D8 y] u fun v _=>v=.bool r:=by
 obtain⟨⟨⟨a1,a2⟩,t,z⟩,q⟩:=x;obtain⟨⟨⟨c1,c2⟩,C,E⟩,J⟩:=y;refine Fn0.o func114 ?_;by_cases e:Bk (a1,a2) (c1,c2)<0
 ·rw[decide_eq_true (Ato e)]at h;subst h;refine G.c call113 (Fp (a1,a2) (c1,c2) true (decide_eq_true e)) ?_;rintro I H F rfl;exact G.r zT ⟨rfl,rfl⟩
 refine G.c call113 (Fp (a1,a2) (c1,c2) false (decide_eq_false e)) ?_;rintro I H F rfl;by_cases j:((a1,a2):Par)=(c1,c2)
 ·refine G.eqAgg 118 #[zI a1,zS a2] #[zI c1,zS c2] true kV kV kV (fun w=>by rw[<-decide_eq_true j];exact Bq.eq (a1,a2) (c1,c2) w) ?_;rw[Aux j]at h;refine G.c call113 (Fp (t,z) (C,E) r h) ?_;rintro L K l2 rfl;cases r with
  |true=>exact G.r zT ⟨rfl,rfl⟩
  |false=>exact G.r zL ⟨rfl,rfl⟩
 rw[decide_eq_false (Avb e j)]at h;subst h;exact G.eqAgg 118 #[zI a1,zS a2] #[zI c1,zS c2] false kV kV kV (fun w=>by rw[<-decide_eq_false j];exact Bq.eq (a1,a2) (c1,c2) w)<|G.r zL ⟨rfl,rfl⟩
section
variable {P:Program} [A6 P] {fn:Func} {Post:Ce} {st:List KI×S} {u m:PH}
def G.sliceFromG (a:zP)(n c k sz:Nat)(h:Aj P (adv P st)=.slice (some sz) (.slice a n c) (some (zI k)) none none)(W:k<=n)(Y:n<=c)
 (g:G P fn Post (nx (adv P st) (.slice (if c=k then a else a.map (·.add (k*sz))) (n-k) (c-k))) u m):G P fn Post st u m:=by
 refine G.ask h mV (fun T o z w hp=>?_) g;obtain⟨t,X,L,H,M,E,J,K,Q,R,j⟩:=Jx z;obtain⟨I,V,F,pos,after,C⟩:=o;simp only at E;subst E;unfold Ot at j;split at j
 ·rename_i e hu;have U:(0:Int)<=k/\(k:Int)<=n:=oV;simp only[execOp,J,K,Q,R];simp only[Instr.sliceAt,Sem.run_bind,run_underlying hu,Result.andThen_ok,Instr.slice,Instr.sliceBounds,Instr.sliceBound,asIntOf,Sem.run_pure,if_true,Option.isSome,Sem.run_ite,Bf j,U,and_self,A23]
 cases j
end
end
section
def ElP.fld {u:PH}{b off j:Nat}{xs:Array Value}{x:Value}(h:ElP u b off (.agg xs))(z:xs[j]?=some x)(t:x.cells = #[x]):ElP u b (off+j) x:=h.sub fun i y e=>by
 rw[t]at e
 match i,e with
 |0,e=>simp at e;subst e;exact z
 |i+1,e=>simp at e
def Ajn (P:Program):List KI×S->zV->List KI×S
 |st,[]=>st
 |st,v::l=>Ajn P (nx (adv P st) v) l
section
variable {P:Program} [A6 P] {fn:Func} {Post:Ce} {st:List KI×S} {u m:PH}
def G.joinF {ι:Type}(f:List KI×S->List KI×S)(T:ι->List (Nat×SV))(B:ι->List (Nat×Blk))(z:ι->PH->PH->Prop)(K:∀ i,Up (T i) (B i)=true)(L:F2 (Ff P 200 (f st)).1=true)
 (C:∀ i h j,PH.le u h->z i h j->G P fn Post ((Ff P 200 (f st)).1,S.of (Ff P 200 (f st)).2.n (T i) (B i)) h j)
 (k:(∀ i e h j,(Ff P 200 e).1=(Ff P 200 (f st)).1->Cov (Ff P 200 (f st)).2.n (Ff P 200 e).2 (T i) (B i)->PH.le u h->z i h j->G P fn Post e h j)->G P fn Post st u m):G P fn Post st u m:=by
 refine k fun i e h j F E H I=>?_;have J:Cov (Ff P 200 e).2.n (Ff P 200 e).2 (T i) (B i):=⟨rfl,E.t,E.b⟩;refine G.canon (T i) (B i) (by rw[F];exact L) (K i) J ?_;rw[F,E.n];exact C i h j H I
end
def Aeo {L:zW}(h:L.Nodup){i k:Nat}{x y:zB}(C:L[i]?=some x)(E:L[k]?=some y)(j:k≠i):y≠x:=fun e=>by
 subst e;obtain⟨a1,a2⟩:=A05.1 C;obtain⟨t,z⟩:=A05.1 E;rcases Nat.lt_or_gt_of_ne j with e|e
 ·exact absurd (z.trans a2.symm) (A3n.1 h k i t a1 e)
 exact absurd (a2.trans z.symm) (A3n.1 h i k a1 t e)
def Rr {u:PH}{s:zB}(h:Hn s=true):Fn0 prog 107 [zS s] u fun v _=>v=zT:=by
 obtain⟨F,H⟩:=Aa2 h;obtain⟨c0,j⟩:∃ c,s[0]?=some c:=⟨_,A01 oV⟩;have I:=Y3 h j;refine Fn0.o func107<|G.eF s.length 0<|G.gF s.length 12<|G.idxS s 0 c0 kV j<|G.cmpG .lss .u8 (c0.toNat:Int) 97 false kV rfl (by simp only[Db,decide_eq_false_iff_not];omega)<|G.idxS s 0 c0 kV j<|G.cmpG .gtr .u8 (c0.toNat:Int) 122 false kV rfl (by simp only[Db,decide_eq_false_iff_not];omega)<|G.l (ι:=Nat) (fun i=>[(0,tV s),(3,iV i)]) (fun _=>[])
  (fun i R K=>i<=s.length/\K=PH.mt) (fun i=>s.length-i) 0 ⟨oV,rfl⟩ ?_
 rintro J i t T Q l2 ⟨hi,rfl⟩;by_cases z:i<s.length
 ·refine G.lT i s.length ?_;obtain⟨b,e⟩:∃ b,s[i]?=some b:=⟨_,A01 z⟩;have L:=Y3 h e;refine G.idxS s i b kV e ?_;by_cases E:97<=b.toNat
  ·exact G.cmpG .geq .u8 (b.toNat:Int) 97 true kV rfl (by simp only[Db,decide_eq_true_eq];omega)<|G.idxS s i b kV e<|G.cmpG .leq .u8 (b.toNat:Int) 122 true kV rfl (by simp only[Db,decide_eq_true_eq];omega)<|G.i i<|G.b (t (i+1) _ _ _ cV l2 ⟨oV,rfl⟩ oV)
  refine G.cmpG .geq .u8 (b.toNat:Int) 97 false kV rfl (by simp only[Db,decide_eq_false_iff_not];omega)<|G.idxS s i b kV e ?_;by_cases C:48<=b.toNat
  ·exact G.cmpG .geq .u8 (b.toNat:Int) 48 true kV rfl (by simp only[Db,decide_eq_true_eq];omega)<|G.idxS s i b kV e<|G.cmpG .leq .u8 (b.toNat:Int) 57 true kV rfl (by simp only[Db,decide_eq_true_eq];omega)<|G.i i<|G.b (t (i+1) _ _ _ cV l2 ⟨oV,rfl⟩ oV)
  exact G.cmpG .geq .u8 (b.toNat:Int) 48 false kV rfl (by simp only[Db,decide_eq_false_iff_not];omega)<|G.idxS s i b kV e<|G.cmpG .eql .u8 (b.toNat:Int) 45 true kV rfl (by simp only[Db,decide_eq_true_eq];omega)<|G.i i<|G.b (t (i+1) _ _ _ cV l2 ⟨oV,rfl⟩ oV)
 obtain rfl:i=s.length:=oV;exact G.lF s.length s.length<|G.r zT ⟨rfl,rfl⟩
def T2 {u:PH}{v:Value}{T:List (List UInt8×Nat)}{R:List Br}{F:List Al}{lab:Int}(h:H5 u v T R F lab)(ok:Bl u T R F lab) :
 Fn0 prog 45 [v] u fun r _=>r=.int .i64 0:=by
 obtain⟨xa,xc,xb,W,xe,xf,rfl,hT,hR,hF⟩:=h;have t1:=ok.t1;have t2:=ok.t2;have r1:=ok.r1;have r2:=ok.r2;have f2:=ok.f2;have lo:=ok.l1;have hi:lab<T.length:=by
  rcases A5q lab 0 with aq|bg
  ·omega
  obtain⟨n,hn⟩:=ok.l2 lab.toNat oV;obtain⟨hk,_⟩:=A05.1 hn;omega
 refine Fn0.o func45<|G.eF T.length 0<|G.gF T.length 12<|G.eF R.length 0<|G.gF R.length 6<|G.gF F.length 8<|G.l (ι:=Nat) (fun i=>[(1,.p 0 0),(49,sV xa T.length xc),(50,iV T.length),(51,iV i)])
  (fun _=>[(0,⟨30,[sV xa T.length xc,sV xb R.length W,sV xe F.length xf,iV lab]⟩)])
  (fun i u' Q=>i<=T.length/\Q=PH.mt) (fun i=>T.length-i) 0 ⟨oV,rfl⟩ ?_
 rintro J i hJ u1 m1 l1 ⟨bo,rfl⟩;by_cases aq:i<T.length
 ·refine G.lT i T.length ?_;obtain⟨x,an⟩:∃ x,T[i]?=some x:=⟨_,A01 aq⟩;have b6:=A1k an;obtain⟨bi,bj⟩:=ok.att.kind x b6;have z:=ok.att.names.word x.1 (A1b.2 ⟨x,b6,rfl⟩);have V:(T.map (·.1))[i]?=some x.1:=by rw[A1a,an];rfl
  obtain⟨I,U,rfl,ea⟩:=Ac.at' (hT.mono l1) (j:=i) (e:=D9 x) (by simp[an]);obtain⟨xn,xk⟩:=x;simp only at bi bj z V;refine G.a I U T.length xc i 2 aq<|G.lU (some 2) I (U+i*2) (.agg #[.string (mkS xn),.int .i64 xk]) ea<|G.c call107 (Rr z) ?_;rintro v2 u2 l2 rfl;refine G.l (ι:=Nat) (fun k=>[(1,.p 0 0),(3,iV i),(4,.p 5003 0),(5,iV k),(49,sV (some ⟨I,U,none⟩) T.length xc),(50,iV T.length),(51,iV i)])
   (fun _=>[(0,⟨30,[sV (some ⟨I,U,none⟩) T.length xc,sV xb R.length W,sV xe F.length xf,iV lab]⟩),(5003,⟨96,[tV xn,iV xk]⟩)])
   (fun k u' Q=>k<=i/\Q=PH.mt) (fun k=>i-k) 0 ⟨oV,rfl⟩ ?_
  rintro J2 k C u3 m3 l3 ⟨hk,rfl⟩;by_cases ap:k<i
  ·refine G.lT k i ?_;obtain⟨y,a1⟩:∃ y,T[k]?=some y:=⟨_,A01 oV⟩;have a5:(T.map (·.1))[k]?=some y.1:=by rw[A1a,a1];rfl
   have aa:=Aeo ok.att.names.nodup V a5 oV;obtain⟨_,_,e',ek⟩:=Ac.at' (hT.mono ((l1.trans l2).trans l3)) (j:=k) (e:=D9 y) (by simp[a1]);cases e';exact G.a I U T.length xc k 2 oV<|G.f 96 I (U+k*2) 0 0<|G.lU none I (U+k*2+0) (.string (mkS y.1)) (ek.fld rfl rfl)<|G.w y.1 xn aa<|G.i k<|G.b (C (k+1) _ _ _ cV l3 ⟨oV,rfl⟩ oV)
  obtain rfl:k=i:=oV;exact G.lF k k<|G.lF xk 1<|G.gF xk 3<|G.i k<|G.b (hJ (k+1) _ _ _ cV ((l1.trans l2).trans l3) ⟨oV,rfl⟩ oV)
 obtain rfl:i=T.length:=oV;refine G.lF T.length T.length ?_;clear hJ;refine G.make 4 1 1 (.bool false) T.length kV rfl rfl oV oV oV ?_;rintro v1 mA au ⟨ad,rfl⟩;obtain⟨g,rfl,_⟩:=au.some';refine G.l (ι:=Nat×List Bool) (fun i=>[(1,.p 0 0),(6,sV (some ⟨g,0,none⟩) T.length T.length),(88,sV xb R.length W),(89,iV R.length),(90,iV i.1)])
  (fun _=>[(0,⟨30,[sV xa T.length xc,sV xb R.length W,sV xe F.length xf,iV lab]⟩)])
  (fun i u' Q=>i.1<=R.length/\i.2.length=T.length/\(∀ r∈R.take i.1,∀ q∈r.2.1,i.2[q]?=some true)/\Af PH.mt Q (.slice (some ⟨g,0,none⟩) T.length T.length) 4 1 (i.2.map Value.bool)) (fun i=>R.length-i.1) (0,List.replicate T.length false)
  ⟨mV,mV,mV,by rw[A8z];exact au⟩ ?_
 rintro J ⟨i,L⟩ hJ u2 m2 l2 ⟨bh,hL,a0,aj⟩;simp only at bh hL a0 aj hJ;have ac:=l1.trans l2;by_cases af:i<R.length
 ·refine G.lT i R.length ?_;obtain⟨q,a8⟩:∃ q,R[i]?=some q:=⟨_,A01 af⟩;have H:=A1k a8;have b4:R.take (i+1)=R.take i++[q]:=by rw[A1n,a8];rfl
  have z:=ok.rel.names.word q.1 (A1b.2 ⟨q,H,rfl⟩);have V:(R.map (·.1))[i]?=some q.1:=by rw[A1a,a8];rfl
  obtain⟨I,U,rfl,ea⟩:=Ac.at' (hR.mono ac) (j:=i) (e:=Hs q) (by simp[a8]);obtain⟨qs,t,qa,qc⟩:=q;have aa:t≠[]:=ok.rel.ne _ H;have bk:∀ p∈t,p<T.length:=ok.rel.lt _ H;have bw:t.length<=1000:=ok.rel.len _ H;have ax:∀ (k:Nat) x y,t[k]?=some x->t[k+1]?=some y->x<y:=ok.rel.asc _ H;have b3:Ac u2 (.slice qa t.length qc) 1 (Ai t):=(ok.rel.at' _ H).mono ac;have bu:0<t.length:=A4f.2 aa;simp only at z V;refine G.a I U R.length W i 2 af<|G.lU (some 2) I (U+i*2) (.agg #[.string (mkS qs),.slice qa t.length qc]) ea<|G.c call107 (Rr z) ?_;rintro v3 u3 l3 rfl;refine G.l (ι:=Nat) (fun k=>[(1,.p 0 0),(6,sV (some ⟨g,0,none⟩) T.length T.length),(7,iV i),(8,.p 19003 0),(9,iV k),(88,sV (some ⟨I,U,none⟩) R.length W),(89,iV R.length),(90,iV i)])
   (fun _=>[(0,⟨30,[sV xa T.length xc,sV (some ⟨I,U,none⟩) R.length W,sV xe F.length xf,iV lab]⟩),(19003,⟨98,[tV qs,sV qa t.length qc]⟩)])
   (fun k u' Q=>k<=i/\Q=m2) (fun k=>i-k) 0 ⟨oV,rfl⟩ ?_
  rintro J2 k C u4 m4 l4 ⟨hk,rfl⟩;by_cases ap:k<i
  ·refine G.lT k i ?_;obtain⟨y,a1⟩:∃ y,R[k]?=some y:=⟨_,A01 oV⟩;have a5:(R.map (·.1))[k]?=some y.1:=by rw[A1a,a1];rfl
   have b0:=Aeo ok.rel.names.nodup V a5 oV;obtain⟨_,_,e',ek⟩:=Ac.at' (hR.mono ((ac.trans l3).trans l4)) (j:=k) (e:=Hs y) (by simp[a1]);cases e';exact G.a I U R.length W k 2 oV<|G.f 98 I (U+k*2) 0 0<|G.lU none I (U+k*2+0) (.string (mkS y.1)) (ek.fld rfl rfl)<|G.w y.1 qs b0<|G.i k<|G.b (C (k+1) _ _ _ cV l4 ⟨oV,rfl⟩ oV)
  obtain rfl:k=i:=oV;refine G.lF k k ?_;clear C;refine G.eF t.length 0<|G.l (ι:=Nat×List Bool) (fun j=>[(1,.p 0 0),(6,sV (some ⟨g,0,none⟩) T.length T.length),(8,.p 19003 0),(88,sV (some ⟨I,U,none⟩) R.length W),(89,iV R.length),(90,iV k),(118,sV qa t.length qc),(119,iV t.length),(120,iV j.1)])
   (fun _=>[(0,⟨30,[sV xa T.length xc,sV (some ⟨I,U,none⟩) R.length W,sV xe F.length xf,iV lab]⟩),(19003,⟨98,[tV qs,sV qa t.length qc]⟩)])
   (fun j u' Q=>j.1<=t.length/\j.2.length=T.length/\(∀ r∈R.take k,∀ q∈r.2.1,j.2[q]?=some true)/\(∀ q∈t.take j.1,j.2[q]?=some true)/\Af PH.mt Q (.slice (some ⟨g,0,none⟩) T.length T.length) 4 1 (j.2.map Value.bool)) (fun j=>t.length-j.1) (0,L)
   ⟨mV,hL,a0,mV,aj⟩ ?_
  rintro J2 ⟨j,L2⟩ C u6 m6 l6 ⟨hj,am,X,K,ak⟩;simp only at hj am X K ak C;have b7:=(l3.trans l4).trans l6;have a6:=b3.mono b7;by_cases ah:j<t.length
  ·refine G.lT j t.length ?_;obtain⟨p,ar⟩:∃ p,t[j]?=some p:=⟨_,A01 ah⟩;have bl:p<T.length:=bk _ (A1k ar);have b5:t.take (j+1)=t.take j++[p]:=by rw[A1n,ar];rfl
   obtain⟨bq,oq,rfl,eq⟩:=Ac.at' a6 (j:=j) (e:=.int .i64 p) (by simp[Ai,ar]);refine G.a bq oq t.length qc j 1 ah<|G.lU none bq (oq+j*1) (.int .i64 p) eq<|G.lF p 0<|G.hF p T.length<|G.a g 0 T.length T.length p 1 bl<|G.storeA 1 PH.mt (L2.map Value.bool) g T.length T.length p (.bool true) kV ak (by rw[A03];omega) rfl rfl ?_;intro m7 av;rw[Sd]at av;refine G.i j ?_;have a2:∀ q,L2[q]?=some true->(L2.set p true)[q]?=some true:=fun q Z=>by
    rw[A1z];split
    ·subst_vars;rw[if_pos oV]
    exact Z
   exact G.b (C (j+1,L2.set p true) _ _ _ cV l6 ⟨dV,by simp[am],fun r hr q Z=>a2 q (X r hr q Z),by
    intro q Z;dsimp only at Z⊢;rw[b5,A1h,A12]at Z;rcases Z with Z|rfl
    ·exact a2 q (K q Z)
    rw[A1z];simp;omega,av⟩ dV)
  obtain rfl:j=t.length:=oV;refine G.lF t.length t.length ?_;clear C;rw[A15]at K;refine G.l (ι:=Nat) (fun j=>[(1,.p 0 0),(6,sV (some ⟨g,0,none⟩) T.length T.length),(8,.p 19003 0),(12,iV (j+1:Nat)),(88,sV (some ⟨I,U,none⟩) R.length W),(89,iV R.length),(90,iV k)])
   (fun _=>[(0,⟨30,[sV xa T.length xc,sV (some ⟨I,U,none⟩) R.length W,sV xe F.length xf,iV lab]⟩),(19003,⟨98,[tV qs,sV qa t.length qc]⟩)])
   (fun j u' Q=>j+1<=t.length/\Q=m6) (fun j=>t.length-j) 0
   ⟨oV,rfl⟩ ?_
  rintro J3 j bd u8 m8 l8 ⟨bs,rfl⟩;have a7:=a6.mono l8;by_cases ai:j+1<t.length
  ·refine G.lT (j+1:Nat) t.length ?_;obtain⟨E,b1⟩:∃ p,t[j]?=some p:=⟨_,A01 oV⟩;obtain⟨p2,b2⟩:∃ p,t[j+1]?=some p:=⟨_,A01 ai⟩;have a4:=ax j _ _ b1 b2;obtain⟨bq,oq,rfl,b9⟩:=Ac.at' a7 (j:=j+1) (e:=.int .i64 p2) (by simp[Ai,b2]);obtain⟨_,_,e',b8⟩:=Ac.at' a7 (j:=j) (e:=.int .i64 E) (by simp[Ai,b1]);cases e';exact G.a bq oq t.length qc (j+1) 1 ai<|G.lU none bq (oq+(j+1)*1) (.int .i64 p2) b9<|G.s (j+1:Nat) 1 j<|G.a bq oq t.length qc j 1 oV<|G.lU none bq (oq+j*1) (.int .i64 E) b8<|G.kF p2 E<|G.p (j+1:Nat) 1 (j+1+1:Nat)<|G.b (bd (j+1) _ _ _ cV l8 ⟨oV,rfl⟩ oV)
  refine G.lF (j+1:Nat) t.length<|G.i k ?_;exact G.b (hJ (k+1,L2) _ _ _ cV ((l2.trans b7).trans l8) ⟨dV,am,by
   intro r hr q Z;dsimp only at hr Z⊢;rw[b4,A1h,A12]at hr;rcases hr with hr|rfl
   ·exact X r hr q Z
   exact K q Z,ak⟩ dV)
 obtain rfl:i=R.length:=oV;refine G.lF R.length R.length ?_;clear hJ;rw[A15]at a0;refine G.l (ι:=Nat) (fun i=>[(1,.p 0 0),(6,sV (some ⟨g,0,none⟩) T.length T.length),(156,sV (some ⟨g,0,none⟩) T.length T.length),(157,iV T.length),(158,iV i)])
  (fun _=>[(0,⟨30,[sV xa T.length xc,sV xb R.length W,sV xe F.length xf,iV lab]⟩)])
  (fun i u' Q=>i<=T.length/\Q=m2) (fun i=>T.length-i) 0 ⟨oV,rfl⟩ ?_
 rintro J i hJ u3 m3 l3 ⟨bp,rfl⟩;by_cases a4:i<T.length
 ·refine G.lT i T.length ?_;have be:L[i]?=some true:=by
   obtain⟨r,hr,Z⟩:=ok.rel.all i a4;exact a0 r hr i Z
  exact G.a g 0 T.length T.length i 1 a4<|G.lM none g (0+i*1) (.bool true) (aj.el (by rw[A1a,be];rfl))<|G.i i<|G.b (hJ (i+1) _ _ _ cV l3 ⟨oV,rfl⟩ oV)
 obtain rfl:i=T.length:=oV;refine G.lF T.length T.length ?_;clear hJ;have bm:=ac.trans l3;refine G.l (ι:=Nat) (fun i=>[(1,.p 0 0),(6,sV (some ⟨g,0,none⟩) T.length T.length),(166,sV xe F.length xf),(167,iV F.length),(168,iV i)])
  (fun _=>[(0,⟨30,[sV xa T.length xc,sV xb R.length W,sV xe F.length xf,iV lab]⟩)])
  (fun i u' Q=>i<=F.length/\Q=m3) (fun i=>F.length-i) 0 ⟨oV,rfl⟩ ?_
 rintro J i hJ u4 m4 l4 ⟨br,rfl⟩;have ae:=bm.trans l4;by_cases ag:i<F.length
 ·refine G.lT i F.length ?_;obtain⟨f,al⟩:∃ f,F[i]?=some f:=⟨_,A01 ag⟩;have bf:=A1k al;obtain⟨fn,fk,ay,a3,az⟩:=ok.feat.ok f bf;obtain⟨a9,_⟩:=A05.1 ay;have V:(F.map (·.1))[i]?=some f.1:=by rw[A1a,al];rfl
  obtain⟨fb,fo,rfl,ef⟩:=Ac.at' (hF.mono ae) (j:=i) (e:=Cm f) (by simp[al]);obtain⟨ab,ao,rfl,ea⟩:=Ac.at' (hT.mono ae) (j:=f.1) (e:=D9 (fn,fk)) (by simp[ay]);obtain⟨E,p2,p3⟩:=f;simp only at a3 az a9 V ea;refine G.a fb fo F.length xf i 3 ag<|G.lU (some 3) fb (fo+i*3) (.agg #[.int .i64 E,.int .i64 p2,.int .i64 p3]) ef<|G.lF E 0<|G.hF E T.length<|G.joinF (ι:=Unit) (fun st=>Ip prog (Ajn prog st [.bool false,.bool true,.bool true,undef,undef,undef,.bool true])) (fun _=>[(1,.p 0 0),(6,sV (some ⟨g,0,none⟩) T.length T.length),(15,iV i),(16,.p 50003 0),(166,sV (some ⟨fb,fo,none⟩) F.length xf),(167,iV F.length),(168,iV i)])
   (fun _=>[(0,⟨30,[sV (some ⟨ab,ao,none⟩) T.length xc,sV xb R.length W,sV (some ⟨fb,fo,none⟩) F.length xf,iV lab]⟩),(50003,⟨100,[iV E,iV p2,iV p3]⟩)])
   (fun _ u' Q=>u'=u4/\Q=m4) (fun _=>kV) kV ?tail ?way
  case way =>
   intro Y;rcases a3 with ⟨rfl,rfl,bt⟩|⟨rfl,rfl,rfl⟩
   ·refine G.eT (1:Nat) 1 ?_;rcases (by omega:p3=0\/p3=1) with rfl|rfl
    ·refine G.eT (0:Nat) 0<|G.a ab ao T.length xc E 2 a9<|G.f 96 ab (ao+E*2) 1 1<|G.lU none ab (ao+E*2+1) (.int .i64 (2:Nat)) (L9 ea)<|G.eT (2:Nat) 2<|G.eF (1:Nat) 2<|G.pastI ?_;exact Y () _ _ _ kV cV (PH.le_refl _) ⟨rfl,rfl⟩
    refine G.eF (1:Nat) 0<|G.eT (1:Nat) 1<|G.a ab ao T.length xc E 2 a9<|G.f 96 ab (ao+E*2) 1 1<|G.lU none ab (ao+E*2+1) (.int .i64 (2:Nat)) (L9 ea)<|G.eT (2:Nat) 2<|G.eF (1:Nat) 2<|G.pastI ?_;exact Y () _ _ _ kV cV (PH.le_refl _) ⟨rfl,rfl⟩
   refine G.eF (2:Nat) 1<|G.eT (2:Nat) 2<|G.eT (0:Nat) 0<|G.a ab ao T.length xc E 2 a9<|G.f 96 ab (ao+E*2) 1 1<|G.lU none ab (ao+E*2+1) (.int .i64 (3:Nat)) (L9 ea)<|G.eT (3:Nat) 3<|G.pastI ?_;exact Y () _ _ _ kV cV (PH.le_refl _) ⟨rfl,rfl⟩
  rintro _ u5 m5 _ ⟨rfl,rfl⟩;refine G.l (ι:=Nat) (fun k=>[(1,.p 0 0),(6,sV (some ⟨g,0,none⟩) T.length T.length),(15,iV i),(16,.p 50003 0),(19,iV k),(166,sV (some ⟨fb,fo,none⟩) F.length xf),(167,iV F.length),(168,iV i)])
   (fun _=>[(0,⟨30,[sV (some ⟨ab,ao,none⟩) T.length xc,sV xb R.length W,sV (some ⟨fb,fo,none⟩) F.length xf,iV lab]⟩),(50003,⟨100,[iV E,iV p2,iV p3]⟩)])
   (fun k u' Q=>k<=i/\Q=m5) (fun k=>i-k) 0 ⟨oV,rfl⟩ ?_
  rintro J2 k C u6 m6 l6 ⟨hk,rfl⟩;by_cases ap:k<i
  ·refine G.lT k i ?_;obtain⟨y,aw⟩:∃ y,F[k]?=some y:=⟨_,A01 oV⟩;have a5:(F.map (·.1))[k]?=some y.1:=by rw[A1a,aw];rfl
   have aa:y.1≠E:=fun e=>Nat.ne_of_lt ap (Yu ok.feat.nodup a5 (by rw[V,e]));obtain⟨_,_,e',ek⟩:=Ac.at' (hF.mono (ae.trans l6)) (j:=k) (e:=Cm y) (by simp[aw]);cases e';exact G.a fb fo F.length xf k 3 oV<|G.f 100 fb (fo+k*3) 0 0<|G.lU none fb (fo+k*3+0) (.int .i64 y.1) (ek.fld rfl rfl)<|G.eF y.1 E<|G.i k<|G.b (C (k+1) _ _ _ cV l6 ⟨oV,rfl⟩ oV)
  obtain rfl:k=i:=oV;exact G.lF k k<|G.eF' E lab az<|G.i k<|G.b (hJ (k+1) _ _ _ cV (l4.trans l6) ⟨oV,rfl⟩ oV)
 obtain rfl:i=F.length:=oV;refine G.lF F.length F.length<|G.drop PH.mt kV (PH.mt_le _)<|G.lF lab (-1)<|G.hF lab T.length ?_;rcases A5q lab 0 with bn|bg
 ·exact G.hF lab 0<|G.r (.int .i64 0) ⟨rfl,rfl⟩
 refine G.hT lab 0 ?_;obtain⟨l,rfl⟩:∃ l:Nat,lab=(l:Int):=⟨lab.toNat,oV⟩;obtain⟨n,hn⟩:=ok.l2 l rfl;obtain⟨bb,ob,rfl,eb⟩:=Ac.at' (hT.mono ae) (j:=l) (e:=D9 (n,2)) (by simp[hn]);exact G.a bb ob T.length xc l 2 oV<|G.f 96 bb (ob+l*2) 1 1<|G.lU none bb (ob+l*2+1) (.int .i64 (2:Nat)) (L9 eb)<|G.nF (2:Nat) 2<|G.r (.int .i64 0) ⟨rfl,rfl⟩
end
section
variable {u:PH}
def Aup {l:zK}{i:Nat}(h:i<l.length):l.drop i=l.getD i 0::l.drop (i+1):=by
 rw[A5z h];simp[A02,A01 h]
def Afi (l:zK):∀ k,val (l.drop k)<=val l:=by
 induction l with
 |nil=>intro k;simp
 |cons a l ih =>
  intro k;cases k with
  |zero=>simp
  |succ k =>
   have:=ih k;simp only[List.drop_succ_cons,val];omega
def Pi {z:Int}(hz:z.natAbs<1000000000000000000):Fn0 prog 183 [zS (Lib.itoa z)] u fun v _=>v=.tuple #[zI z,zT]:=by
 have F:=Jk hz;refine Fn0.o func183<|G.c call144 (Tl F) ?_;rintro v1 u1 l1 rfl;refine G.c call77 (Oh F) ?_;intro v2 u2 l2 k2;obtain⟨b,a,n,c,rfl,P,hi⟩:=k2.opn;obtain⟨rfl,hc⟩:=hi.len;refine G.c call67 (Ac6 (n:=4611686018427387904) oV oV) ?_;intro v3 u3 U k3;obtain⟨b',a',n',c',rfl,Y,C⟩:=k3.opn;obtain⟨rfl,Z⟩:=C.len;have H:nl z.natAbs<=400:=Bd F;have T:nl (4611686018427387904:Int).natAbs<=400:=Bd jV;refine G.c call151 (Lx (hi.mono U) C oV oV) ?_;rintro v4 u4 l4 rfl;have hs:sgn (((z.natAbs:Nat):Int)-(((4611686018427387904:Int).natAbs:Nat):Int))<=0:=by
  unfold sgn;have:((4611686018427387904:Int).natAbs:Int)=4611686018427387904:=fV;split
  ·omega
  split<;>omega
 refine G.gF (sgn (((z.natAbs:Nat):Int)-(((4611686018427387904:Int).natAbs:Nat):Int))) 0 ?_;have R:(Aa z.natAbs).length<=400:=H;refine G.s ((Aa z.natAbs).length:Int) 1 ((Aa z.natAbs).length-1:Int)<|G.l (ι:=Int×Nat) (fun i=>[(4,.p 3002 0),(6,iV i.2),(7,iV i.1)]) (fun _=>[(3002,⟨67,[bV b,sV a (Aa z.natAbs).length c]⟩)])
  (fun i u' m'=>-1<=i.1/\i.1<(Aa z.natAbs).length/\i.2=val ((Aa z.natAbs).drop (i.1+1).toNat)/\m'=PH.mt) (fun i=>(i.1+1).toNat) (((Aa z.natAbs).length-1:Int),0) ⟨dV,dV,by
   dsimp only;rw[show (((Aa z.natAbs).length:Int)-1+1).toNat=(Aa z.natAbs).length by omega,List.drop_length];rfl,rfl⟩ ?_
 rintro J ⟨i,s⟩ L u5 m5 V ⟨W,X,h,rfl⟩;simp only at W X h L;have E:=Am z.natAbs;by_cases a0:0<=i
 ·obtain⟨k,rfl⟩:∃ k:Nat,i=(k:Int):=⟨i.toNat,oV⟩;have t:k<(Aa z.natAbs).length:=oV;rw[show ((k:Int)+1).toNat=k+1 by omega]at h;have m:=Aup t;have j:=Afi (Aa z.natAbs) k;rw[E,m]at j;simp only[val]at j;rw[<-h]at j;refine G.hT k 0<|G.mul (s:Int) 1000000000 ((s*1000000000:Nat):Int) kV oV oV oV ?_;obtain⟨bb,off,rfl,e⟩:=(hi.mono ((U.trans l4).trans V)).at t;refine G.N (Aa z.natAbs).length c t e ?_;generalize hg:(Aa z.natAbs).getD k 0=d at m j;refine G.p (s*1000000000:Nat) d (s*1000000000+d:Nat)<|G.s k 1 ((k:Int)-1) ?_;exact G.b (L ((k:Int)-1,s*1000000000+d) _ _ _ cV V ⟨dV,dV,by
   dsimp only;rw[show ((k:Int)-1+1).toNat=k by omega,m];simp only[val];rw[<-h];omega,rfl⟩ dV)
 obtain rfl:i = -1:=oV;refine G.hF (-1) 0 ?_;have I:s=z.natAbs:=by rw[h,show ((-1:Int)+1).toNat=0 by decide,A5a,E]
 subst I;cases b with
 |true =>
  have Q:z<0:=by simpa using P.symm
  exact G.neg ((z.natAbs:Nat):Int) z kV oV oV oV<|G.r (.tuple #[zI z,zT]) ⟨rfl,rfl⟩
 |false =>
  have a1:¬ z<0:=by simpa using P.symm
  have K:((z.natAbs:Nat):Int)=z:=oV;refine G.r (.tuple #[zI (z.natAbs:Nat),zT]) ⟨rfl,by rw[K]⟩
def Axb (z:Int):Ae (z:Rat)=Lib.itoa z:=by
 unfold Ae;simp
def Anq {x:zB×Nat}{t:zB}(H:1<=x.2)(I:x.2<=3)(m:Rj x.2 t):Fn0 prog 108 [D9 x,zS t] u fun v _=>v=zT:=by
 obtain⟨s,k⟩:=x;simp only at H I m;refine Fn0.o func108<|G.lF k 1<|G.gF k 3 ?_;by_cases j:t = []
 ·exact G.q t [] j<|G.r zT ⟨rfl,rfl⟩
 refine G.w t [] j ?_;rcases m with e|⟨rfl,L⟩|⟨rfl,z,W,rfl⟩|⟨rfl,q,K,rfl⟩
 ·exact absurd e j
 ·refine G.eT (3:Nat) 3<|G.c call107 (Rr L) ?_;rintro F E C rfl;exact G.r zT ⟨rfl,rfl⟩
 ·refine G.eF (1:Nat) 3 ?_;have hp:=Ua (u:=u) (q:=(z:Rat)) ⟨Jk (by simpa using (by omega:z.natAbs<1000000000000000000)),by simp;decide +kernel⟩;rw[Axb]at hp;simp only[Rat.num_intCast,Rat.den_intCast]at hp;refine G.c call72 hp ?_;rintro F E C rfl;refine G.eT (1:Nat) 1<|G.y (Lib.itoa ((1:Nat):Int)) [49] jV<|G.c call183 (Pi (z:=z) oV) ?_;rintro T Q l2 rfl;refine G.c call183 (Pi (z:=((1:Nat):Int)) oV) ?_;rintro U R P rfl;exact G.hT z (-1000000000)<|G.kT z 1000000000<|G.kT (1:Nat) 12<|G.r zT ⟨rfl,rfl⟩
 have h:=K.dat;have V:=h.num;have J:=h.den;refine G.eF (2:Nat) 3<|G.c call72 (Ua h.tx) ?_;rintro F E C rfl;refine G.eF (2:Nat) 1<|G.c call183 (Pi (z:=q.num) oV) ?_;rintro T Q l2 rfl;refine G.c call183 (Pi (z:=(q.den:Int)) oV) ?_;rintro U R P rfl;exact G.hT q.num (-1000000000)<|G.kT q.num 1000000000<|G.kT q.den 12<|G.r zT ⟨rfl,rfl⟩
def Anz {v Q:Value}{T:zC}{R:List Br}{F:List Al}{lab:Int}{ss:zW}(h:Mv u v Q T R F lab ss) :
 Fn0 prog 47 [v,Q] u fun r _=>r=zO:=by
 have H:=fun (U:PH) (l:PH.le u U)=>T2 (h.sch.mono l) (h.ok.mono l);obtain⟨⟨xa,xc,xb,xd,xe,xf,rfl,E,Y,W⟩,ok,C,hT⟩:=h;obtain⟨ya,V,rfl⟩:=C.opn;rw[A03]at C⊢;have P:=hT.len;have t2:=ok.t2;refine Fn0.o func47<|G.c call45 (H u (PH.le_refl _)) ?_;rintro v1 u1 Z rfl;refine G.nF 0 0<|G.nF ss.length T.length<|G.l (ι:=Nat) (fun i=>[(2,.p 0 0),(19,sV ya ss.length V),(20,iV ss.length),(21,iV i)])
  (fun _=>[(0,⟨30,[sV xa T.length xc,sV xb R.length xd,sV xe F.length xf,iV lab]⟩)])
  (fun i U m'=>i<=ss.length/\m'=PH.mt) (fun i=>ss.length-i) 0 ⟨oV,rfl⟩ ?_
 rintro J i X u2 m2 l2 ⟨hi,rfl⟩;have z:=Z.trans l2;by_cases m:i<ss.length
 ·refine G.lT i ss.length ?_;obtain⟨b,off,rfl,e⟩:=M5 (C.mono z) m;refine G.N ss.length V m e ?_;have t:T[i]?=some T[i]:=A01 oV;have I:=ok.att.kind T[i] (A09 oV);have K:=hT.val i _ _ t (A01 m);rw[show ss[i]=ss.getD i [] by simp[A02,A01 m]]at K;obtain⟨ba,oa,rfl,L⟩:=Ac.at' (E.mono z) (j:=i) (e:=D9 T[i]) (by simp[t]);generalize T[i]=x at t I K L;refine G.n T.length xc L<|G.c call108 (Anq I.1 I.2 K) ?_;rintro v3 u3 l3 rfl;exact G.i i<|G.b (X (i+1) _ _ _ cV (l2.trans l3) ⟨oV,rfl⟩ oV)
 obtain rfl:i=ss.length:=oV;exact G.lF ss.length ss.length<|G.r zO ⟨rfl,rfl⟩
end
section
variable {F:CF}{N b sz:Nat}{es:zV}{v:Value}
def Az4 (u m:PH)(v:Value)(F:CF)(N:Nat):Prop :=
 ∃ b a n c b' a' n' c' g1 g2 o1 o2,v=.agg #[.bool b,.slice a n c,.bool b',.slice a' n' c',.map (some g1),.map (some g2)]/\QP u (.agg #[.bool b,.slice a n c,.bool b',.slice a' n' c']) F.c/\(u g1=some o1\/m g1=some o1)/\(u g2=some o2\/m g2=some o2)/\D7 Ap KT u o1 F.s N/\D7 prV KO u o2 F.t N
def Kk.i {u m:PH}(h:Kk m u v F N):Az4 u m v F N:=by
 obtain⟨b,a,n,c,b',j,I,t,g1,g2,J,K,e,z,C,rfl,E,H⟩:=h;exact⟨b,a,n,c,b',j,I,t,g1,g2,J,K,e,z,.inr (by rw[Ad _ _ C,Ab]),.inr (Ab _ _ _),E,H⟩
section
variable {P:Program} [A6 P] {fn:Func} {Post:Ce} {st:List KI×S} {u m:PH}
def G.appendMV (e:TypeId)(sz j:Nat)(z:Value)(m0:PH)(es xs:zV)(v:Value)(a:zP)(n c:Nat)(h:Aj P (adv P st)=.app (some (e,sz,j,z)) true [v,.slice a n c])(U:z.cells.toList.all Ax=true)(I:z.cells.size=sz)(E:0<sz)
 (t:Af m0 m v e sz es) (J:n=xs.length) (T:xs≠[]->∃ b off,a=some ⟨b,off,none⟩/\Hc m b off sz xs) (R:A9 sz xs) (Q:(es.length+xs.length)*j<=140737488355328) (C:es.length+xs.length<=9223372036854775807)
 (k:∀ L K,Af m0 K L e sz (es++xs)->G P fn Post (nx (adv P st) L) u K):G P fn Post st u m:=by
 cases xs with
 |nil =>
  subst J;obtain⟨a1,c1,rfl⟩:=t.shape;refine G.append0 e sz j z a1 a es.length c1 c h t.cap ?_;exact k _ _ (by rw[A1x];exact t)
 |cons x xs =>
  obtain⟨b,off,rfl,H⟩:=T mV;subst J;exact G.appendM e sz j z m0 es (x::xs) v b off _ c h U I E t H R rfl mV Q C k
end
def Af.els {m0 m:PH}{t:TypeId}{b n c:Nat}(h:Af m0 m (.slice (zA b) n c) t sz es):Hc m b 0 sz es:=fun j e z=>h.el z
def Hc.drop {m:PH}(h:Hc m b 0 sz es)(k:Nat):Hc m b (0+k*sz) sz (es.drop k):=fun j e t=>by
 have:=h (k+j) e (by rw[A39]at t;exact t);rw[A16,A2w]at this;rw[A2w];exact this
theorem An2 (l:List (Par×Rat)):A9 3 (l.map Bt):=fun e he=>by
 obtain⟨p,_,rfl⟩:=A1b.1 he;exact Afk p _ mV
def Ao9 (l:List ((Par×Par)×Rat)):A9 5 (l.map D8):=fun e h=>by
 obtain⟨p,_,rfl⟩:=A1b.1 h;exact Aj6 p _ mV
def Rl {q:Rat}:q.num=0↔q=0:=A4r
def Aod {u m:PH}(h:Az4 u m v F N)(sF:CFS F)(hN:N<=1000000) :
 FnK prog 50 [v] u m fun r u'=>Azl u' r F N:=by
 obtain⟨b,a,n,c,b',a',n',c',g1,g2,o1,o2,rfl,hF,bg,bh,s1,s2⟩:=h;obtain⟨l1,⟨es1,C,rfl,au,ak⟩,bj,am,c0⟩:=s1.at;obtain⟨l2,⟨a3,z,rfl,av,al⟩,bk,an,ae⟩:=s2.at;have b9:(l1.map (·.1)).Nodup:=Hu.nodup (enc:=Ap) ⟨es1,C,rfl,au,ak⟩;have ba:(l2.map (·.1)).Nodup:=Hu.nodup (enc:=prV) ⟨a3,z,rfl,av,al⟩;have ao:∀ {u' m':PH},PH.le u u'->PH.le m m'->u' g1=some (.map es1 C)\/m' g1=some (.map es1 C):=fun a b=>bg.elim (fun e=>.inl (a _ _ e)) (fun e=>.inr (b _ _ e));have ap:∀ {u' m':PH},PH.le u u'->PH.le m m'->u' g2=some (.map a3 z)\/m' g2=some (.map a3 z):=fun a b=>bh.elim (fun e=>.inl (a _ _ e)) (fun e=>.inr (b _ _ e));refine FnK.of func50 kV kV<|G.c call84 (Ox hF (SB.tx sF.c)) ?_;rintro v1 u1 bd rfl;refine G.nF 0 0<|G.mapRange g1 es1 C 118 69 kV (ao bd (fun _ _ h=>h)) ?_;intro it bi bz;have ab:∀ o,PH.le m (m.upd it o):=fun o=>Jw o bi;refine G.l (ι:=List MapEntry×List (Par×Value)×List (Par×Rat)×(zP×Nat)) (fun i=>[(1,.p 0 0),(2,.p 1 0),(6,.p 2002 0),(33,.v (.pointer (zA it)))])
  (fun i=>[(0,⟨108,[bV b,sV a n c,bV b',sV a' n' c',.v (.map (some g1)),.v (.map (some g2))]⟩),(1,⟨38,[tV [],sV none 0 0,sV none 0 0]⟩),(2002,⟨38,[tV (Ae F.c),sV i.2.2.2.1 i.2.2.1.length i.2.2.2.2,sV none 0 0]⟩)])
  (fun i u' m'=>Gj Ap es1 l1 i.1 i.2.1/\R3 Bk F.s (i.2.1.map (·.1)) i.2.2.1/\i.2.2.1.length<=i.2.1.length/\Af (m.upd it (.mapIter (some g1) C (Ar i.1) C)) m' (.slice i.2.2.2.1 i.2.2.1.length i.2.2.2.2) 162 3 (i.2.2.1.map Bt))
  (fun i=>l1.length-i.2.1.length) ([],[],[],(none,0))
  ⟨Gj.nil _ _,R3.nil,A08 _,Af.nil _ _ _⟩ ?_
 rintro J ⟨D,L,S,⟨U,Q⟩⟩ hJ u2 m2 a2 ⟨hS,hI,aq,hA⟩;simp only at hS hI aq hA hJ;have K:=bd.trans a2;have ar:m2 it=some (.mapIter (some g1) C (Ar D) C):=hA.see (Ab _ _ _);have ac:PH.le m m2:=fun g o Z=>hA.see (ab _ g o Z);refine G.mapNextL Bq.inj it g1 es1 C l1 D L kV kV ar (ao K ac) ak au b9 hS ?done1 ?next1
 case next1 =>
  rintro⟨k,xv⟩ e hp hkn he hek hev hS';simp only at hkn hek hev;have hx:=(bj _ hp).1;simp only at hx;obtain⟨yb,ya,yn,yc,bt,bw,bu,rfl,_⟩:=hx.opn;have V:=hA.base (b:=it) (o:=.mapIter (some g1) C (Ar (D++[e])) C) (by rw[Ab];simp);rw[Dp]at V;have ad:PH.le m (m2.upd it (.mapIter (some g1) C (Ar (D++[e])) C)):=fun g o Z=>V.see (ab _ g o Z);refine G.mapEntry it g1 es1 C D e kV (Ab _ _ _) (ao K ad) ak he ?_;rw[hek,hev];have a4:=hS'.len;simp only[A1d,A3f,A30]at a4;have aj:=sF.s k;refine G.c call81 (Nt (hx.mono K) (by have:=(SB.sz aj).1;omega)) ?_;rintro v3 u3 l3 rfl;by_cases h0:F.s k=0
  ·rw[decide_eq_true (Rl.2 h0)];refine G.b (hJ (D++[e],L++[(k,_)],S,(U,Q)) _ _ _ cV (a2.trans l3) ⟨hS',by dsimp only;rw[A1i];exact hI.skip h0,by dsimp only;simp;omega,V⟩ (by have:=hS'.len;simp at this;dsimp only;simp;omega))
  rw[decide_eq_false (fun e=>h0 (Rl.1 e))];refine G.c call84 (Ox (hx.mono (K.trans l3)) (SB.tx aj)) ?_;rintro v4 u4 l4 rfl;refine G.nF 0 0 ?_;have E:=V;generalize bl:m2.upd it (.mapIter (some g1) C (Ar (D++[e])) C)=m3 at E ad;have b4:k∉L.map (·.1):=hkn;refine G.l (ι:=Nat) (fun n=>[(1,.p 0 0),(2,.p 1 0),(6,.p 2002 0),(7,.p 7003 0),(11,.p 12003 0),(12,iV n),(33,.v (.pointer (zA it)))])
   (fun _=>[(0,⟨108,[bV b,sV a n c,bV b',sV a' n' c',.v (.map (some g1)),.v (.map (some g2))]⟩),(1,⟨38,[tV [],sV none 0 0,sV none 0 0]⟩),(2002,⟨38,[tV (Ae F.c),sV U S.length Q,sV none 0 0]⟩),(7003,⟨118,[iV k.1,tV k.2]⟩),(12003,⟨162,[iV k.1,tV k.2,tV (Ae (F.s k))]⟩)])
   (fun n u' m'=>n<=S.length/\(∀ j x,j<n->S[j]?=some x->Bk x.1 k<0)/\m'=m3) (fun n=>S.length-n) 0 ⟨oV,fun j x hj=>oV,rfl⟩ ?_
  rintro J2 n2 ay u5 m5 l5 ⟨ae,a0,rfl⟩;have bp:=((K.trans l3).trans l4).trans l5;refine G.joinF (ι:=Unit) (fun st=>Ajn prog st [zL]) (fun _=>[(1,.p 0 0),(2,.p 1 0),(6,.p 2002 0),(11,.p 12003 0),(12,iV n2),(33,.v (.pointer (zA it)))])
   (fun _=>[(0,⟨108,[bV b,sV a n c,bV b',sV a' n' c',.v (.map (some g1)),.v (.map (some g2))]⟩),(1,⟨38,[tV [],sV none 0 0,sV none 0 0]⟩),(2002,⟨38,[tV (Ae F.c),sV U S.length Q,sV none 0 0]⟩),(12003,⟨162,[iV k.1,tV k.2,tV (Ae (F.s k))]⟩)])
   (fun _ u' m'=>m'=m5/\∀ x,S[n2]?=some x->¬ Bk x.1 k<0) (fun _=>kV) kV ?tail ?way
  case way =>
   intro T;by_cases a7:n2<S.length
   ·refine G.lT n2 S.length ?_;obtain⟨x,a5⟩:∃ x,S[n2]?=some x:=⟨_,A01 a7⟩;obtain⟨gs,cs,R⟩:=E.ptr (fun e=>by
     have:S.length=0:=by simpa using congrArg List.length e
     omega)
    simp only[Value.slice.injEq]at R;obtain⟨rfl,_,rfl⟩:=R;refine G.a gs 0 S.length Q n2 3 a7<|G.f 162 gs (0+n2*3) 0 0 ?_;have b2:ElP m5 gs (0+n2*3) (Bt x):=E.el (by rw[A1a,a5];rfl);refine G.lM (some 2) gs (0+n2*3+0) (.agg #[zI x.1.1,zS x.1.2]) (b2.sub (k:=0) fun i y H=>by
     match i,H with
     |0,H=>simpa[Bt,Value.cells] using H
     |1,H=>simpa[Bt,Value.cells] using H
     |i+2,H=>simp[Value.cells]at H) ?_
    by_cases hc:Bk x.1 k<0
    ·refine G.c call113 (Fp x.1 k true (decide_eq_true hc)) ?_;rintro v6 u6 l6 rfl;refine G.i n2 ?_;exact G.b (ay (n2+1) _ _ _ cV (l5.trans l6) ⟨oV,fun j y hj H=>by
      rcases (by omega:j<n2\/j=n2) with e|rfl
      ·exact a0 j y e H
      rw[a5]at H;cases H;exact hc,rfl⟩ oV)
    refine G.c call113 (Fp x.1 k false (decide_eq_false hc)) ?_;rintro v6 u6 l6 rfl;exact T () _ _ _ kV cV l6 ⟨rfl,fun y H=>by rw[a5]at H;cases H;exact hc⟩
   refine G.lF n2 S.length ?_;exact T () _ _ _ kV cV (PH.le_refl _) ⟨rfl,fun y H=>by rw[A1v oV]at H;cases H⟩
  rintro _ u6 m6 l6 ⟨rfl,a6⟩;have ah:=E.cap;refine G.sliceTo 3 U S.length Q n2 kV oV<|G.sliceFromG U S.length Q n2 3 kV ae ah<|G.buildM 162 3 40 (.agg #[zO,zE,zE]) [.agg #[zI k.1,zS k.2,zS (Ae (F.s k))]] kV (Afk (k,F.s k)) rfl oV mV mV ?_;intro gt m7 af;refine G.appendMV 162 3 40 (.agg #[zO,zE,zE]) m6 [.agg #[zI k.1,zS k.2,zS (Ae (F.s k))]] ((S.drop n2).map Bt) (.slice (zA gt) 1 1) (if Q=n2 then U else U.map (·.add (n2*3))) (S.length-n2) (Q-n2) kV rfl rfl oV af mV (fun b5=>?_) (An2 _) gV gV ?_
  ·have a7:n2<S.length:=by
    rcases A2e n2 S.length with h|h
    ·exact h
    exact absurd (by rw[A2b h];rfl) b5
   obtain⟨gs,cs,R⟩:=E.ptr (fun e=>by
    have:S.length=0:=by simpa using congrArg List.length e
    omega)
   simp only[Value.slice.injEq]at R;obtain⟨rfl,_,rfl⟩:=R;refine⟨gs,0+n2*3,?_,?_⟩
   ·rw[if_neg oV];simp[Ed]
   have:=E.els.drop n2;rw[<-List.map_drop]at this;exact fun j e hj i y H=>by
    obtain⟨cs,t,fr,q1,q2⟩:=this j e hj i y H;exact⟨cs,t,fr,af.le _ _ q1,q2⟩
  intro v8 m8 W;obtain⟨a8,c8,rfl⟩:=W.ptr mV;have ax:=E.take (k:=n2) (by rw[A03];exact ae);obtain⟨mx,bn,bm,ai⟩:=At.swap (x:=⟨.slice U n2 Q,162,3,(S.map Bt).take n2⟩) (y:=⟨.slice (zA a8) _ c8,162,3,_⟩) W ax;refine G.appendM 162 3 40 (.agg #[zO,zE,zE]) mx ((S.map Bt).take n2) _ (.slice U n2 Q) a8 0 _ c8 kV rfl rfl oV bm W.els W.1 rfl mV gV gV ?_;intro v9 m9 aw;obtain⟨mz,am,an⟩:=ai ⟨v9,162,3,_⟩ m9 aw;have b3:(S.map Bt).take n2++([.agg #[zI k.1,zS k.2,zS (Ae (F.s k))]]++(S.drop n2).map Bt)=(S.take n2++[(k,F.s k)]++S.drop n2).map Bt:=by
   rw[A1i,A1i,A5g,A2k];rfl
  have a1:Af (m.upd it (.mapIter (some g1) C (Ar (D++[e])) C)) mz v9 162 3 ((S.take n2++[(k,F.s k)]++S.drop n2).map Bt):=by rw[<-b3];exact an
  obtain⟨a9,c9,rfl⟩:=a1.shape;rw[A03]at a1⊢;have az:(S.take n2++[(k,F.s k)]++S.drop n2).length=S.length+1:=gV;refine G.drop mz kV (fun g o Z=>Af.le am g o Z)<|G.b (hJ (D++[e],L++[(k,_)],S.take n2++[(k,F.s k)]++S.drop n2,(a9,c9)) _ _ _ cV ((((a2.trans l3).trans l4).trans l5).trans l6) ⟨hS',?_,by dsimp only;rw[az];simp;omega,a1⟩ (by have:=hS'.len;simp at this;dsimp only;simp;omega));dsimp only;rw[A1i];exact hI.put Et h0 b4 a0 a6
 case done1 =>
 intro aa;have ag:Can Bk F.s S:=hI.can fun k hk=>am k fun hm=>hk (by
  obtain⟨p,hp,rfl⟩:=A1b.1 hm;exact A1b.2 ⟨p,aa p hp,rfl⟩)
 have b7:S.length<=N:=by have:=hS.len;omega
 refine G.give _ _ _ kV hA (fun g=>?_) ?_
 ·cases Z:m g with
  |none=>exact .inl Z
  |some o=>exact .inr (by rw[ab _ g o Z];simp)
 intro u3 l3 hX;refine G.drop m kV (ab _) ?_;have be:=K.trans l3;clear hJ hA hI aq ar ac hS aa
 revert S U Q
 intro X xa xc ag b7 hX;refine G.mapRange g2 a3 z 175 69 kV (ap be (fun _ _ h=>h)) ?_;intro I b8 bx;have Y:∀ o,PH.le m (m.upd I o):=fun o=>Jw o b8;refine G.l (ι:=List MapEntry×List ((Par×Par)×Value)×List ((Par×Par)×Rat)×(zP×Nat)) (fun i=>[(1,.p 0 0),(2,.p 1 0),(6,.p 2002 0),(85,.v (.pointer (zA I)))])
  (fun i=>[(0,⟨108,[bV b,sV a n c,bV b',sV a' n' c',.v (.map (some g1)),.v (.map (some g2))]⟩),(1,⟨38,[tV [],sV none 0 0,sV none 0 0]⟩),(2002,⟨38,[tV (Ae F.c),sV xa X.length xc,sV i.2.2.2.1 i.2.2.1.length i.2.2.2.2]⟩)])
  (fun i u' m'=>Gj prV a3 l2 i.1 i.2.1/\R3 Oc F.t (i.2.1.map (·.1)) i.2.2.1/\i.2.2.1.length<=i.2.1.length/\Af (m.upd I (.mapIter (some g2) z (Ar i.1) z)) m' (.slice i.2.2.2.1 i.2.2.1.length i.2.2.2.2) 181 5 (i.2.2.1.map D8))
  (fun i=>l2.length-i.2.1.length) ([],[],[],(none,0))
  ⟨Gj.nil _ _,R3.nil,A08 _,Af.nil _ _ _⟩ ?_
 rintro J ⟨D,L,S,⟨U,Q⟩⟩ hJ u2 m2 a2 ⟨hS,hI,aq,hA⟩;simp only at hS hI aq hA hJ;have K:=be.trans a2;have ar:m2 I=some (.mapIter (some g2) z (Ar D) z):=hA.see (Ab _ _ _);have ac:PH.le m m2:=fun g o Z=>hA.see (Y _ g o Z);refine G.mapNextL I1.inj I g2 a3 z l2 D L kV kV ar (ap K ac) al av ba hS ?done2 ?next2
 case next2 =>
  rintro⟨k,xv⟩ e hp hkn he hek hev hS';simp only at hkn hek hev;have hx:=(bk _ hp).1;simp only at hx;obtain⟨yb,ya,yn,yc,bt,bw,bu,rfl,_⟩:=hx.opn;have V:=hA.base (b:=I) (o:=.mapIter (some g2) z (Ar (D++[e])) z) (by rw[Ab];simp);rw[Dp]at V;have ad:PH.le m (m2.upd I (.mapIter (some g2) z (Ar (D++[e])) z)):=fun g o Z=>V.see (Y _ g o Z);refine G.mapEntry I g2 a3 z D e kV (Ab _ _ _) (ap K ad) al he ?_;rw[hek,hev];have a4:=hS'.len;simp only[A1d,A3f,A30]at a4;have aj:=sF.t k;refine G.c call81 (Nt (hx.mono K) (by have:=(SB.sz aj).1;omega)) ?_;rintro v3 u3 l3 rfl;by_cases h0:F.t k=0
  ·rw[decide_eq_true (Rl.2 h0)];refine G.b (hJ (D++[e],L++[(k,_)],S,(U,Q)) _ _ _ cV (a2.trans l3) ⟨hS',by dsimp only;rw[A1i];exact hI.skip h0,by dsimp only;simp;omega,V⟩ (by have:=hS'.len;simp at this;dsimp only;simp;omega))
  rw[decide_eq_false (fun e=>h0 (Rl.1 e))];refine G.c call84 (Ox (hx.mono (K.trans l3)) (SB.tx aj)) ?_;rintro v4 u4 l4 rfl;refine G.nF 0 0<|G.pub 19003 175 [zI k.1.1,zS k.1.2,zI k.2.1,zS k.2.2] kV kV ?_;intro bq c1 b6;have b0:(m.upd I (.mapIter (some g2) z (Ar (D++[e])) z)) bq=none:=by
   cases hh:(m.upd I (.mapIter (some g2) z (Ar (D++[e])) z)) bq with
   |none=>rfl
   |some o=>rw[V.see hh]at b6;cases b6
  have E:=V.fresh (o:=.cells [Value.int .i64 k.1.1,zS k.1.2,zI k.2.1,zS k.2.2].toArray 175 (0,0)) b6;obtain⟨br,bs⟩:=Aly (m:=(m2.upd I (.mapIter (some g2) z (Ar (D++[e])) z)).upd bq (.cells [Value.int .i64 k.1.1,zS k.1.2,zI k.2.1,zS k.2.2].toArray 175 (0,0))) (Ab _ _ _);refine G.addrA 175 118 2 bq 0 0 2 kV kV kV kV oV<|G.v (some 2) br<|G.addrA 175 118 2 bq 0 1 2 kV kV kV kV oV<|G.v (some 2) bs ?_;generalize bl:(m2.upd I (.mapIter (some g2) z (Ar (D++[e])) z)).upd bq (.cells [Value.int .i64 k.1.1,zS k.1.2,zI k.2.1,zS k.2.2].toArray 175 (0,0))=m3 at E;have b4:k∉L.map (·.1):=hkn;refine G.l (ι:=Nat) (fun n=>[(1,.p 0 0),(2,.p 1 0),(6,.p 2002 0),(17,.p 24006 0),(18,iV n),(85,.v (.pointer (zA I)))])
   (fun _=>[(0,⟨108,[bV b,sV a n c,bV b',sV a' n' c',.v (.map (some g1)),.v (.map (some g2))]⟩),(1,⟨38,[tV [],sV none 0 0,sV none 0 0]⟩),(2002,⟨38,[tV (Ae F.c),sV xa X.length xc,sV U S.length Q]⟩),(24006,⟨181,[iV k.1.1,tV k.1.2,iV k.2.1,tV k.2.2,tV (Ae (F.t k))]⟩)])
   (fun n u' m'=>n<=S.length/\(∀ j x,j<n->S[j]?=some x->Oc x.1 k<0)/\m'=m3) (fun n=>S.length-n) 0 ⟨oV,fun j x hj=>oV,rfl⟩ ?_
  rintro J2 n2 ay u5 m5 l5 ⟨ae,a0,rfl⟩;have bp:=((K.trans l3).trans l4).trans l5;refine G.joinF (ι:=Unit) (fun st=>Ajn prog st [zL]) (fun _=>[(1,.p 0 0),(2,.p 1 0),(6,.p 2002 0),(17,.p 24006 0),(18,iV n2),(85,.v (.pointer (zA I)))])
   (fun _=>[(0,⟨108,[bV b,sV a n c,bV b',sV a' n' c',.v (.map (some g1)),.v (.map (some g2))]⟩),(1,⟨38,[tV [],sV none 0 0,sV none 0 0]⟩),(2002,⟨38,[tV (Ae F.c),sV xa X.length xc,sV U S.length Q]⟩),(24006,⟨181,[iV k.1.1,tV k.1.2,iV k.2.1,tV k.2.2,tV (Ae (F.t k))]⟩)])
   (fun _ u' m'=>m'=m5/\∀ x,S[n2]?=some x->¬ Oc x.1 k<0) (fun _=>kV) kV ?tail2 ?way2
  case way2 =>
   intro T;by_cases a7:n2<S.length
   ·refine G.lT n2 S.length ?_;obtain⟨x,a5⟩:∃ x,S[n2]?=some x:=⟨_,A01 a7⟩;obtain⟨gs,cs,R⟩:=E.ptr (fun e=>by
     have:S.length=0:=by simpa using congrArg List.length e
     omega)
    simp only[Value.slice.injEq]at R;obtain⟨rfl,_,rfl⟩:=R;refine G.a gs 0 S.length Q n2 5 a7 ?_;have b2:ElP m5 gs (0+n2*5) (D8 x):=E.el (by rw[A1a,a5];rfl);refine G.v (some 5) b2 ?_;by_cases hc:Oc x.1 k<0
    ·refine G.c call114 (P4 x (k,F.t k) true (decide_eq_true hc)) ?_;rintro v6 u6 l6 rfl;refine G.i n2 ?_;exact G.b (ay (n2+1) _ _ _ cV (l5.trans l6) ⟨oV,fun j y hj H=>by
      rcases (by omega:j<n2\/j=n2) with e|rfl
      ·exact a0 j y e H
      rw[a5]at H;cases H;exact hc,rfl⟩ oV)
    refine G.c call114 (P4 x (k,F.t k) false (decide_eq_false hc)) ?_;rintro v6 u6 l6 rfl;exact T () _ _ _ kV cV l6 ⟨rfl,fun y H=>by rw[a5]at H;cases H;exact hc⟩
   refine G.lF n2 S.length ?_;exact T () _ _ _ kV cV (PH.le_refl _) ⟨rfl,fun y H=>by rw[A1v oV]at H;cases H⟩
  rintro _ u6 m6 l6 ⟨rfl,a6⟩;have ah:=E.cap;refine G.sliceTo 5 U S.length Q n2 kV oV<|G.sliceFromG U S.length Q n2 5 kV ae ah<|G.buildM 181 5 64 (.agg #[zO,zE,zO,zE,zE]) [.agg #[zI k.1.1,zS k.1.2,zI k.2.1,zS k.2.2,zS (Ae (F.t k))]] kV (Aj6 (k,F.t k)) rfl oV mV mV ?_;intro gt m7 af;refine G.appendMV 181 5 64 (.agg #[zO,zE,zO,zE,zE]) m6 [.agg #[zI k.1.1,zS k.1.2,zI k.2.1,zS k.2.2,zS (Ae (F.t k))]] ((S.drop n2).map D8) (.slice (zA gt) 1 1) (if Q=n2 then U else U.map (·.add (n2*5))) (S.length-n2) (Q-n2) kV rfl rfl oV af mV (fun b5=>?_) (Ao9 _) gV gV ?_
  ·have a7:n2<S.length:=by
    rcases A2e n2 S.length with h|h
    ·exact h
    exact absurd (by rw[A2b h];rfl) b5
   obtain⟨gs,cs,R⟩:=E.ptr (fun e=>by
    have:S.length=0:=by simpa using congrArg List.length e
    omega)
   simp only[Value.slice.injEq]at R;obtain⟨rfl,_,rfl⟩:=R;refine⟨gs,0+n2*5,?_,?_⟩
   ·rw[if_neg oV];simp[Ed]
   have:=E.els.drop n2;rw[<-List.map_drop]at this;exact fun j e hj i y H=>by
    obtain⟨cs,t,fr,q1,q2⟩:=this j e hj i y H;exact⟨cs,t,fr,af.le _ _ q1,q2⟩
  intro v8 m8 W;obtain⟨a8,c8,rfl⟩:=W.ptr mV;have ax:=E.take (k:=n2) (by rw[A03];exact ae);obtain⟨mx,bn,bb,ai⟩:=At.swap (x:=⟨.slice U n2 Q,181,5,(S.map D8).take n2⟩) (y:=⟨.slice (zA a8) _ c8,181,5,_⟩) W ax;refine G.appendM 181 5 64 (.agg #[zO,zE,zO,zE,zE]) mx ((S.map D8).take n2) _ (.slice U n2 Q) a8 0 _ c8 kV rfl rfl oV bb W.els W.1 rfl mV gV gV ?_;intro v9 m9 aw;obtain⟨mz,am,an⟩:=ai ⟨v9,181,5,_⟩ m9 aw;have b3:(S.map D8).take n2++([.agg #[zI k.1.1,zS k.1.2,zI k.2.1,zS k.2.2,zS (Ae (F.t k))]]++(S.drop n2).map D8)=(S.take n2++[(k,F.t k)]++S.drop n2).map D8:=by
   rw[A1i,A1i,A5g,A2k];rfl
  have bo:Af ((m.upd I (.mapIter (some g2) z (Ar (D++[e])) z)).upd bq (.cells [Value.int .i64 k.1.1,zS k.1.2,zI k.2.1,zS k.2.2].toArray 175 (0,0))) mz v9 181 5 ((S.take n2++[(k,F.t k)]++S.drop n2).map D8):=by rw[<-b3];exact an
  have a1:=bo.del (l:=bq) (by rw[Ab];simp);rw[Rk b0]at a1;obtain⟨a9,c9,rfl⟩:=a1.shape;rw[A03]at a1⊢;have az:(S.take n2++[(k,F.t k)]++S.drop n2).length=S.length+1:=gV;refine G.drop (mz.del bq) kV (fun g o Z=>Af.le am g o (Ap6 _ _ g o Z))<|G.b (hJ (D++[e],L++[(k,_)],S.take n2++[(k,F.t k)]++S.drop n2,(a9,c9)) _ _ _ cV ((((a2.trans l3).trans l4).trans l5).trans l6) ⟨hS',?_,by dsimp only;rw[az];simp;omega,a1⟩ (by have:=hS'.len;simp at this;dsimp only;simp;omega));dsimp only;rw[A1i];exact hI.put A0t h0 b4 a0 a6
 case done2 =>
 intro aa;have b1:Can Oc F.t S:=hI.can fun k hk=>an k fun hm=>hk (by
  obtain⟨p,hp,rfl⟩:=A1b.1 hm;exact A1b.2 ⟨p,aa p hp,rfl⟩)
 have bf:S.length<=N:=by have:=hS.len;omega
 refine G.give _ _ _ kV hA (fun g=>?_) ?_
 ·cases Z:m g with
  |none=>exact .inl Z
  |some o=>exact .inr (by rw[Y _ g o Z];simp)
 intro u4 l4 hY;exact G.drop m kV (Y _)<|G.r (.tuple #[.agg #[zS (Ae F.c),.slice xa X.length xc,.slice U S.length Q],zO]) ⟨rfl,_,rfl,X,S,xa,xc,U,Q,rfl,hX.mono (a2.trans l4),hY,ag,b1,b7,bf⟩
end
section
variable {F:List Al}{a i:Nat}{f:Al}{z:Int}
def Aro (F:List Al)(a:Nat)(z:Int)(i:Nat)(fe:Int)(dr ho:Bool):Prop :=
 (∃ k f,k<i/\F[k]?=some f/\f.1=a/\fe=(k:Int)/\dr=decide (f.2.2=1)/\ho=decide (f.2.1=2))\/((∀ k f,k<i->F[k]?=some f->f.1≠a)/\fe=z/\dr=true/\ho=false)
theorem Af1 (q:Rat):q+0=q:=by grind
theorem An4 {t:Int}{m u:Bool}(h:Aro F a z i t m u)(I:F[i]?=some f)(H:f.1≠a):Aro F a z (i+1) t m u:=by
 rcases h with ⟨k,g,C,j,E⟩|⟨C,j⟩
 ·exact .inl ⟨k,g,oV,j,E⟩
 refine .inr ⟨fun k g K J=>?_,j⟩;rcases (by omega:k<i\/k=i) with e|rfl
 ·grind
 grind
theorem Aqe (hf:F[i]?=some f)(he:f.1=a):Aro F a z (i+1) (i:Int) (decide (f.2.2=1)) (decide (f.2.1=2)) :=
 .inl ⟨i,f,oV,hf,he,rfl,rfl,rfl⟩
theorem Av7 {T:zC}{F:List Al}{lab:Int}{a:Nat}{z:Int}{x:zB×Nat}{t:zB}{u:Int}{P E:Bool}(hF:Da T F lab)(l1:-1<=lab)(l2:∀ l:Nat,lab=(l:Int)->∃ n,T[l]?=some (n,2))
 (J:T[a]?=some x) (R:Rj x.2 t) (W:((a:Int)=lab/\z = -1)\/((a:Int)≠lab/\z = -2)) (h:Aro F a z F.length u P E) :
 (u = -2/\Gm F lab a t=some none)\/(u≠-2/\((E=true/\Gm F lab a t=some (some ((u,t),1)))\/(E=false/\t = []/\Gm F lab a t=(if P then none else some none))\/(E=false/\t≠[]/\SmW (Lk t)/\Ae (Lk t)=t/\Gm F lab a t=some (some ((u,[]),Lk t))))):=by
 rcases h with ⟨k,f,Z,H,rfl,rfl,rfl,rfl⟩|⟨V,rfl,rfl,rfl⟩
 ·obtain⟨n,kd,hT,j,I⟩:=hF.ok f (A1k H);rw[Zu hF.nodup H I];rw[hT]at J;cases J;refine .inr ⟨oV,?_⟩;unfold I3;rcases j with ⟨U,rfl,X⟩|⟨U,rfl,X⟩
  ·rw[U,if_neg oV];by_cases m:t = []
   ·grind
   obtain⟨K,L⟩:=Hz R m;exact .inr (.inr ⟨rfl,m,K,L,by rw[if_neg m]⟩)
  grind
 rcases W with ⟨C,rfl⟩|⟨C,rfl⟩
 ·refine .inr ⟨oV,.inr ?_⟩;obtain⟨n,Q⟩:=l2 a C.symm;rw[J]at Q;cases Q;have e:Gm F lab a t=Sy t:=by unfold Gm;rw[if_pos C]
  rw[e];unfold Sy;by_cases m:t = []
  ·grind
  obtain⟨K,L⟩:=Hz R m;exact .inr ⟨rfl,m,K,L,by rw[if_neg m]⟩
 rcases Gn (F:=F) (w:=t) C with e|⟨i,f,H,Y,_⟩
 ·grind
 grind
def Ale {g1 g2:Nat}(h:g1≠g2)(t u j m:Obj):(((PH.mt.upd g1 t).upd g2 u).upd g1 j).upd g2 m=(PH.mt.upd g1 j).upd g2 m:=by
 rw[Iq _ _ _ (fun e=>h e.symm),Dp,Dp]
def Ahp {u:PH}{v:Value}{T:zC}{R:List Br}{lab:Int}{x:zB×Nat}{t:zB}(h:H5 u v T R F lab)(ok:Bl u T R F lab)(hx:T[a]?=some x)(hv:Rj x.2 t) :
 Ag prog 112 [v,zI a,zS t] u PH.mt fun v' u' m'=>Kk m' u' v' (Gm F lab a t).cf 1:=by
 have ae:=ok.f2;have l1:=ok.l1;have t2:=ok.t2;have ad:a<T.length:=(A05.1 hx).1;obtain⟨pa,ca,pb,cb,pe,ce,rfl,hT,hR,hF⟩:=h;refine Ag.o func112<|G.joinF (ι:=Int) (fun st=>Ajn prog st [zL]) (fun z=>[(1,iV a),(2,tV t),(3,.p 0 0),(6,.p 1 0),(7,iV z),(8,bV true),(9,bV false)])
  (fun _=>[(0,⟨30,[sV pa T.length ca,sV pb R.length cb,sV pe F.length ce,iV lab]⟩),(1,⟨108,[bV false,sV none 0 0,bV false,sV none 0 0,.v (.map none),.v (.map none)]⟩)])
  (fun z u' m'=>u'=u/\m'=PH.mt/\(((a:Int)=lab/\z = -1)\/((a:Int)≠lab/\z = -2))) (fun _=>kV) kV ?tail ?way
 case way =>
  intro P;by_cases hl:(a:Int)=lab
  ·refine G.eT' a lab hl<|G.pastI ?_;exact P (-1) _ _ _ kV cV (PH.le_refl _) ⟨rfl,rfl,.inl ⟨hl,rfl⟩⟩
  refine G.eF' a lab hl ?_;exact P (-2) _ _ _ kV cV (PH.le_refl _) ⟨rfl,rfl,.inr ⟨hl,rfl⟩⟩
 rintro z _ _ _ ⟨rfl,rfl,hz⟩;refine G.l (ι:=Nat×Int×Bool×Bool) (fun i=>[(1,iV a),(2,tV t),(6,.p 1 0),(7,iV i.2.1),(8,bV i.2.2.1),(9,bV i.2.2.2),(20,sV pe F.length ce),(21,iV F.length),(22,iV i.1)])
  (fun _=>[(1,⟨108,[bV false,sV none 0 0,bV false,sV none 0 0,.v (.map none),.v (.map none)]⟩)])
  (fun i u' m'=>i.1<=F.length/\m'=PH.mt/\Aro F a z i.1 i.2.1 i.2.2.1 i.2.2.2) (fun i=>F.length-i.1) (0,z,true,false) ⟨oV,rfl,.inr ⟨fun k f hk=>by dsimp only at hk;omega,rfl,rfl,rfl⟩⟩ ?_
 rintro J ⟨i,m,dr,ho⟩ hJ u2 m2 l2 ⟨hi,rfl,hI⟩;simp only at hi hI hJ;by_cases a0:i<F.length
 ·refine G.lT i F.length ?_;obtain⟨f,W⟩:∃ f,F[i]?=some f:=⟨_,A01 a0⟩;obtain⟨fb,fo,rfl,ef⟩:=Ac.at' (hF.mono l2) (j:=i) (e:=Cm f) (by simp[W]);obtain⟨p1,p2,p3⟩:=f;refine G.N F.length ce a0 ef ?_;by_cases hp:(p1:Int)=(a:Int)
  ·refine G.eT' p1 a hp ?_;have U:=Aqe (z:=z) W (show p1=a by omega);simp only at U;by_cases h3:p3=1
   ·refine G.eT p3 1 ?_;by_cases h2:p2=2
    ·refine G.eT p2 2<|G.i i ?_;rw[decide_eq_true h3,decide_eq_true h2]at U;exact G.b (hJ (i+1,(i:Int),true,true) _ _ _ cV l2 ⟨dV,rfl,U⟩ dV)
    refine G.eF p2 2<|G.i i ?_;rw[decide_eq_true h3,decide_eq_false h2]at U;exact G.b (hJ (i+1,(i:Int),true,false) _ _ _ cV l2 ⟨dV,rfl,U⟩ dV)
   refine G.eF p3 1 ?_;by_cases h2:p2=2
   ·refine G.eT p2 2<|G.i i ?_;rw[decide_eq_false h3,decide_eq_true h2]at U;exact G.b (hJ (i+1,(i:Int),false,true) _ _ _ cV l2 ⟨dV,rfl,U⟩ dV)
   refine G.eF p2 2<|G.i i ?_;rw[decide_eq_false h3,decide_eq_false h2]at U;exact G.b (hJ (i+1,(i:Int),false,false) _ _ _ cV l2 ⟨dV,rfl,U⟩ dV)
  exact G.eF' p1 a hp<|G.i i<|G.b (hJ (i+1,m,dr,ho) _ _ _ cV l2 ⟨dV,rfl,An4 hI W (show ¬ p1=a by omega)⟩ dV)
 obtain rfl:i=F.length:=oV;refine G.lF F.length F.length ?_;have n0:(⟨((0:Int):Rat),fun _=>0,fun _=>0⟩:CF)=CF.num 0:=by rw[show ((0:Int):Rat)=0 by decide +kernel];rfl
 have n1:(⟨((1:Int):Rat),fun _=>0,fun _=>0⟩:CF)=CF.num 1:=by rw[show ((1:Int):Rat)=1 by decide +kernel];rfl
 rcases Av7 ok.feat l1 ok.l2 hx hv hz hI with ⟨rfl,e⟩|⟨a7,hc⟩
 ·rw[e];refine G.eT' (-2) (-2) rfl<|G.callO _ _ kV call46 (Jm (n:=1) oV oV) ?_;intro v3 u3 m3 l3 X _;obtain⟨b,H,n,c,b',E,L,I,g1,g2,rfl⟩:=Oe X;rw[By];exact G.r (.agg #[.bool b,.slice H n c,.bool b',.slice E L I,.map (some g1),.map (some g2)]) (X.congr n1 oV)
 refine G.eF' m (-2) a7<|G.callO _ _ kV call46 (Jm (n:=1) oV oV) ?_;intro v3 u3 m3 l3 X _;rw[By];rcases hc with ⟨rfl,e⟩|⟨rfl,ht,e⟩|⟨rfl,ht,q1,q2,e⟩
 ·rw[e];obtain⟨b,H,n,c,b',E,L,I,g1,g2,o1,o2,rfl,k1,C,rfl,s1,s2⟩:=X;have K:Ay (m,t) (m,t)=((m,t),(m,t)):=Ii (by rw[Et.refl];omega);refine G.c call22 (P6 (z:=1) oV oV) ?_;intro v4 u4 V Q;rw[show ((1:Int):Rat)=1 by decide +kernel]at Q;obtain⟨b4,a4,n4,c4,a2,a8,a3,rfl,_⟩:=Q.opn;refine G.callG _ _ kV kV call109 (g:=g1) (o:=o1) (by rw[Ad _ _ C,Ab])
   (Oi (a:=(m,t)) (g2:=some g2) (y1:=b) (y2:=(H,n,c)) (y3:=b') (y4:=(E,L,I)) (s1.mono V) Q I7.sb SB.zero (by rw[Af1];exact I7.sb)) ?_
  intro v5 u5 a9 Y k5;refine G.c call22 (P6 (z:=1) oV oV) ?_;intro v6 u6 Z k6;rw[show ((1:Int):Rat)=1 by decide +kernel]at k6;obtain⟨b6,a6,n6,c6,ab,af,ac,rfl,_⟩:=k6.opn;refine G.callG _ _ kV kV call110 (g:=g2) (o:=o2) (by rw[Ad _ _ C.symm,Ab])
   (H7 (p:=(m,t)) (r:=(m,t)) (g1:=some g1) (y1:=b) (y2:=(H,n,c)) (y3:=b') (y4:=(E,L,I)) (((s2.mono V).mono Y).mono Z) k6 I7.sb (by rw[K];exact SB.zero) (by rw[K,Af1];exact I7.sb)) ?_
  intro v7 u7 aa l7 k7;rw[Ale C];rw[K]at k7;exact G.r (.agg #[.bool b,.slice H n c,.bool b',.slice E L I,.map (some g1),.map (some g2)]) ⟨b,H,n,c,b',E,L,I,g1,g2,_,_,rfl,(((k1.mono V).mono Y).mono Z).mono l7,C,rfl,((k5.mono Z).mono l7).congr fun k=>by rw[Af1];rfl,k7.congr fun k=>by
   rw[Af1];show (if k=((m,t),(m,t)) then (1:Rat) else 0)=if k=((m,t),(m,t)) then (1:Rat)*1 else 0
   rw[show (1:Rat)*1=1 by decide +kernel]⟩
 ·obtain⟨b,H,n,c,b',E,L,I,g1,g2,rfl⟩:=Oe X;refine G.q t [] ht ?_;rw[e];cases dr with
  |true =>
   refine G.drop PH.mt kV (PH.mt_le _)<|G.callO _ _ kV call46 (Jm (n:=0) oV oV) ?_;intro v4 u4 m4 V Q _;obtain⟨b,H,n,c,b',E,L,I,g1,g2,rfl⟩:=Oe Q;rw[By];exact G.r (.agg #[.bool b,.slice H n c,.bool b',.slice E L I,.map (some g1),.map (some g2)]) (Q.congr n0 oV)
  |false =>
   exact G.r (.agg #[.bool b,.slice H n c,.bool b',.slice E L I,.map (some g1),.map (some g2)]) (X.congr n1 oV)
 rw[e];obtain⟨b,H,n,c,b',E,L,I,g1,g2,o1,o2,rfl,k1,C,rfl,s1,s2⟩:=X;refine G.w t [] ht ?_;have K:Ay (m,[]) (m,[])=((m,[]),(m,[])):=Ii (by rw[Et.refl];omega);have a1:=G8 (u:=u3) (q:=Lk t) (SB.tx q1.sb);rw[q2]at a1;refine G.c call27 a1 ?_;intro v4 u4 V Q;obtain⟨b4,a4,n4,c4,a2,a8,a3,rfl,_⟩:=Q.opn;refine G.callG _ _ kV kV call109 (g:=g1) (o:=o1) (by rw[Ad _ _ C,Ab])
  (Oi (a:=(m,[])) (g2:=some g2) (y1:=b) (y2:=(H,n,c)) (y3:=b') (y4:=(E,L,I)) (s1.mono V) Q q1.sb SB.zero (by rw[Af1];exact q1.sb)) ?_
 intro v5 u5 a9 Y k5;refine G.c call28 (Gh (Q.mono Y) (Q.mono Y) (SB.ten q1.sb) (SB.ten q1.sb)) ?_;intro v6 u6 Z k6;refine G.callG _ _ kV kV call110 (g:=g2) (o:=o2) (by rw[Ad _ _ C.symm,Ab])
  (H7 (p:=(m,[])) (r:=(m,[])) (g1:=some g1) (y1:=b) (y2:=(H,n,c)) (y3:=b') (y4:=(E,L,I)) (((s2.mono V).mono Y).mono Z) k6 q1.sb2 (by rw[K];exact SB.zero) (by rw[K,Af1];exact q1.sb2)) ?_
 intro v7 u7 aa l7 k7;rw[Ale C];rw[K]at k7;exact G.r (.agg #[.bool b,.slice H n c,.bool b',.slice E L I,.map (some g1),.map (some g2)]) ⟨b,H,n,c,b',E,L,I,g1,g2,_,_,rfl,(((k1.mono V).mono Y).mono Z).mono l7,C,rfl,((k5.mono Z).mono l7).congr fun k=>by rw[Af1];rfl,k7.congr fun k=>by rw[Af1];rfl⟩
end
section
variable {u:PH}
def Kk.all {f:FuncId}{args:zV}{F:CF}{N:Nat}(c:Ag prog f args u PH.mt fun v e j=>Kk j e v F N):Fn0 prog f args u fun v e=>R9 e v F N:=by
 refine Fn0.weak c.giveAll ?_;rintro v e ⟨t,m,h,l2,k⟩;exact k.give h l2
def R9.up {u:PH}{v:Value}{F:CF}{N M:Nat}(h:R9 u v F N)(j:N<=M):R9 u v F M:=by
 obtain⟨b,a,n,c,b',m,J,t,g1,g2,K,L,e,z,C,E,H,I⟩:=h;exact⟨b,a,n,c,b',m,J,t,g1,g2,K,L,e,z,C,E,H.up j,I.up j⟩
def Arh {v tv:Value}{T:zC}{R:List Br}{F:List Al}{lab:Int}{ss:zW}(h:Mv u v tv T R F lab ss)(aj:ss.length<=8) :
 Fn0 prog 49 [v,tv] u fun r u'=>R9 u' r (cfT F lab ss) 255/\CFS (cfT F lab ss):=by
 have hX:=h.sch;obtain⟨⟨xa,xc,xb,xd,xe,xf,rfl,ak,ai,ag⟩,ok,hS,hT⟩:=h;obtain⟨ya,yc,rfl⟩:=hS.opn;rw[A03]at hS⊢;have m:=N0 ok hT;have a8:=hT.len;obtain⟨L,K⟩:∃ L,L=Fh F lab ss:=⟨_,rfl⟩;have a2:cfT F lab ss=Iv (CF.num 1) L:=by rw[K];rfl
 rw[a2];rw[<-K]at m;have ah:L.length=ss.length:=by rw[K];exact G3
 refine Fn0.o func49<|G.c call46 (Kk.all (Jm (n:=1) oV oV)) ?_;intro v2 u2 l2 k2;have n1:(⟨((1:Int):Rat),fun _=>0,fun _=>0⟩:CF)=CF.num 1:=by rw[show ((1:Int):Rat)=1 by decide +kernel];rfl
 rw[n1]at k2;obtain⟨b,a,n,c,b',P,n',V,g1,g2,rfl⟩:=Sw k2;refine G.l (ι:=Nat×(Bool×SlI)×(Bool×SlI)×Nat×Nat) (fun i=>[(2,.p 0 0),(4,.p 1 0),(5,.p 1001 0),(9,sV ya ss.length yc),(10,iV ss.length),(11,iV i.1)])
  (fun i=>[(0,⟨30,[sV xa T.length xc,sV xb R.length xd,sV xe F.length xf,iV lab]⟩),(1,⟨108,[bV false,sV none 0 0,bV false,sV none 0 0,.v (.map none),.v (.map none)]⟩),(1001,⟨108,[bV i.2.1.1,sV i.2.1.2.1 i.2.1.2.2.1 i.2.1.2.2.2,bV i.2.2.1.1,sV i.2.2.1.2.1 i.2.2.1.2.2.1 i.2.2.1.2.2.2,.v (.map (some i.2.2.2.1)),.v (.map (some i.2.2.2.2))]⟩)])
  (fun i u' m'=>i.1<=ss.length/\R9 u' (.agg #[.bool i.2.1.1,.slice i.2.1.2.1 i.2.1.2.2.1 i.2.1.2.2.2,.bool i.2.2.1.1,.slice i.2.2.1.2.1 i.2.2.1.2.2.1 i.2.2.1.2.2.2,.map (some i.2.2.2.1),.map (some i.2.2.2.2)]) (Iv (CF.num 1) (L.take i.1)) (2^i.1-1)/\m'=PH.mt)
  (fun i=>ss.length-i.1) (0,(b,a,n,c),(b',P,n',V),g1,g2) ⟨oV,k2,rfl⟩ ?_
 rintro J ⟨i,⟨b,a,n,c⟩,⟨b',P,n',V⟩,g1,g2⟩ hJ u3 m3 l3 ⟨hi,I,rfl⟩;simp only at hi I hJ;have z:=l2.trans l3;by_cases j:i<ss.length
 ·refine G.lT i ss.length ?_;obtain⟨bb,off,rfl,e⟩:=M5 (hS.mono z) j;refine G.N ss.length yc j e ?_;have H:ss.getD i []=ss[i]:=by simp[A02,A01 j]
  have E:T[i]?=some T[i]:=A01 oV;have C:L[i]?=some (Gm F lab i (ss.getD i [])):=by rw[K,H];exact Hg (A01 j)
  have a1:(Gm F lab i (ss.getD i [])).Small:=m _ (A1k C);have hv:=hT.val i _ _ E (A01 j);rw[<-H]at hv;refine G.c call112 (Kk.all (Ahp (hX.mono z) (ok.mono z) E hv)) ?_;intro v4 u4 l4 k4;obtain⟨b4,a4,n4,c4,aa,a9,al,ab,ad,ae,rfl⟩:=Sw k4;have a0:2^i<=2^7:=A10 oV oV;have af:1<=2^i:=Nat.one_le_two_pow;obtain⟨X,ac⟩:=R2 m i oV;have t:Iv (CF.num 1) (L.take (i+1))=(Iv (CF.num 1) (L.take i)).mul (Gm F lab i (ss.getD i [])).cf:=by
   rw[A1n,C];exact Aa0 _ _ _
  refine G.c call111 (Kk.all (Arj (I.mono l4) k4 (Azw X a1.cfd oV (Azz oV) (Nat.pos_of_ne_zero mV) oV))) ?_;intro v5 u5 l5 k5;obtain⟨b5,a5,n5,c5,U,Q,a7,W,Y,Z,rfl⟩:=Sw k5;refine G.i i ?_;rw[<-t]at k5;exact G.b (hJ (i+1,(b5,a5,n5,c5),(U,Q,a7,W),Y,Z) _ _ _ cV ((l3.trans l4).trans l5) ⟨dV,k5.up (by dsimp only;rw[A2d];omega),rfl⟩ dV)
 obtain rfl:i=ss.length:=oV;refine G.lF ss.length ss.length ?_;have a6:L.take ss.length=L:=by rw[A1j oV]
 have a3:CFS (Iv (CF.num 1) L):=by
  obtain⟨q1,_⟩:=R2 m L.length (A08 _);rw[A15]at q1;exact q1.cfs oV (A0n oV)
 rw[a6]at I;have a0:2^ss.length<=2^8:=A10 oV oV;exact G.r (.agg #[.bool b,.slice a n c,.bool b',.slice P n' V,.map (some g1),.map (some g2)]) ⟨rfl,I.up oV,a3⟩
end
section
variable {u:PH}
def Tw {p:Par}(h:PV p):Fn0 prog 161 [Ap p] u fun v _=>v=zT:=by
 refine Fn0.o func161<|G.hT' p.1 (-1) (by have:=h.lo;omega) ?_;by_cases e:p.2 = []
 ·exact G.q p.2 [] e<|G.r zT ⟨rfl,rfl⟩
 refine G.w p.2 [] e<|G.c call107 (Rr (h.cat.resolve_left e)) ?_;rintro t m j rfl;exact G.r zT ⟨rfl,rfl⟩
def ElP.par {b off:Nat}{x:Par×Rat}(h:ElP u b off (Bt x)):ElP u b (off+0) (.agg #[zI x.1.1,zS x.1.2]):=h.sub fun i y e=>by
 match i,e with
 |0,e=>simpa[Bt,Value.cells] using e
 |1,e=>simpa[Bt,Value.cells] using e
 |i+2,e=>simp[Value.cells]at e
def Ahu {v:Value}{F:CF}{K:Nat}(h:No u v F K)(sF:CFS F)(vF:CFV F)(hK:K<=1000000):Fn0 prog 92 [v] u fun r _=>r=zT:=by
 obtain⟨T,Q,a1,c1,a2,c2,rfl,hT,hQ,cT,cQ,kT,kQ⟩:=h;refine Fn0.o func92<|G.c call24 (Ee (SB.tx sF.c)) ?_;rintro v1 u1 l1 rfl;refine G.l (ι:=Nat) (fun i=>[(1,.p 0 0),(12,sV a1 T.length c1),(13,iV T.length),(14,iV i)])
  (fun _=>[(0,⟨38,[tV (Ae F.c),sV a1 T.length c1,sV a2 Q.length c2]⟩)])
  (fun i u' m'=>i<=T.length/\m'=PH.mt) (fun i=>T.length-i) 0 ⟨oV,rfl⟩ ?_
 rintro J i W u2 m2 l2 ⟨hi,rfl⟩;have V:=l1.trans l2;by_cases z:i<T.length
 ·refine G.lT i T.length ?_;obtain⟨x,L⟩:∃ x,T[i]?=some x:=⟨_,A01 z⟩;have C:=A1k L;obtain⟨m,E⟩:=cT.val _ C;obtain⟨ba,oa,rfl,ea⟩:=Ac.at' (hT.mono V) (j:=i) (e:=Bt x) (by simp[L]);have P:SB x.2:=by rw[m];exact sF.s _
  have a5:PV x.1:=vF.s x.1 (by rw[<-m];exact E);refine G.N T.length c1 z ea<|G.c call161 (Tw a5) ?_;rintro v3 u3 R rfl;refine G.c call24 (Ee (SB.tx P)) ?_;rintro v4 u4 U rfl;refine G.w (Ae x.2) [48] (Sf E) ?_;by_cases h0:i=0
  ·subst h0;exact G.gF (0:Nat) 0<|G.p (0:Nat) 1 (0+1:Nat)<|G.b (W (0+1) _ _ _ cV ((l2.trans R).trans U) ⟨oV,rfl⟩ oV)
  refine G.gT i 0<|G.s i 1 (i-1:Nat) ?_;obtain⟨y,Y⟩:∃ y,T[i-1]?=some y:=⟨_,A01 oV⟩;have H:Bk y.1 x.1<0:=by
   have hp:=cT.srt;obtain⟨h1,rfl⟩:=A05.1 L;obtain⟨h2,rfl⟩:=A05.1 Y;have:=A3n.1 hp (i-1) i (by rw[A03];omega) (by rw[A03];omega) oV;rw[A3v,A3v]at this;exact this
  obtain⟨bb,ob,e1,eb⟩:=Ac.at' (hT.mono ((V.trans R).trans U)) (j:=i-1) (e:=Bt y) (by simp[Y]);cases e1;refine G.a ba oa T.length c1 (i-1) 3 oV<|G.f 162 ba (oa+(i-1)*3) 0 0<|G.g (some 2) eb.par<|G.c call113 (Fp y.1 x.1 true (decide_eq_true H)) ?_;rintro v5 u5 l5 rfl;exact G.i i<|G.b (W (i+1) _ _ _ cV (((l2.trans R).trans U).trans l5) ⟨oV,rfl⟩ oV)
 obtain rfl:i=T.length:=oV;refine G.lF T.length T.length ?_;clear W;refine G.l (ι:=Nat) (fun i=>[(1,.p 0 0),(53,sV a2 Q.length c2),(54,iV Q.length),(55,iV i)])
  (fun _=>[(0,⟨38,[tV (Ae F.c),sV a1 T.length c1,sV a2 Q.length c2]⟩)])
  (fun i u' m'=>i<=Q.length/\m'=PH.mt) (fun i=>Q.length-i) 0 ⟨oV,rfl⟩ ?_
 rintro J i W u3 m3 R ⟨hi,rfl⟩;have a0:=V.trans R;by_cases z:i<Q.length
 ·refine G.lT i Q.length ?_;obtain⟨x,I⟩:∃ x,Q[i]?=some x:=⟨_,A01 z⟩;have C:=A1k I;obtain⟨m,E⟩:=cQ.val _ C;obtain⟨ba,oa,rfl,ea⟩:=Ac.at' (hQ.mono a0) (j:=i) (e:=D8 x) (by simp[I]);have P:SB x.2:=by rw[m];exact sF.t _
  obtain⟨a3,a4,Z⟩:=vF.t x.1 (by rw[<-m];exact E);refine G.N Q.length c2 z ea<|G.c call161 (Tw a3) ?_;rintro v3 u4 U rfl;refine G.c call161 (Tw a4) ?_;rintro v4 u5 l5 rfl;refine G.c call113 (Fp x.1.2 x.1.1 false (decide_eq_false fun e=>Z ((Et.sym _ _).1 e))) ?_;rintro v5 u6 l6 rfl;refine G.c call24 (Ee (SB.tx P)) ?_;rintro v6 u7 l7 rfl;refine G.w (Ae x.2) [48] (Sf E) ?_;by_cases h0:i=0
  ·subst h0;exact G.gF (0:Nat) 0<|G.p (0:Nat) 1 (0+1:Nat)<|G.b (W (0+1) _ _ _ cV ((((R.trans U).trans l5).trans l6).trans l7) ⟨oV,rfl⟩ oV)
  refine G.gT i 0<|G.s i 1 (i-1:Nat) ?_;obtain⟨y,X⟩:∃ y,Q[i-1]?=some y:=⟨_,A01 oV⟩;have H:Oc y.1 x.1<0:=by
   have hp:=cQ.srt;obtain⟨h1,rfl⟩:=A05.1 I;obtain⟨h2,rfl⟩:=A05.1 X;have:=A3n.1 hp (i-1) i (by rw[A03];omega) (by rw[A03];omega) oV;rw[A3v,A3v]at this;exact this
  obtain⟨bb,ob,e1,eb⟩:=Ac.at' (hQ.mono ((((a0.trans U).trans l5).trans l6).trans l7)) (j:=i-1) (e:=D8 y) (by simp[X]);cases e1;refine G.n Q.length c2 eb<|G.c call114 (P4 y x true (decide_eq_true H)) ?_;rintro v5 u8 l8 rfl;exact G.i i<|G.b (W (i+1) _ _ _ cV (((((R.trans U).trans l5).trans l6).trans l7).trans l8) ⟨oV,rfl⟩ oV)
 obtain rfl:i=Q.length:=oV;exact G.lF Q.length Q.length<|G.r zT ⟨rfl,rfl⟩
end
end Go.Proofs.YtemmheaocgmebaaGreatDoor
