/- Parts of one proof, joined by a program. -/
import Derived.Test.YtemmheaocgmebaaGreatDoorR08
set_option linter.defProp false
set_option linter.unusedVariables false
set_option linter.unusedSimpArgs false
set_option linter.unusedSectionVars false
set_option maxHeartbeats 16000000
namespace Go.Proofs.YtemmheaocgmebaaGreatDoor
open Go.Proofs.Tryz
open Go.RowKit Go.MapKept
def A9f:=@Rat.zero_add
theorem Arj {u:PH}{F H:CF}{N M:Nat}{v w:Value}(hv:R9 u v F N)(hw:R9 u w H M)(ok:Aw3 F H) :
 Ag prog 111 [v,w] u PH.mt fun v' u' T=>Kk T u' v' (F.mul H) (M+N+N*M):=by
 obtain⟨vb,va,vn,vc,ay,ax,b0,az,v1,v2,q1,q2,rfl,cw,f1,f2,s1,s2⟩:=id hv;obtain⟨wb,wa,wn,wc,b3,b1,b6,b5,w1,w2,p1,p2,rfl,cx,e1,e2,t1,t2⟩:=id hw;obtain⟨lv,⟨a8,O,rfl,cs,bh⟩,da,di,f3⟩:=s1.at;obtain⟨lw,⟨aa,U,rfl,ct,bj⟩,dc,dk,e7⟩:=t1.at;obtain⟨kv,⟨b7,ac,rfl,cb,bi⟩,db,dj,ep⟩:=s2.at;obtain⟨kw,⟨b8,ad,rfl,cc,bk⟩,dd,dl,er⟩:=t2.at;have cd:(lv.map (·.1)).Nodup:=Hu.nodup (enc:=Ap) ⟨a8,O,rfl,cs,bh⟩;have ce:(lw.map (·.1)).Nodup:=Hu.nodup (enc:=Ap) ⟨aa,U,rfl,ct,bj⟩;have cu:(kv.map (·.1)).Nodup:=Hu.nodup (enc:=prV) ⟨b7,ac,rfl,cb,bi⟩;have cv:(kw.map (·.1)).Nodup:=Hu.nodup (enc:=prV) ⟨b8,ad,rfl,cc,bk⟩;refine Ag.o func111<|G.callO _ _ kV call46 (Jm (n:=0) oV oV) ?_;rintro v3 u3 m3 l3 ⟨b,a,n,c,b',a',n',c',g1,g2,o1,o2,rfl,_,aj,rfl,h1,h2⟩ _;rw[By];refine G.c call28 (Gh (cw.mono l3) (cx.mono l3) (SB.ten ok.a.c) (SB.ten ok.b.c)) ?_;intro v5 u5 l5 r5;obtain⟨b2,a2,x2,c2,E,K,I,rfl,_⟩:=r5.opn;have d2:=l3.trans l5;obtain⟨m5,e6,cq,cr⟩:∃ m5:PH,m5=(PH.mt.upd g1 o1).upd g2 o2/\m5 g1=some o1/\m5 g2=some o2:=⟨_,rfl,by rw[Ad _ _ aj,Ab],Ab _ _ _⟩;rw[<-e6];have an:CFS (F.scale H.c):=ok.d;have d8:CFS (H.scale F.c):=ok.c;have cg:∀ k,SB ((F.scale H.c).s k+H.s k*F.c):=fun k=>by rw[A46];exact ok.e.s k
 have bg:∀ k,SB ((F.scale H.c).t k+H.t k*F.c):=fun k=>by rw[A46];exact ok.e.t k
 have dg:∀ k:Par,SB ((fun _:Par=>(0:Rat)) k+F.s k*H.c):=fun k=>by show SB (0+F.s k*H.c);rw[A9f];exact an.s k
 have dh:∀ k:Par×Par,SB ((fun _:Par×Par=>(0:Rat)) k+F.t k*H.c):=fun k=>by show SB (0+F.t k*H.c);rw[A9f];exact an.t k
 have dz:D7 Ap KT u5 o1 (fun _=>0) 0:=h1.mono l5;have dv:D7 prV KO u5 o2 (fun _=>0) 0:=h2.mono l5;have f4:=d2;refine G.mapRange v1 a8 O 118 69 kV (.inl (d2 _ _ f1)) ?_;intro ao c6 ej;have cy:g1≠ao:=fun e=>by subst e;rw[c6]at cq;cases cq
 have dm:g2≠ao:=fun e=>by subst e;rw[c6]at cr;cases cr
 refine G.l (ι:=List MapEntry×List ((Par)×Value)) (fun _=>[(2,.p 0 0),(3,.p 1 0),(4,.p 2 0),(5,.p 1001 0),(28,.v (.pointer (some ⟨ao,0,none⟩)))])
  (fun _=>[(0,⟨108,[bV vb,sV va vn vc,bV ay,sV ax b0 az,.v (.map (some v1)),.v (.map (some v2))]⟩),(1,⟨108,[bV wb,sV wa wn wc,bV b3,sV b1 b6 b5,.v (.map (some w1)),.v (.map (some w2))]⟩),(2,⟨108,[bV false,sV none 0 0,bV false,sV none 0 0,.v (.map none),.v (.map none)]⟩),(1001,⟨108,[bV b2,sV a2 x2 c2,bV false,sV E K I,.v (.map (some g1)),.v (.map (some g2))]⟩)])
  (fun i u' T=>Gj Ap a8 lv i.1 i.2/\T ao=some (.mapIter (some v1) O (Ar i.1) O)/\T g2=some o2/\∃ oo,T g1=some oo/\D7 Ap KT u' oo (Ek (fun _=>0) F.s H.c (i.2.map (·.1))) (0+i.2.length))
  (fun i=>lv.length-i.2.length) ([],[])
  ⟨Gj.nil _ _,Ab _ _ _,by rw[Ad _ _ dm];exact cr,_,by rw[Ad _ _ cy];exact cq,by
   have:Ek (fun _=>0) F.s H.c (([]:List ((Par)×Value)).map (·.1))=(fun _=>0):=by funext k;simp[Ek]
   dsimp only;rw[this];exact dz⟩ ?_
 rintro JA ⟨D,LA⟩ ck uA mA lA ⟨V,C,Y,oA,af,ba⟩;simp only at V C Y af ba ck;have aq:=d2.trans lA;refine G.mapNextL Bq.inj ao v1 a8 O lv D LA kV kV C (.inl (aq _ _ f1)) bh cs cd V ?doneA ?nextA
 case nextA =>
  rintro⟨k,xv⟩ e hp hkn he hek hev hS';simp only at hkn hek hev;obtain⟨hx,ab⟩:=da _ hp;simp only at hx ab;obtain⟨yb,ya,yn,yc,bl,bn,bm,rfl,_⟩:=hx.opn;refine G.mapEntry ao v1 a8 O D e kV (Ab _ _ _) (.inl (aq _ _ f1)) bh he ?_;rw[hek,hev];refine G.c call28 (Gh (hx.mono aq) (cx.mono aq) (SB.ten (ok.a.s k)) (SB.ten ok.b.c)) ?_;intro v4 u4 a0 r4;obtain⟨b4,a4,x4,c4,ci,d5,cj,rfl,_⟩:=r4.opn;refine G.callG _ _ kV kV call109 (g:=g1) (o:=oA) (by rw[Ad _ _ cy];exact af)
   (Oi (g2:=some g2) (y1:=b2) (y2:=(a2,x2,c2)) (y3:=false) (y4:=(E,K,I)) (ba.mono a0) r4 (an.s k) (O3 (fun _=>SB.zero) dg k) (by
    have:Ek (fun _=>0) F.s H.c (LA.map (·.1)) k=(fun _=>0) k:=by unfold Ek;rw[if_neg hkn]
    rw[this,A46];exact dg k)) ?_
  intro v5 u5 o5 a1 a3;rw[Jo _ _ _ hkn]at a3;refine G.b (ck (D++[e],LA++[(k,_)]) _ _ _ cV ((lA.trans a0).trans a1)
   ⟨hS',by rw[Ad _ _ (Ne.symm cy),Ab],by rw[Ad _ _ (Ne.symm aj),Ad _ _ dm];exact Y,o5,Ab _ _ _,by
    simpa[A3p] using a3⟩ (by have:=hS'.len;simp at this;dsimp only;simp;omega))
 case doneA =>
 intro z;rw[Me _ _ _ fun k hk=>di k fun hm=>hk (by
  obtain⟨p,hp,rfl⟩:=A1b.1 hm;exact A1b.2 ⟨p,z p hp,rfl⟩)]at ba
 have ee:=V.len;have e0:=ba.congr (f':=(F.scale H.c).s) (fun k=>by show 0+F.s k*H.c=F.s k*H.c;rw[A9f]);have dw:=dv.mono lA;clear ck V C z ba;refine G.mapRange w1 aa U 118 69 kV (.inl (aq _ _ e1)) ?_;intro ap c7 ek;have cz:g1≠ap:=fun e=>by subst e;rw[c7]at af;cases af
 have dp:g2≠ap:=fun e=>by subst e;rw[c7]at Y;cases Y
 refine G.l (ι:=List MapEntry×List ((Par)×Value)) (fun _=>[(2,.p 0 0),(3,.p 1 0),(4,.p 2 0),(5,.p 1001 0),(43,.v (.pointer (some ⟨ap,0,none⟩)))])
  (fun _=>[(0,⟨108,[bV vb,sV va vn vc,bV ay,sV ax b0 az,.v (.map (some v1)),.v (.map (some v2))]⟩),(1,⟨108,[bV wb,sV wa wn wc,bV b3,sV b1 b6 b5,.v (.map (some w1)),.v (.map (some w2))]⟩),(2,⟨108,[bV false,sV none 0 0,bV false,sV none 0 0,.v (.map none),.v (.map none)]⟩),(1001,⟨108,[bV b2,sV a2 x2 c2,bV false,sV E K I,.v (.map (some g1)),.v (.map (some g2))]⟩)])
  (fun i u' T=>Gj Ap aa lw i.1 i.2/\T ap=some (.mapIter (some w1) U (Ar i.1) U)/\T g2=some o2/\∃ oo,T g1=some oo/\D7 Ap KT u' oo (Ek (F.scale H.c).s H.s F.c (i.2.map (·.1))) (0+LA.length+i.2.length))
  (fun i=>lw.length-i.2.length) ([],[])
  ⟨Gj.nil _ _,Ab _ _ _,by rw[Ad _ _ dp];exact Y,_,by rw[Ad _ _ cz];exact af,by
   have:Ek (F.scale H.c).s H.s F.c (([]:List ((Par)×Value)).map (·.1))=(F.scale H.c).s:=by funext k;simp[Ek]
   dsimp only;rw[this];exact e0⟩ ?_
 rintro JB ⟨D,LB⟩ cl uB mB lB ⟨V,C,Z,oB,ag,bb⟩;simp only at V C Z ag bb cl;have ar:=aq.trans lB;refine G.mapNextL Bq.inj ap w1 aa U lw D LB kV kV C (.inl (ar _ _ e1)) bj ct ce V ?doneB ?nextB
 case nextB =>
  rintro⟨k,xv⟩ e hp hkn he hek hev hS';simp only at hkn hek hev;obtain⟨hx,ab⟩:=dc _ hp;simp only at hx ab;obtain⟨yb,ya,yn,yc,bl,bn,bm,rfl,_⟩:=hx.opn;refine G.mapEntry ap w1 aa U D e kV (Ab _ _ _) (.inl (ar _ _ e1)) bj he ?_;rw[hek,hev];refine G.c call28 (Gh (hx.mono ar) (cw.mono ar) (SB.ten (ok.b.s k)) (SB.ten ok.a.c)) ?_;intro v4 u4 a0 r4;obtain⟨b4,a4,x4,c4,ci,d5,cj,rfl,_⟩:=r4.opn;refine G.callG _ _ kV kV call109 (g:=g1) (o:=oB) (by rw[Ad _ _ cz];exact ag)
   (Oi (g2:=some g2) (y1:=b2) (y2:=(a2,x2,c2)) (y3:=false) (y4:=(E,K,I)) (bb.mono a0) r4 (d8.s k) (O3 an.s cg k) (by
    have:Ek (F.scale H.c).s H.s F.c (LB.map (·.1)) k=(F.scale H.c).s k:=by unfold Ek;rw[if_neg hkn]
    rw[this,A46];exact cg k)) ?_
  intro v5 u5 o5 a1 a3;rw[Jo _ _ _ hkn]at a3;refine G.b (cl (D++[e],LB++[(k,_)]) _ _ _ cV ((lB.trans a0).trans a1)
   ⟨hS',by rw[Ad _ _ (Ne.symm cz),Ab],by rw[Ad _ _ (Ne.symm aj),Ad _ _ dp];exact Z,o5,Ab _ _ _,by
    simpa[A3p] using a3⟩ (by have:=hS'.len;simp at this;dsimp only;simp;omega))
 case doneB =>
 intro z;rw[Me _ _ _ fun k hk=>dk k fun hm=>hk (by
  obtain⟨p,hp,rfl⟩:=A1b.1 hm;exact A1b.2 ⟨p,z p hp,rfl⟩)]at bb
 have ef:=V.len;have e3:=bb.congr (f':=(F.mul H).s) (fun k=>by show F.s k*H.c+H.s k*F.c=H.s k*F.c+F.s k*H.c;rw[A46]);have dx:=dw.mono lB;clear cl V C z bb;refine G.mapRange v2 b7 ac 175 69 kV (.inl (ar _ _ f2)) ?_;intro ah c8 em;have d0:g1≠ah:=fun e=>by subst e;rw[c8]at ag;cases ag
 have bt:g2≠ah:=fun e=>by subst e;rw[c8]at Z;cases Z
 refine G.l (ι:=List MapEntry×List ((Par×Par)×Value)) (fun _=>[(2,.p 0 0),(3,.p 1 0),(4,.p 2 0),(5,.p 1001 0),(58,.v (.pointer (some ⟨ah,0,none⟩)))])
  (fun _=>[(0,⟨108,[bV vb,sV va vn vc,bV ay,sV ax b0 az,.v (.map (some v1)),.v (.map (some v2))]⟩),(1,⟨108,[bV wb,sV wa wn wc,bV b3,sV b1 b6 b5,.v (.map (some w1)),.v (.map (some w2))]⟩),(2,⟨108,[bV false,sV none 0 0,bV false,sV none 0 0,.v (.map none),.v (.map none)]⟩),(1001,⟨108,[bV b2,sV a2 x2 c2,bV false,sV E K I,.v (.map (some g1)),.v (.map (some g2))]⟩)])
  (fun i u' T=>Gj prV b7 kv i.1 i.2/\T ah=some (.mapIter (some v2) ac (Ar i.1) ac)/\T g1=some oB/\∃ oo,T g2=some oo/\D7 prV KO u' oo (Ek (fun _=>0) F.t H.c (i.2.map (·.1))) (0+i.2.length))
  (fun i=>kv.length-i.2.length) ([],[])
  ⟨Gj.nil _ _,Ab _ _ _,by rw[Ad _ _ d0];exact ag,_,by rw[Ad _ _ bt];exact Z,by
   have:Ek (fun _=>0) F.t H.c (([]:List ((Par×Par)×Value)).map (·.1))=(fun _=>0):=by funext k;simp[Ek]
   dsimp only;rw[this];exact dx⟩ ?_
 rintro JC ⟨D,LC⟩ cm uC mC lC ⟨V,C,P,oC,a6,bd⟩;simp only at V C P a6 bd cm;have au:=ar.trans lC;refine G.mapNextL I1.inj ah v2 b7 ac kv D LC kV kV C (.inl (au _ _ f2)) bi cb cu V ?doneC ?nextC
 case nextC =>
  rintro⟨k,xv⟩ e hp hkn he hek hev hS';simp only at hkn hek hev;obtain⟨hx,ab⟩:=db _ hp;simp only at hx ab;obtain⟨yb,ya,yn,yc,bl,bn,bm,rfl,_⟩:=hx.opn;refine G.mapEntry ah v2 b7 ac D e kV (Ab _ _ _) (.inl (au _ _ f2)) bi he ?_;rw[hek,hev];have X:=ab.fix;refine G.pub 13003 175 [.int .i64 k.1.1,.string (mkS k.1.2),.int .i64 k.2.1,.string (mkS k.2.2)] kV kV ?_;intro bq e8 R;have q1:g1≠bq:=fun e=>by subst e;rw[Ad _ _ d0,P]at R;cases R
  have q2:g2≠bq:=fun e=>by subst e;rw[Ad _ _ bt,a6]at R;cases R
  have q3:ah≠bq:=fun e=>by subst e;rw[Ab]at R;cases R
  obtain⟨d3,d4⟩:=Aly (m:=(mC.upd ah (.mapIter (some v2) ac (Ar (D++[e])) ac)).upd bq (.cells [Value.int .i64 k.1.1,.string (mkS k.1.2),.int .i64 k.2.1,.string (mkS k.2.2)].toArray 175 (0,0))) (Ab _ _ _);refine G.addrA 175 118 2 bq 0 0 2 kV kV kV kV oV<|G.lM (some 2) bq (0+0*2) (.agg #[.int .i64 k.1.1,.string (mkS k.1.2)]) d3<|G.addrA 175 118 2 bq 0 1 2 kV kV kV kV oV<|G.lM (some 2) bq (0+1*2) (.agg #[.int .i64 k.2.1,.string (mkS k.2.2)]) d4<|G.c call28 (Gh (hx.mono au) (cx.mono au) (SB.ten (ok.a.t k)) (SB.ten ok.b.c)) ?_;intro v4 u4 a0 r4;obtain⟨b4,a4,x4,c4,ci,d5,cj,rfl,_⟩:=r4.opn;refine G.callG _ _ kV kV call110 (g:=g2) (o:=oC) (by rw[Ad _ _ q2,Ad _ _ bt];exact a6)
   (H7 (g1:=some g1) (y1:=b2) (y2:=(a2,x2,c2)) (y3:=false) (y4:=(E,K,I)) (p:=k.1) (r:=k.2) (bd.mono a0) r4 (an.t k) (by rw[X];exact O3 (fun _=>SB.zero) dh k) (by
    have:Ek (fun _=>0) F.t H.c (LC.map (·.1)) k=(fun _=>0) k:=by unfold Ek;rw[if_neg hkn]
    rw[X,this,A46];exact dh k)) ?_
  intro v5 u5 o5 a1 a3;rw[X,Jo _ _ _ hkn]at a3;refine G.b (cm (D++[e],LC++[(k,_)]) _ _ _ cV ((lC.trans a0).trans a1)
   ⟨hS',by rw[Ad _ _ (Ne.symm bt),Ad _ _ q3,Ab],by rw[Ad _ _ aj,Ad _ _ q1,Ad _ _ d0];exact P,o5,Ab _ _ _,by
    simpa[A3p] using a3⟩ (by have:=hS'.len;simp at this;dsimp only;simp;omega))
 case doneC =>
 intro z;rw[Me _ _ _ fun k hk=>dj k fun hm=>hk (by
  obtain⟨p,hp,rfl⟩:=A1b.1 hm;exact A1b.2 ⟨p,z p hp,rfl⟩)]at bd
 have eg:=V.len;have dy:=bd.congr (f':=(F.scale H.c).t) (fun k=>by show 0+F.t k*H.c=F.t k*H.c;rw[A9f]);have e4:=e3.mono lC;clear cm V C z bd;refine G.mapRange w2 b8 ad 175 69 kV (.inl (au _ _ e2)) ?_;intro ai ca eo;have d1:g1≠ai:=fun e=>by subst e;rw[ca]at P;cases P
 have bu:g2≠ai:=fun e=>by subst e;rw[ca]at a6;cases a6
 refine G.l (ι:=List MapEntry×List ((Par×Par)×Value)) (fun _=>[(2,.p 0 0),(3,.p 1 0),(4,.p 2 0),(5,.p 1001 0),(76,.v (.pointer (some ⟨ai,0,none⟩)))])
  (fun _=>[(0,⟨108,[bV vb,sV va vn vc,bV ay,sV ax b0 az,.v (.map (some v1)),.v (.map (some v2))]⟩),(1,⟨108,[bV wb,sV wa wn wc,bV b3,sV b1 b6 b5,.v (.map (some w1)),.v (.map (some w2))]⟩),(2,⟨108,[bV false,sV none 0 0,bV false,sV none 0 0,.v (.map none),.v (.map none)]⟩),(1001,⟨108,[bV b2,sV a2 x2 c2,bV false,sV E K I,.v (.map (some g1)),.v (.map (some g2))]⟩)])
  (fun i u' T=>Gj prV b8 kw i.1 i.2/\T ai=some (.mapIter (some w2) ad (Ar i.1) ad)/\T g1=some oB/\∃ oo,T g2=some oo/\D7 prV KO u' oo (Ek (F.scale H.c).t H.t F.c (i.2.map (·.1))) (0+LC.length+i.2.length))
  (fun i=>kw.length-i.2.length) ([],[])
  ⟨Gj.nil _ _,Ab _ _ _,by rw[Ad _ _ d1];exact P,_,by rw[Ad _ _ bu];exact a6,by
   have:Ek (F.scale H.c).t H.t F.c (([]:List ((Par×Par)×Value)).map (·.1))=(F.scale H.c).t:=by funext k;simp[Ek]
   dsimp only;rw[this];exact dy⟩ ?_
 rintro JD ⟨D,LD⟩ cn uD mD lD ⟨V,C,Q,oD,a7,be⟩;simp only at V C Q a7 be cn;have av:=au.trans lD;refine G.mapNextL I1.inj ai w2 b8 ad kw D LD kV kV C (.inl (av _ _ e2)) bk cc cv V ?doneD ?nextD
 case nextD =>
  rintro⟨k,xv⟩ e hp hkn he hek hev hS';simp only at hkn hek hev;obtain⟨hx,ab⟩:=dd _ hp;simp only at hx ab;obtain⟨yb,ya,yn,yc,bl,bn,bm,rfl,_⟩:=hx.opn;refine G.mapEntry ai w2 b8 ad D e kV (Ab _ _ _) (.inl (av _ _ e2)) bk he ?_;rw[hek,hev];have X:=ab.fix;refine G.pub 17003 175 [.int .i64 k.1.1,.string (mkS k.1.2),.int .i64 k.2.1,.string (mkS k.2.2)] kV kV ?_;intro bq e8 R;have q1:g1≠bq:=fun e=>by subst e;rw[Ad _ _ d1,Q]at R;cases R
  have q2:g2≠bq:=fun e=>by subst e;rw[Ad _ _ bu,a7]at R;cases R
  have q3:ai≠bq:=fun e=>by subst e;rw[Ab]at R;cases R
  obtain⟨d3,d4⟩:=Aly (m:=(mD.upd ai (.mapIter (some w2) ad (Ar (D++[e])) ad)).upd bq (.cells [Value.int .i64 k.1.1,.string (mkS k.1.2),.int .i64 k.2.1,.string (mkS k.2.2)].toArray 175 (0,0))) (Ab _ _ _);refine G.addrA 175 118 2 bq 0 0 2 kV kV kV kV oV<|G.lM (some 2) bq (0+0*2) (.agg #[.int .i64 k.1.1,.string (mkS k.1.2)]) d3<|G.addrA 175 118 2 bq 0 1 2 kV kV kV kV oV<|G.lM (some 2) bq (0+1*2) (.agg #[.int .i64 k.2.1,.string (mkS k.2.2)]) d4<|G.c call28 (Gh (hx.mono av) (cw.mono av) (SB.ten (ok.b.t k)) (SB.ten ok.a.c)) ?_;intro v4 u4 a0 r4;obtain⟨b4,a4,x4,c4,ci,d5,cj,rfl,_⟩:=r4.opn;refine G.callG _ _ kV kV call110 (g:=g2) (o:=oD) (by rw[Ad _ _ q2,Ad _ _ bu];exact a7)
   (H7 (g1:=some g1) (y1:=b2) (y2:=(a2,x2,c2)) (y3:=false) (y4:=(E,K,I)) (p:=k.1) (r:=k.2) (be.mono a0) r4 (d8.t k) (by rw[X];exact O3 an.t bg k) (by
    have:Ek (F.scale H.c).t H.t F.c (LD.map (·.1)) k=(F.scale H.c).t k:=by unfold Ek;rw[if_neg hkn]
    rw[X,this,A46];exact bg k)) ?_
  intro v5 u5 o5 a1 a3;rw[X,Jo _ _ _ hkn]at a3;refine G.b (cn (D++[e],LD++[(k,_)]) _ _ _ cV ((lD.trans a0).trans a1)
   ⟨hS',by rw[Ad _ _ (Ne.symm bu),Ad _ _ q3,Ab],by rw[Ad _ _ aj,Ad _ _ q1,Ad _ _ d1];exact Q,o5,Ab _ _ _,by
    simpa[A3p] using a3⟩ (by have:=hS'.len;simp at this;dsimp only;simp;omega))
 case doneD =>
 intro z;rw[Me _ _ _ fun k hk=>dl k fun hm=>hk (by
  obtain⟨p,hp,rfl⟩:=A1b.1 hm;exact A1b.2 ⟨p,z p hp,rfl⟩)]at be
 have eh:=V.len;have d6:=be.congr (f':=((H.scale F.c).add (F.scale H.c)).t) (fun k=>by show F.t k*H.c+H.t k*F.c=H.t k*F.c+F.t k*H.c;rw[A46]);have e5:=e4.mono lD;clear cn V C z be;obtain⟨base,bf⟩:∃ base:Par×Par->Rat,base=((H.scale F.c).add (F.scale H.c)).t:=⟨_,rfl⟩;have ae:=ok.acc;rw[<-bf]at d6 ae;have ds:=ok.pr;have dr:=ok.con;refine G.mapRange v1 a8 O 118 69 kV (.inl (av _ _ f1)) ?_;intro it d9 f0;have i1:g1≠it:=fun e=>by subst e;rw[d9]at Q;cases Q
 have i2:g2≠it:=fun e=>by subst e;rw[d9]at a7;cases a7
 refine G.l (ι:=List MapEntry×List (Par×Value)) (fun _=>[(2,.p 0 0),(3,.p 1 0),(4,.p 2 0),(5,.p 1001 0),(94,.v (.pointer (some ⟨it,0,none⟩)))])
  (fun _=>[(0,⟨108,[bV vb,sV va vn vc,bV ay,sV ax b0 az,.v (.map (some v1)),.v (.map (some v2))]⟩),(1,⟨108,[bV wb,sV wa wn wc,bV b3,sV b1 b6 b5,.v (.map (some w1)),.v (.map (some w2))]⟩),(2,⟨108,[bV false,sV none 0 0,bV false,sV none 0 0,.v (.map none),.v (.map none)]⟩),(1001,⟨108,[bV b2,sV a2 x2 c2,bV false,sV E K I,.v (.map (some g1)),.v (.map (some g2))]⟩)])
  (fun i u' T=>Gj Ap a8 lv i.1 i.2/\T it=some (.mapIter (some v1) O (Ar i.1) O)/\T g1=some oB/\∃ Ps:List (Par×Par),Ps.Nodup/\(∀ x:Par×Par,x∈Ps↔x.1∈i.2.map (·.1)/\x.2∈lw.map (·.1))/\∃ aw,T g2=some aw/\D7 prV KO u' aw (fun k=>base k+Er F H Ps k) (0+LC.length+LD.length+i.2.length*lw.length))
  (fun i=>lv.length-i.2.length) ([],[])
  ⟨Gj.nil _ _,Ab _ _ _,by rw[Ad _ _ i1];exact Q,[],mV,mV,oD,by rw[Ad _ _ i2];exact a7,(d6.congr fun k=>by simp only[Er];grind).up mV⟩ ?_
 rintro J ⟨D,L⟩ hJ u6 m6 l6 ⟨V,C,am,Ps,d7,co,aw,br,hR⟩;simp only at V C am co br hR hJ;have c1:=av.trans l6;refine G.mapNextL Bq.inj it v1 a8 O lv D L kV kV C (.inl (c1 _ _ f1)) bh cs cd V ?done1 ?next1
 case next1 =>
  rintro⟨p,xv⟩ e hp hpn he hek hev hS';simp only at hpn hek hev;have hx:=(da _ hp).1;simp only at hx;obtain⟨yb,ya,yn,yc,bl,bn,bm,rfl,_⟩:=hx.opn;refine G.mapEntry it v1 a8 O D e kV (Ab _ _ _) (.inl (c1 _ _ f1)) bh he ?_;rw[hek,hev];refine G.mapRange w1 aa U 118 69 kV (.inl (c1 _ _ e1)) ?_;intro ak a5 ei;have j1:g1≠ak:=fun e=>by subst e;rw[Ad _ _ i1,am]at a5;cases a5
  have j2:g2≠ak:=fun e=>by subst e;rw[Ad _ _ i2,br]at a5;cases a5
  have k1:it≠ak:=fun e=>by subst e;rw[Ab]at a5;cases a5
  refine G.l (ι:=List MapEntry×List (Par×Value)) (fun _=>[(2,.p 0 0),(3,.p 1 0),(4,.p 2 0),(5,.p 1001 0),(14,.p 21003 0),(15,.p 21004 0),(94,.v (.pointer (some ⟨it,0,none⟩))),(102,.v (.pointer (some ⟨ak,0,none⟩)))])
   (fun _=>[(0,⟨108,[bV vb,sV va vn vc,bV ay,sV ax b0 az,.v (.map (some v1)),.v (.map (some v2))]⟩),(1,⟨108,[bV wb,sV wa wn wc,bV b3,sV b1 b6 b5,.v (.map (some w1)),.v (.map (some w2))]⟩),(2,⟨108,[bV false,sV none 0 0,bV false,sV none 0 0,.v (.map none),.v (.map none)]⟩),(1001,⟨108,[bV b2,sV a2 x2 c2,bV false,sV E K I,.v (.map (some g1)),.v (.map (some g2))]⟩),(21003,⟨118,[iV p.1,tV p.2]⟩),(21004,⟨69,[bV yb,sV ya yn yc,bV false,sV bl bn bm]⟩)])
   (fun i u' T=>Gj Ap aa lw i.1 i.2/\T ak=some (.mapIter (some w1) U (Ar i.1) U)/\T it=some (.mapIter (some v1) O (Ar (D++[e])) O)/\T g1=some oB/\∃ Qs:List (Par×Par),Qs.Nodup/\(∀ x:Par×Par,x∈Qs↔(x.1∈L.map (·.1)/\x.2∈lw.map (·.1))\/(x.1=p/\x.2∈i.2.map (·.1)))/\∃ oi,T g2=some oi/\D7 prV KO u' oi (fun k=>base k+Er F H Qs k) (0+LC.length+LD.length+L.length*lw.length+i.2.length))
   (fun i=>lw.length-i.2.length) ([],[])
   ⟨Gj.nil _ _,Ab _ _ _,by rw[Ad _ _ k1,Ab],by rw[Ad _ _ j1,Ad _ _ i1];exact am,Ps,d7,by intro x;rw[co];simp,aw,by rw[Ad _ _ j2,Ad _ _ i2];exact br,hR⟩ ?_
  rintro J2 ⟨D2,L2⟩ iJ ui mi c0 ⟨iS,ch,bz,bw,Qs,bp,bo,oi,bx,iR⟩;simp only at iS ch bz bw bo bx iR iJ;have c3:=c1.trans c0;refine G.mapNextL Bq.inj ak w1 aa U lw D2 L2 kV kV ch (.inl (c3 _ _ e1)) bj ct ce iS ?done2 ?next2
  case next2 =>
   rintro⟨k,yv⟩ e2 hk hkn he2 hek2 hev2 iS';simp only at hkn hek2 hev2;have hy:=(dc _ hk).1;simp only at hy;obtain⟨zb,za,zn,zc,e9,eb,ea,rfl,_⟩:=hy.opn;have df:(p,k)∉Qs:=fun h=>by
    rcases (bo _).1 h with h|h
    ·exact hpn h.1
    exact hkn h.2
   have al:(Qs++[(p,k)]).Nodup:=by
    rw[A4p];exact⟨bp,mV,fun a ha b hb e'=>df (by simp at hb;rw[<-hb,<-e'];exact ha)⟩
   have c5:∀ x:Par×Par,x∈Qs++[(p,k)]↔(x.1∈L.map (·.1)/\x.2∈lw.map (·.1))\/(x.1=p/\x.2∈(L2++[(k,Value.agg #[.bool zb,.slice za zn zc,.bool false,.slice e9 eb ea])]).map (·.1)):=fun x=>by
    obtain⟨x1,x2⟩:=x;rw[A1h,bo];simp only[A1i,A1h,A2u,A7m,A12,A2i];constructor
    ·rintro ((h|⟨h1,h2⟩)|⟨h1,h2⟩)
     ·exact .inl h
     ·exact .inr ⟨h1,.inl h2⟩
     exact .inr ⟨h1,.inr h2⟩
    rintro (h|⟨h1,h2|h2⟩)
    ·exact .inl (.inl h)
    ·exact .inl (.inr ⟨h1,h2⟩)
    exact .inr ⟨h1,h2⟩
   refine G.mapEntry ak w1 aa U D2 e2 kV (Ab _ _ _) (.inl (c3 _ _ e1)) bj he2 ?_;rw[hek2,hev2];refine G.c call28 (Gh (hx.mono c3) (hy.mono c3) (SB.ten (ok.a.s p)) (SB.ten (ok.b.s k))) ?_;intro v9 u9 l9 r9;obtain⟨b9,a9,n9,c9,ew,f6,ez,rfl,_⟩:=r9.opn;by_cases bs:p=k
   ·have W:con F H (p,k)=F.s p*H.s k+F.s p*H.s k:=by unfold con;rw[if_pos bs]
    refine G.eqAgg 118 #[.int .i64 p.1,.string (mkS p.2)] #[.int .i64 k.1,.string (mkS k.2)] true kV kV kV (fun w=>by rw[<-decide_eq_true bs];exact Bq.eq p k w)<|G.c call26 (Pd r9 r9 (SB.ten (ds p k)) (SB.ten (ds p k))) ?_;intro f8 f7 dq du;obtain⟨ex,eu,f5,ey,ec,et,ed,rfl,_⟩:=du.opn;refine G.callG _ _ kV kV call110 (g:=g2) (o:=oi) (by rw[Ad _ _ j2];exact bx)
     (H7 (g1:=some g1) (y1:=b2) (y2:=(a2,x2,c2)) (y3:=false) (y4:=(E,K,I)) (p:=p) (r:=k) (iR.mono (l9.trans dq)) du (by have:=dr (p,k);rw[W]at this;exact this) (ae Qs bp _) (by
      have:=ae (Qs++[(p,k)]) al (Ay p k);rw[Jt,if_pos rfl,W]at this;rw[show (F.s p*H.s k+F.s p*H.s k)+(base (Ay p k)+Er F H Qs (Ay p k))=base (Ay p k)+((F.s p*H.s k+F.s p*H.s k)+Er F H Qs (Ay p k)) by grind];exact this)) ?_
    intro v8 u8 o8 l8 r8;refine G.b (iJ (D2++[e2],L2++[(k,_)]) _ _ _ cV ((c0.trans (l9.trans dq)).trans l8)
     ⟨iS',by rw[Ad _ _ (Ne.symm j2),Ab],by rw[Ad _ _ (Ne.symm i2),Ad _ _ k1];exact bz,by rw[Ad _ _ aj,Ad _ _ j1];exact bw,Qs++[(p,k)],al,c5,o8,Ab _ _ _,?_⟩ (by have:=iS'.len;simp at this;dsimp only;simp;omega))
    refine (r8.congr fun j=>?_).up (by simp[A3p]);rw[Jt,W];unfold Nh;by_cases e:j=Ay p k
    ·rw[if_pos e,if_pos e,e];grind
    rw[if_neg e,if_neg e]
   have W:con F H (p,k)=F.s p*H.s k:=by unfold con;rw[if_neg bs]
   refine G.eqAgg 118 #[.int .i64 p.1,.string (mkS p.2)] #[.int .i64 k.1,.string (mkS k.2)] false kV kV kV (fun w=>by rw[<-decide_eq_false bs];exact Bq.eq p k w)<|G.callG _ _ kV kV call110 (g:=g2) (o:=oi) (by rw[Ad _ _ j2];exact bx)
    (H7 (g1:=some g1) (y1:=b2) (y2:=(a2,x2,c2)) (y3:=false) (y4:=(E,K,I)) (p:=p) (r:=k) (iR.mono (l9)) r9 (by have:=dr (p,k);rw[W]at this;exact this) (ae Qs bp _) (by
     have:=ae (Qs++[(p,k)]) al (Ay p k);rw[Jt,if_pos rfl,W]at this;rw[show (F.s p*H.s k)+(base (Ay p k)+Er F H Qs (Ay p k))=base (Ay p k)+((F.s p*H.s k)+Er F H Qs (Ay p k)) by grind];exact this)) ?_
   intro v8 u8 o8 l8 r8;refine G.b (iJ (D2++[e2],L2++[(k,_)]) _ _ _ cV ((c0.trans (l9)).trans l8)
    ⟨iS',by rw[Ad _ _ (Ne.symm j2),Ab],by rw[Ad _ _ (Ne.symm i2),Ad _ _ k1];exact bz,by rw[Ad _ _ aj,Ad _ _ j1];exact bw,Qs++[(p,k)],al,c5,o8,Ab _ _ _,?_⟩ (by have:=iS'.len;simp at this;dsimp only;simp;omega))
   refine (r8.congr fun j=>?_).up (by simp[A3p]);rw[Jt,W];unfold Nh;by_cases e:j=Ay p k
   ·rw[if_pos e,if_pos e,e];grind
   rw[if_neg e,if_neg e]
  case done2 =>
  intro cp;refine G.b (hJ (D++[e],L++[(p,_)]) _ _ _ cV (l6.trans c0) ⟨hS',bz,bw,Qs,bp,fun x=>?_,oi,bx,iR.up ?_⟩ (by have:=hS'.len;simp at this;dsimp only;simp;omega))
  ·rw[bo];simp only[A1i,A1h,A2u,A7m,A12];constructor
   ·rintro (h|⟨h1,h2⟩)
    ·exact⟨.inl h.1,h.2⟩
    obtain⟨y,hy,e'⟩:=A1b.1 h2;exact⟨.inr h1,A1b.2 ⟨y,iS.sub y hy,e'⟩⟩
   rintro⟨h1|h1,h2⟩
   ·exact .inl ⟨h1,h2⟩
   obtain⟨y,hy,e'⟩:=A1b.1 h2;exact .inr ⟨h1,A1b.2 ⟨y,cp y hy,e'⟩⟩
  have:=iS.len;simp only[A1d,A3f,A30,A16];omega
 case done1 =>
 intro z;refine G.drop ((PH.mt.upd g1 oB).upd g2 aw) kV (fun g o hg=>?_) ?_
 ·by_cases e:g=g2
  ·subst e;rw[Ab]at hg;cases hg;exact br
  rw[Ad _ _ e]at hg;by_cases e:g=g1
  ·subst e;rw[Ab]at hg;cases hg;exact am
  rw[Ad _ _ e]at hg;cases hg
 refine G.r (.agg #[.bool b2,.slice a2 x2 c2,.bool false,.slice E K I,.map (some g1),.map (some g2)]) ⟨b2,a2,x2,c2,false,E,K,I,g1,g2,oB,aw,rfl,r5.mono ((((lA.trans lB).trans lC).trans lD).trans l6),aj,rfl,(e5.mono l6).up oV,(hR.congr fun k=>?_).up ?_⟩
 ·rw[Amk F H d7 (fun p q h1 h2=>(co _).2 ⟨?_,?_⟩) k,bf]
  ·rfl
  ·have:p∈lv.map (·.1):=A3m fun h=>h1 (di p h);obtain⟨y,hy,e'⟩:=A1b.1 this;exact A1b.2 ⟨y,z y hy,e'⟩
  exact A3m fun h=>h2 (dk q h)
 have h1:=V.len;have h2:L.length*lw.length<=N*M:=A25 oV e7;omega
section
variable {p q:Par×Par}{κ:Type}
def Aox {κ:Type}{c:κ->κ->Int}(C:Ord c){S:List (κ×Rat)}{k:κ}{q:Rat}{n:Nat}(L:Hb c (S.map (·.1)))(O:k∉S.map (·.1))
 (H:∀ j x,j<n->S[j]?=some x->c x.1 k<0) (I:∀ x,S[n]?=some x->¬ c x.1 k<0):Hb c ((S.take n++[(k,q)]++S.drop n).map (·.1)):=by
 have t:Hb c ((S.take n).map (·.1)++(S.drop n).map (·.1)):=by rw[<-A1i,A4h];exact L
 unfold Hb at t⊢;rw[A35]at t;obtain⟨R,F,T⟩:=t;have J:∀ a∈(S.take n).map (·.1),c a k<0:=fun a h=>by
  obtain⟨x,z,rfl⟩:=A1b.1 h;obtain⟨j,N,rfl⟩:=A2y z;rw[A1e]at N;refine H j _ oV ?_;rw[A7w,A01 oV]
 have K:∀ b∈(S.drop n).map (·.1),c k b<0:=by
  cases hd:S.drop n with
  |nil=>intro b g;simp at g
  |cons x B =>
   rw[hd,A2u,A8y]at F;have z:S[n]?=some x:=by
    have:=congrArg (fun l=>l[0]?) hd;simpa using this
   have E:x.1≠k:=fun e=>O (A1b.2 ⟨x,A1k z,e⟩);have U:=I x z;have h0:c k x.1<0:=by
    have Q:=C.sym k x.1;have V:c x.1 k≠0:=fun e=>E (C.eq _ _ e);rw[Q];omega
   intro b g;rw[A2u,A1g]at g;rcases g with rfl|g
   ·exact h0
   exact C.trans _ _ _ h0 (F.1 b g)
 rw[A1i,A1i,A35,A35];refine⟨⟨R,mV,fun a h b g=>?_⟩,F,fun a h b g=>?_⟩
 ·simp at g;subst g;exact J a h
 rcases A1h.1 h with h|h
 ·exact T a h b g
 simp at h;subst h;exact K b g
def Vy {α:Type}{S:List α}{x y:α}{n:Nat}:y∈S.take n++[x]++S.drop n↔y∈S\/y=x:=by
 have h:y∈S↔y∈S.take n\/y∈S.drop n:=by rw[<-A1h,A4h]
 rw[h];simp only[A1h,A12];constructor
 ·rintro ((a|a)|a)
  ·exact .inl (.inl a)
  ·exact .inr a
  exact .inl (.inr a)
 rintro ((a|a)|a)
 ·exact .inl (.inl a)
 ·exact .inr a
 exact .inl (.inr a)
structure R3 {κ:Type}(c:κ->κ->Int)(f:κ->Rat)(L:List κ)(S:List (κ×Rat)):Prop where
 srt:Hb c (S.map (·.1))
 val:∀ p∈S,p.2=f p.1/\p.2≠0
 mem:∀ k,k∈S.map (·.1)↔k∈L/\f k≠0
def R3.nil {κ:Type}{c:κ->κ->Int}{f:κ->Rat}:R3 c f [] []:=⟨List.Pairwise.nil,fun p hp=>by simp at hp,fun k=>mV⟩
def R3.skip {c:κ->κ->Int}{f:κ->Rat}{L:List κ}{S:List (κ×Rat)}{k:κ}(h:R3 c f L S)(h0:f k=0):R3 c f (L++[k]) S:=⟨h.srt,h.val,fun j=>by
 rw[h.mem,A1h,A12];constructor
 ·rintro⟨a,b⟩;exact⟨.inl a,b⟩
 rintro⟨a|rfl,b⟩
 ·exact⟨a,b⟩
 exact absurd h0 b⟩
def R3.put {κ:Type}{c:κ->κ->Int}(C:Ord c){f:κ->Rat}{L:List κ}{S:List (κ×Rat)}{k:κ}{n:Nat}(h:R3 c f L S)(h0:f k≠0)(F:k∉L)
 (t:∀ j x,j<n->S[j]?=some x->c x.1 k<0) (z:∀ x,S[n]?=some x->¬ c x.1 k<0):R3 c f (L++[k]) (S.take n++[(k,f k)]++S.drop n) :=
 ⟨Aox C h.srt (fun e=>F ((h.mem k).1 e).1) t z,fun p hp=>by
  rcases Vy.1 hp with e|rfl
  ·exact h.val p e
  ·exact⟨rfl,h0⟩,fun j=>by
  have:=h.mem j;constructor
  ·intro E;obtain⟨p,hp,rfl⟩:=A1b.1 E;rcases Vy.1 hp with e|rfl
   ·obtain⟨a,b⟩:=this.1 (A1b.2 ⟨p,e,rfl⟩);exact⟨A24 _ a,b⟩
   exact⟨mV,h0⟩
  rintro⟨a,b⟩;rcases A1h.1 a with e|e
  ·obtain⟨p,hp,g⟩:=A1b.1 (this.2 ⟨e,b⟩);exact A1b.2 ⟨p,Vy.2 (.inl hp),g⟩
  rw[A12]at e;exact A1b.2 ⟨(k,f k),Vy.2 (.inr rfl),e.symm⟩⟩
def R3.can {c:κ->κ->Int}{f:κ->Rat}{L:List κ}{S:List (κ×Rat)}(h:R3 c f L S)(g:∀ k,k∉L->f k=0):Can c f S:=⟨h.srt,h.val,fun k j=>by
 rcases Bas (k∈L) with e|e
 ·exact A3m fun n=>j ((h.mem k).2 ⟨e,n⟩)
 exact g k e⟩
def Ato (h:Bk p.1 q.1<0):Oc p q<0:=by unfold Oc;rw[if_pos oV];exact h
def Avb (h:¬ Bk p.1 q.1<0)(g:p.1≠q.1):¬ Oc p q<0:=by
 have j:Bk p.1 q.1≠0:=fun e=>g (Et.eq _ _ e);unfold Oc;rw[if_pos j];exact h
def Aux (h:p.1=q.1):Oc p q=Bk p.2 q.2:=by unfold Oc;rw[h,Et.refl,if_neg mV]
def P4 {u:PH}(x y:(Par×Par)×Rat)(r:Bool)(h:decide (Oc x.1 y.1<0)=r):Fn0 prog 114 [D8 x,D8 y] u fun v _=>v=.bool r:=by
 obtain⟨⟨⟨a1,a2⟩,j,n⟩,q⟩:=x;obtain⟨⟨⟨c1,c2⟩,t,z⟩,H⟩:=y;refine Fn0.o func114 ?_;by_cases e:Bk (a1,a2) (c1,c2)<0
 ·rw[decide_eq_true (Ato e)]at h;subst h;refine G.c call113 (Fp (a1,a2) (c1,c2) true (decide_eq_true e)) ?_;rintro F E C rfl;exact G.r (.bool true) ⟨rfl,rfl⟩
 refine G.c call113 (Fp (a1,a2) (c1,c2) false (decide_eq_false e)) ?_;rintro F E C rfl;by_cases g:((a1,a2):Par)=(c1,c2)
 ·refine G.eqAgg 118 #[.int .i64 a1,.string (mkS a2)] #[.int .i64 c1,.string (mkS c2)] true kV kV kV (fun w=>by rw[<-decide_eq_true g];exact Bq.eq (a1,a2) (c1,c2) w) ?_;rw[Aux g]at h;refine G.c call113 (Fp (j,n) (t,z) r h) ?_;rintro J I l2 rfl;cases r with
  |true=>exact G.r (.bool true) ⟨rfl,rfl⟩
  |false=>exact G.r (.bool false) ⟨rfl,rfl⟩
 rw[decide_eq_false (Avb e g)]at h;subst h;exact G.eqAgg 118 #[.int .i64 a1,.string (mkS a2)] #[.int .i64 c1,.string (mkS c2)] false kV kV kV (fun w=>by rw[<-decide_eq_false g];exact Bq.eq (a1,a2) (c1,c2) w)<|G.r (.bool false) ⟨rfl,rfl⟩
section
variable {P:Program} [A6 P] {fn:Func} {Post:Ce} {st:List KI×S} {u m:PH}
def G.sliceFromG (a:Option Addr)(n c k sz:Nat)(h:Aj P (adv P st)=.slice (some sz) (.slice a n c) (some (.int .i64 k)) none none)(U:k<=n)(V:n<=c)
 (g:G P fn Post (nx (adv P st) (.slice (if c=k then a else a.map (·.add (k*sz))) (n-k) (c-k))) u m):G P fn Post st u m:=by
 refine G.ask h mV (fun Q o z w hp=>?_) g;obtain⟨t,X,L,H,M,E,J,K,N,O,j⟩:=Jx z;obtain⟨I,T,F,pos,after,C⟩:=o;simp only at E;subst E;unfold Ot at j;split at j
 ·rename_i e hu;have R:(0:Int)<=k/\(k:Int)<=n:=oV;simp only[execOp,J,K,N,O];simp only[Instr.sliceAt,Sem.run_bind,run_underlying hu,Result.andThen_ok,Instr.slice,Instr.sliceBounds,Instr.sliceBound,asIntOf,Sem.run_pure,if_true,Option.isSome,Sem.run_ite,Bf j,R,and_self,A23]
 cases j
end
end
section
def ElP.fld {u:PH}{b off j:Nat}{xs:Array Value}{x:Value}(h:ElP u b off (.agg xs))(n:xs[j]?=some x)(g:x.cells = #[x]):ElP u b (off+j) x:=h.sub fun i y e=>by
 rw[g]at e
 match i,e with
 |0,e=>simp at e;subst e;exact n
 |i+1,e=>simp at e
def Ajn (P:Program):List KI×S->List Value->List KI×S
 |st,[]=>st
 |st,v::l=>Ajn P (nx (adv P st) v) l
section
variable {P:Program} [A6 P] {fn:Func} {Post:Ce} {st:List KI×S} {u m:PH}
def G.joinF {ι:Type}(f:List KI×S->List KI×S)(T:ι->List (Nat×SV))(B:ι->List (Nat×Blk))(j:ι->PH->PH->Prop)(J:∀ i,Up (T i) (B i)=true)(K:F2 (Ff P 200 (f st)).1=true)
 (z:∀ i g h,PH.le u g->j i g h->G P fn Post ((Ff P 200 (f st)).1,S.of (Ff P 200 (f st)).2.n (T i) (B i)) g h)
 (k:(∀ i e g h,(Ff P 200 e).1=(Ff P 200 (f st)).1->Cov (Ff P 200 (f st)).2.n (Ff P 200 e).2 (T i) (B i)->PH.le u g->j i g h->G P fn Post e g h)->G P fn Post st u m):G P fn Post st u m:=by
 refine k fun i e g h E C F H=>?_;have I:Cov (Ff P 200 e).2.n (Ff P 200 e).2 (T i) (B i):=⟨rfl,C.t,C.b⟩;refine G.canon (T i) (B i) (by rw[E];exact K) (J i) I ?_;rw[E,C.n];exact z i g h F H
end
def Aeo {L:List (List UInt8)}(h:L.Nodup){i k:Nat}{x y:List UInt8}(t:L[i]?=some x)(z:L[k]?=some y)(g:k≠i):y≠x:=fun e=>by
 subst e;obtain⟨a1,a2⟩:=A05.1 t;obtain⟨j,n⟩:=A05.1 z;rcases Nat.lt_or_gt_of_ne g with e|e
 ·exact absurd (n.trans a2.symm) (A3n.1 h k i j a1 e)
 exact absurd (a2.trans n.symm) (A3n.1 h i k a1 j e)
def Rr {u:PH}{s:List UInt8}(h:Hn s=true):Fn0 prog 107 [.string (mkS s)] u fun v _=>v=.bool true:=by
 obtain⟨C,E⟩:=Aa2 h;obtain⟨c0,g⟩:∃ c,s[0]?=some c:=⟨_,A01 oV⟩;have F:=Y3 h g;refine Fn0.o func107<|G.eF s.length 0<|G.gF s.length 12<|G.idxS s 0 c0 kV g<|G.cmpG .lss .u8 (c0.toNat:Int) 97 false kV rfl (by simp only[Db,decide_eq_false_iff_not];omega)<|G.idxS s 0 c0 kV g<|G.cmpG .gtr .u8 (c0.toNat:Int) 122 false kV rfl (by simp only[Db,decide_eq_false_iff_not];omega)<|G.l (ι:=Nat) (fun i=>[(0,tV s),(3,iV i)]) (fun _=>[])
  (fun i L H=>i<=s.length/\H=PH.mt) (fun i=>s.length-i) 0 ⟨oV,rfl⟩ ?_
 rintro J i j N K l2 ⟨hi,rfl⟩;by_cases n:i<s.length
 ·refine G.lT i s.length ?_;obtain⟨b,e⟩:∃ b,s[i]?=some b:=⟨_,A01 n⟩;have I:=Y3 h e;refine G.idxS s i b kV e ?_;by_cases z:97<=b.toNat
  ·exact G.cmpG .geq .u8 (b.toNat:Int) 97 true kV rfl (by simp only[Db,decide_eq_true_eq];omega)<|G.idxS s i b kV e<|G.cmpG .leq .u8 (b.toNat:Int) 122 true kV rfl (by simp only[Db,decide_eq_true_eq];omega)<|G.i i<|G.b (j (i+1) _ _ _ cV l2 ⟨oV,rfl⟩ oV)
  refine G.cmpG .geq .u8 (b.toNat:Int) 97 false kV rfl (by simp only[Db,decide_eq_false_iff_not];omega)<|G.idxS s i b kV e ?_;by_cases t:48<=b.toNat
  ·exact G.cmpG .geq .u8 (b.toNat:Int) 48 true kV rfl (by simp only[Db,decide_eq_true_eq];omega)<|G.idxS s i b kV e<|G.cmpG .leq .u8 (b.toNat:Int) 57 true kV rfl (by simp only[Db,decide_eq_true_eq];omega)<|G.i i<|G.b (j (i+1) _ _ _ cV l2 ⟨oV,rfl⟩ oV)
  exact G.cmpG .geq .u8 (b.toNat:Int) 48 false kV rfl (by simp only[Db,decide_eq_false_iff_not];omega)<|G.idxS s i b kV e<|G.cmpG .eql .u8 (b.toNat:Int) 45 true kV rfl (by simp only[Db,decide_eq_true_eq];omega)<|G.i i<|G.b (j (i+1) _ _ _ cV l2 ⟨oV,rfl⟩ oV)
 obtain rfl:i=s.length:=oV;exact G.lF s.length s.length<|G.r (.bool true) ⟨rfl,rfl⟩
def T2 {u:PH}{v:Value}{T:List (List UInt8×Nat)}{R:List Br}{F:List Al}{lab:Int}(h:H5 u v T R F lab)(ok:Bl u T R F lab) :
 Fn0 prog 45 [v] u fun r _=>r=.int .i64 0:=by
 obtain⟨xa,xc,xb,U,xe,Y,rfl,hT,hR,hF⟩:=h;have t1:=ok.t1;have t2:=ok.t2;have r1:=ok.r1;have r2:=ok.r2;have f2:=ok.f2;have lo:=ok.l1;have hi:lab<T.length:=by
  rcases A5q lab 0 with ap|bf
  ·omega
  obtain⟨n,hn⟩:=ok.l2 lab.toNat oV;obtain⟨hk,_⟩:=A05.1 hn;omega
 refine Fn0.o func45<|G.eF T.length 0<|G.gF T.length 12<|G.eF R.length 0<|G.gF R.length 6<|G.gF F.length 8<|G.l (ι:=Nat) (fun i=>[(1,.p 0 0),(49,sV xa T.length xc),(50,iV T.length),(51,iV i)])
  (fun _=>[(0,⟨30,[sV xa T.length xc,sV xb R.length U,sV xe F.length Y,iV lab]⟩)])
  (fun i u' N=>i<=T.length/\N=PH.mt) (fun i=>T.length-i) 0 ⟨oV,rfl⟩ ?_
 rintro J i hJ u1 m1 l1 ⟨bn,rfl⟩;by_cases ap:i<T.length
 ·refine G.lT i T.length ?_;obtain⟨x,am⟩:∃ x,T[i]?=some x:=⟨_,A01 ap⟩;have b5:=A1k am;obtain⟨bh,bi⟩:=ok.att.kind x b5;have z:=ok.att.names.word x.1 (A1b.2 ⟨x,b5,rfl⟩);have Q:(T.map (·.1))[i]?=some x.1:=by rw[A1a,am];rfl
  obtain⟨I,O,rfl,ea⟩:=Ac.at' (hT.mono l1) (j:=i) (e:=D9 x) (by simp[am]);obtain⟨xn,xk⟩:=x;simp only at bh bi z Q;refine G.a I O T.length xc i 2 ap<|G.lU (some 2) I (O+i*2) (.agg #[.string (mkS xn),.int .i64 xk]) ea<|G.c call107 (Rr z) ?_;rintro v2 u2 l2 rfl;refine G.l (ι:=Nat) (fun k=>[(1,.p 0 0),(3,iV i),(4,.p 5003 0),(5,iV k),(49,sV (some ⟨I,O,none⟩) T.length xc),(50,iV T.length),(51,iV i)])
   (fun _=>[(0,⟨30,[sV (some ⟨I,O,none⟩) T.length xc,sV xb R.length U,sV xe F.length Y,iV lab]⟩),(5003,⟨96,[tV xn,iV xk]⟩)])
   (fun k u' N=>k<=i/\N=PH.mt) (fun k=>i-k) 0 ⟨oV,rfl⟩ ?_
  rintro J2 k C u3 m3 l3 ⟨hk,rfl⟩;by_cases an:k<i
  ·refine G.lT k i ?_;obtain⟨y,a0⟩:∃ y,T[k]?=some y:=⟨_,A01 oV⟩;have a4:(T.map (·.1))[k]?=some y.1:=by rw[A1a,a0];rfl
   have a9:=Aeo ok.att.names.nodup Q a4 oV;obtain⟨_,_,e',ek⟩:=Ac.at' (hT.mono ((l1.trans l2).trans l3)) (j:=k) (e:=D9 y) (by simp[a0]);cases e';exact G.a I O T.length xc k 2 oV<|G.f 96 I (O+k*2) 0 0<|G.lU none I (O+k*2+0) (.string (mkS y.1)) (ek.fld rfl rfl)<|G.w y.1 xn a9<|G.i k<|G.b (C (k+1) _ _ _ cV l3 ⟨oV,rfl⟩ oV)
  obtain rfl:k=i:=oV;exact G.lF k k<|G.lF xk 1<|G.gF xk 3<|G.i k<|G.b (hJ (k+1) _ _ _ cV ((l1.trans l2).trans l3) ⟨oV,rfl⟩ oV)
 obtain rfl:i=T.length:=oV;refine G.lF T.length T.length ?_;clear hJ;refine G.make 4 1 1 (.bool false) T.length kV rfl rfl oV oV oV ?_;rintro v1 mA ar ⟨ad,rfl⟩;obtain⟨g,rfl,_⟩:=ar.some';refine G.l (ι:=Nat×List Bool) (fun i=>[(1,.p 0 0),(6,sV (some ⟨g,0,none⟩) T.length T.length),(88,sV xb R.length U),(89,iV R.length),(90,iV i.1)])
  (fun _=>[(0,⟨30,[sV xa T.length xc,sV xb R.length U,sV xe F.length Y,iV lab]⟩)])
  (fun i u' N=>i.1<=R.length/\i.2.length=T.length/\(∀ r∈R.take i.1,∀ q∈r.2.1,i.2[q]?=some true)/\Af PH.mt N (.slice (some ⟨g,0,none⟩) T.length T.length) 4 1 (i.2.map Value.bool)) (fun i=>R.length-i.1) (0,List.replicate T.length false)
  ⟨mV,mV,mV,by rw[A8z];exact ar⟩ ?_
 rintro J ⟨i,L⟩ hJ u2 m2 l2 ⟨bg,hL,Z,ai⟩;simp only at bg hL Z ai hJ;have aa:=l1.trans l2;by_cases ae:i<R.length
 ·refine G.lT i R.length ?_;obtain⟨q,a7⟩:∃ q,R[i]?=some q:=⟨_,A01 ae⟩;have H:=A1k a7;have b3:R.take (i+1)=R.take i++[q]:=by rw[A1n,a7];rfl
  have z:=ok.rel.names.word q.1 (A1b.2 ⟨q,H,rfl⟩);have Q:(R.map (·.1))[i]?=some q.1:=by rw[A1a,a7];rfl
  obtain⟨I,O,rfl,ea⟩:=Ac.at' (hR.mono aa) (j:=i) (e:=Hs q) (by simp[a7]);obtain⟨qs,t,qa,qc⟩:=q;have a9:t≠[]:=ok.rel.ne _ H;have bj:∀ p∈t,p<T.length:=ok.rel.lt _ H;have bu:t.length<=1000:=ok.rel.len _ H;have aw:∀ (k:Nat) x y,t[k]?=some x->t[k+1]?=some y->x<y:=ok.rel.asc _ H;have b2:Ac u2 (.slice qa t.length qc) 1 (Ai t):=(ok.rel.at' _ H).mono aa;have bt:0<t.length:=A4f.2 a9;simp only at z Q;refine G.a I O R.length U i 2 ae<|G.lU (some 2) I (O+i*2) (.agg #[.string (mkS qs),.slice qa t.length qc]) ea<|G.c call107 (Rr z) ?_;rintro v3 u3 l3 rfl;refine G.l (ι:=Nat) (fun k=>[(1,.p 0 0),(6,sV (some ⟨g,0,none⟩) T.length T.length),(7,iV i),(8,.p 19003 0),(9,iV k),(88,sV (some ⟨I,O,none⟩) R.length U),(89,iV R.length),(90,iV i)])
   (fun _=>[(0,⟨30,[sV xa T.length xc,sV (some ⟨I,O,none⟩) R.length U,sV xe F.length Y,iV lab]⟩),(19003,⟨98,[tV qs,sV qa t.length qc]⟩)])
   (fun k u' N=>k<=i/\N=m2) (fun k=>i-k) 0 ⟨oV,rfl⟩ ?_
  rintro J2 k C u4 m4 l4 ⟨hk,rfl⟩;by_cases an:k<i
  ·refine G.lT k i ?_;obtain⟨y,a0⟩:∃ y,R[k]?=some y:=⟨_,A01 oV⟩;have a4:(R.map (·.1))[k]?=some y.1:=by rw[A1a,a0];rfl
   have az:=Aeo ok.rel.names.nodup Q a4 oV;obtain⟨_,_,e',ek⟩:=Ac.at' (hR.mono ((aa.trans l3).trans l4)) (j:=k) (e:=Hs y) (by simp[a0]);cases e';exact G.a I O R.length U k 2 oV<|G.f 98 I (O+k*2) 0 0<|G.lU none I (O+k*2+0) (.string (mkS y.1)) (ek.fld rfl rfl)<|G.w y.1 qs az<|G.i k<|G.b (C (k+1) _ _ _ cV l4 ⟨oV,rfl⟩ oV)
  obtain rfl:k=i:=oV;refine G.lF k k ?_;clear C;refine G.eF t.length 0<|G.l (ι:=Nat×List Bool) (fun j=>[(1,.p 0 0),(6,sV (some ⟨g,0,none⟩) T.length T.length),(8,.p 19003 0),(88,sV (some ⟨I,O,none⟩) R.length U),(89,iV R.length),(90,iV k),(118,sV qa t.length qc),(119,iV t.length),(120,iV j.1)])
   (fun _=>[(0,⟨30,[sV xa T.length xc,sV (some ⟨I,O,none⟩) R.length U,sV xe F.length Y,iV lab]⟩),(19003,⟨98,[tV qs,sV qa t.length qc]⟩)])
   (fun j u' N=>j.1<=t.length/\j.2.length=T.length/\(∀ r∈R.take k,∀ q∈r.2.1,j.2[q]?=some true)/\(∀ q∈t.take j.1,j.2[q]?=some true)/\Af PH.mt N (.slice (some ⟨g,0,none⟩) T.length T.length) 4 1 (j.2.map Value.bool)) (fun j=>t.length-j.1) (0,L)
   ⟨mV,hL,Z,mV,ai⟩ ?_
  rintro J2 ⟨j,L2⟩ C u6 m6 l6 ⟨hj,al,V,K,aj⟩;simp only at hj al V K aj C;have b6:=(l3.trans l4).trans l6;have a5:=b2.mono b6;by_cases ag:j<t.length
  ·refine G.lT j t.length ?_;obtain⟨p,aq⟩:∃ p,t[j]?=some p:=⟨_,A01 ag⟩;have bk:p<T.length:=bj _ (A1k aq);have b4:t.take (j+1)=t.take j++[p]:=by rw[A1n,aq];rfl
   obtain⟨bq,oq,rfl,eq⟩:=Ac.at' a5 (j:=j) (e:=.int .i64 p) (by simp[Ai,aq]);refine G.a bq oq t.length qc j 1 ag<|G.lU none bq (oq+j*1) (.int .i64 p) eq<|G.lF p 0<|G.hF p T.length<|G.a g 0 T.length T.length p 1 bk<|G.storeA 1 PH.mt (L2.map Value.bool) g T.length T.length p (.bool true) kV aj (by rw[A03];omega) rfl rfl ?_;intro m7 au;rw[Sd]at au;refine G.i j ?_;have a1:∀ q,L2[q]?=some true->(L2.set p true)[q]?=some true:=fun q X=>by
    rw[A1z];split
    ·subst_vars;rw[if_pos oV]
    exact X
   exact G.b (C (j+1,L2.set p true) _ _ _ cV l6 ⟨dV,by simp[al],fun r hr q X=>a1 q (V r hr q X),by
    intro q X;dsimp only at X⊢;rw[b4,A1h,A12]at X;rcases X with X|rfl
    ·exact a1 q (K q X)
    rw[A1z];simp;omega,au⟩ dV)
  obtain rfl:j=t.length:=oV;refine G.lF t.length t.length ?_;clear C;rw[A15]at K;refine G.l (ι:=Nat) (fun j=>[(1,.p 0 0),(6,sV (some ⟨g,0,none⟩) T.length T.length),(8,.p 19003 0),(12,iV (j+1:Nat)),(88,sV (some ⟨I,O,none⟩) R.length U),(89,iV R.length),(90,iV k)])
   (fun _=>[(0,⟨30,[sV xa T.length xc,sV (some ⟨I,O,none⟩) R.length U,sV xe F.length Y,iV lab]⟩),(19003,⟨98,[tV qs,sV qa t.length qc]⟩)])
   (fun j u' N=>j+1<=t.length/\N=m6) (fun j=>t.length-j) 0
   ⟨oV,rfl⟩ ?_
  rintro J3 j b9 u8 m8 l8 ⟨br,rfl⟩;have a6:=a5.mono l8;by_cases ah:j+1<t.length
  ·refine G.lT (j+1:Nat) t.length ?_;obtain⟨E,b0⟩:∃ p,t[j]?=some p:=⟨_,A01 oV⟩;obtain⟨p2,b1⟩:∃ p,t[j+1]?=some p:=⟨_,A01 ah⟩;have a3:=aw j _ _ b0 b1;obtain⟨bq,oq,rfl,b8⟩:=Ac.at' a6 (j:=j+1) (e:=.int .i64 p2) (by simp[Ai,b1]);obtain⟨_,_,e',b7⟩:=Ac.at' a6 (j:=j) (e:=.int .i64 E) (by simp[Ai,b0]);cases e';exact G.a bq oq t.length qc (j+1) 1 ah<|G.lU none bq (oq+(j+1)*1) (.int .i64 p2) b8<|G.s (j+1:Nat) 1 j<|G.a bq oq t.length qc j 1 oV<|G.lU none bq (oq+j*1) (.int .i64 E) b7<|G.kF p2 E<|G.p (j+1:Nat) 1 (j+1+1:Nat)<|G.b (b9 (j+1) _ _ _ cV l8 ⟨oV,rfl⟩ oV)
  refine G.lF (j+1:Nat) t.length<|G.i k ?_;exact G.b (hJ (k+1,L2) _ _ _ cV ((l2.trans b6).trans l8) ⟨dV,al,by
   intro r hr q X;dsimp only at hr X⊢;rw[b3,A1h,A12]at hr;rcases hr with hr|rfl
   ·exact V r hr q X
   exact K q X,aj⟩ dV)
 obtain rfl:i=R.length:=oV;refine G.lF R.length R.length ?_;clear hJ;rw[A15]at Z;refine G.l (ι:=Nat) (fun i=>[(1,.p 0 0),(6,sV (some ⟨g,0,none⟩) T.length T.length),(156,sV (some ⟨g,0,none⟩) T.length T.length),(157,iV T.length),(158,iV i)])
  (fun _=>[(0,⟨30,[sV xa T.length xc,sV xb R.length U,sV xe F.length Y,iV lab]⟩)])
  (fun i u' N=>i<=T.length/\N=m2) (fun i=>T.length-i) 0 ⟨oV,rfl⟩ ?_
 rintro J i hJ u3 m3 l3 ⟨bo,rfl⟩;by_cases a3:i<T.length
 ·refine G.lT i T.length ?_;have bd:L[i]?=some true:=by
   obtain⟨r,hr,X⟩:=ok.rel.all i a3;exact Z r hr i X
  exact G.a g 0 T.length T.length i 1 a3<|G.lM none g (0+i*1) (.bool true) (ai.el (by rw[A1a,bd];rfl))<|G.i i<|G.b (hJ (i+1) _ _ _ cV l3 ⟨oV,rfl⟩ oV)
 obtain rfl:i=T.length:=oV;refine G.lF T.length T.length ?_;clear hJ;have bl:=aa.trans l3;refine G.l (ι:=Nat) (fun i=>[(1,.p 0 0),(6,sV (some ⟨g,0,none⟩) T.length T.length),(166,sV xe F.length Y),(167,iV F.length),(168,iV i)])
  (fun _=>[(0,⟨30,[sV xa T.length xc,sV xb R.length U,sV xe F.length Y,iV lab]⟩)])
  (fun i u' N=>i<=F.length/\N=m3) (fun i=>F.length-i) 0 ⟨oV,rfl⟩ ?_
 rintro J i hJ u4 m4 l4 ⟨bp,rfl⟩;have ac:=bl.trans l4;by_cases af:i<F.length
 ·refine G.lT i F.length ?_;obtain⟨f,ak⟩:∃ f,F[i]?=some f:=⟨_,A01 af⟩;have be:=A1k ak;obtain⟨fn,fk,ax,a2,ay⟩:=ok.feat.ok f be;obtain⟨a8,_⟩:=A05.1 ax;have Q:(F.map (·.1))[i]?=some f.1:=by rw[A1a,ak];rfl
  obtain⟨fb,fo,rfl,ef⟩:=Ac.at' (hF.mono ac) (j:=i) (e:=Cm f) (by simp[ak]);obtain⟨ab,ao,rfl,ea⟩:=Ac.at' (hT.mono ac) (j:=f.1) (e:=D9 (fn,fk)) (by simp[ax]);obtain⟨E,p2,p3⟩:=f;simp only at a2 ay a8 Q ea;refine G.a fb fo F.length Y i 3 af<|G.lU (some 3) fb (fo+i*3) (.agg #[.int .i64 E,.int .i64 p2,.int .i64 p3]) ef<|G.lF E 0<|G.hF E T.length<|G.joinF (ι:=Unit) (fun st=>Ip prog (Ajn prog st [.bool false,.bool true,.bool true,undef,undef,undef,.bool true])) (fun _=>[(1,.p 0 0),(6,sV (some ⟨g,0,none⟩) T.length T.length),(15,iV i),(16,.p 50003 0),(166,sV (some ⟨fb,fo,none⟩) F.length Y),(167,iV F.length),(168,iV i)])
   (fun _=>[(0,⟨30,[sV (some ⟨ab,ao,none⟩) T.length xc,sV xb R.length U,sV (some ⟨fb,fo,none⟩) F.length Y,iV lab]⟩),(50003,⟨100,[iV E,iV p2,iV p3]⟩)])
   (fun _ u' N=>u'=u4/\N=m4) (fun _=>kV) kV ?tail ?way
  case way =>
   intro W;rcases a2 with ⟨rfl,rfl,bs⟩|⟨rfl,rfl,rfl⟩
   ·refine G.eT (1:Nat) 1 ?_;rcases (by omega:p3=0\/p3=1) with rfl|rfl
    ·refine G.eT (0:Nat) 0<|G.a ab ao T.length xc E 2 a8<|G.f 96 ab (ao+E*2) 1 1<|G.lU none ab (ao+E*2+1) (.int .i64 (2:Nat)) (L9 ea)<|G.eT (2:Nat) 2<|G.eF (1:Nat) 2<|G.pastI ?_;exact W () _ _ _ kV cV (PH.le_refl _) ⟨rfl,rfl⟩
    refine G.eF (1:Nat) 0<|G.eT (1:Nat) 1<|G.a ab ao T.length xc E 2 a8<|G.f 96 ab (ao+E*2) 1 1<|G.lU none ab (ao+E*2+1) (.int .i64 (2:Nat)) (L9 ea)<|G.eT (2:Nat) 2<|G.eF (1:Nat) 2<|G.pastI ?_;exact W () _ _ _ kV cV (PH.le_refl _) ⟨rfl,rfl⟩
   refine G.eF (2:Nat) 1<|G.eT (2:Nat) 2<|G.eT (0:Nat) 0<|G.a ab ao T.length xc E 2 a8<|G.f 96 ab (ao+E*2) 1 1<|G.lU none ab (ao+E*2+1) (.int .i64 (3:Nat)) (L9 ea)<|G.eT (3:Nat) 3<|G.pastI ?_;exact W () _ _ _ kV cV (PH.le_refl _) ⟨rfl,rfl⟩
  rintro _ u5 m5 _ ⟨rfl,rfl⟩;refine G.l (ι:=Nat) (fun k=>[(1,.p 0 0),(6,sV (some ⟨g,0,none⟩) T.length T.length),(15,iV i),(16,.p 50003 0),(19,iV k),(166,sV (some ⟨fb,fo,none⟩) F.length Y),(167,iV F.length),(168,iV i)])
   (fun _=>[(0,⟨30,[sV (some ⟨ab,ao,none⟩) T.length xc,sV xb R.length U,sV (some ⟨fb,fo,none⟩) F.length Y,iV lab]⟩),(50003,⟨100,[iV E,iV p2,iV p3]⟩)])
   (fun k u' N=>k<=i/\N=m5) (fun k=>i-k) 0 ⟨oV,rfl⟩ ?_
  rintro J2 k C u6 m6 l6 ⟨hk,rfl⟩;by_cases an:k<i
  ·refine G.lT k i ?_;obtain⟨y,av⟩:∃ y,F[k]?=some y:=⟨_,A01 oV⟩;have a4:(F.map (·.1))[k]?=some y.1:=by rw[A1a,av];rfl
   have a9:y.1≠E:=fun e=>Nat.ne_of_lt an (Yu ok.feat.nodup a4 (by rw[Q,e]));obtain⟨_,_,e',ek⟩:=Ac.at' (hF.mono (ac.trans l6)) (j:=k) (e:=Cm y) (by simp[av]);cases e';exact G.a fb fo F.length Y k 3 oV<|G.f 100 fb (fo+k*3) 0 0<|G.lU none fb (fo+k*3+0) (.int .i64 y.1) (ek.fld rfl rfl)<|G.eF y.1 E<|G.i k<|G.b (C (k+1) _ _ _ cV l6 ⟨oV,rfl⟩ oV)
  obtain rfl:k=i:=oV;exact G.lF k k<|G.eF' E lab ay<|G.i k<|G.b (hJ (k+1) _ _ _ cV (l4.trans l6) ⟨oV,rfl⟩ oV)
 obtain rfl:i=F.length:=oV;refine G.lF F.length F.length<|G.drop PH.mt kV (PH.mt_le _)<|G.lF lab (-1)<|G.hF lab T.length ?_;rcases A5q lab 0 with bm|bf
 ·exact G.hF lab 0<|G.r (.int .i64 0) ⟨rfl,rfl⟩
 refine G.hT lab 0 ?_;obtain⟨l,rfl⟩:∃ l:Nat,lab=(l:Int):=⟨lab.toNat,oV⟩;obtain⟨n,hn⟩:=ok.l2 l rfl;obtain⟨bb,ob,rfl,eb⟩:=Ac.at' (hT.mono ac) (j:=l) (e:=D9 (n,2)) (by simp[hn]);exact G.a bb ob T.length xc l 2 oV<|G.f 96 bb (ob+l*2) 1 1<|G.lU none bb (ob+l*2+1) (.int .i64 (2:Nat)) (L9 eb)<|G.nF (2:Nat) 2<|G.r (.int .i64 0) ⟨rfl,rfl⟩
end
section
variable {u:PH}
def Aup {l:List Nat}{i:Nat}(h:i<l.length):l.drop i=l.getD i 0::l.drop (i+1):=by
 rw[A5z h];simp[A02,A01 h]
def Afi (l:List Nat):∀ k,val (l.drop k)<=val l:=by
 induction l with
 |nil=>intro k;simp
 |cons a l ih =>
  intro k;cases k with
  |zero=>simp
  |succ k =>
   have:=ih k;simp only[List.drop_succ_cons,val];omega
def Pi {z:Int}(hz:z.natAbs<1000000000000000000):Fn0 prog 183 [.string (mkS (Lib.itoa z))] u fun v _=>v=.tuple #[.int .i64 z,.bool true]:=by
 have E:=Jk hz;refine Fn0.o func183<|G.c call144 (Tl E) ?_;rintro v1 u1 l1 rfl;refine G.c call77 (Oh E) ?_;intro v2 u2 l2 k2;obtain⟨b,a,n,c,rfl,N,hi⟩:=k2.opn;obtain⟨rfl,hc⟩:=hi.len;refine G.c call67 (Ac6 (n:=4611686018427387904) oV oV) ?_;intro v3 u3 R k3;obtain⟨b',a',n',c',rfl,W,t⟩:=k3.opn;obtain⟨rfl,X⟩:=t.len;have F:nl z.natAbs<=400:=Bd E;have Q:nl (4611686018427387904:Int).natAbs<=400:=Bd jV;refine G.c call151 (Lx (hi.mono R) t oV oV) ?_;rintro v4 u4 l4 rfl;have hs:sgn (((z.natAbs:Nat):Int)-(((4611686018427387904:Int).natAbs:Nat):Int))<=0:=by
  unfold sgn;have:((4611686018427387904:Int).natAbs:Int)=4611686018427387904:=fV;split
  ·omega
  split<;>omega
 refine G.gF (sgn (((z.natAbs:Nat):Int)-(((4611686018427387904:Int).natAbs:Nat):Int))) 0 ?_;have P:(Aa z.natAbs).length<=400:=F;refine G.s ((Aa z.natAbs).length:Int) 1 ((Aa z.natAbs).length-1:Int)<|G.l (ι:=Int×Nat) (fun i=>[(4,.p 3002 0),(6,iV i.2),(7,iV i.1)]) (fun _=>[(3002,⟨67,[bV b,sV a (Aa z.natAbs).length c]⟩)])
  (fun i u' m'=>-1<=i.1/\i.1<(Aa z.natAbs).length/\i.2=val ((Aa z.natAbs).drop (i.1+1).toNat)/\m'=PH.mt) (fun i=>(i.1+1).toNat) (((Aa z.natAbs).length-1:Int),0) ⟨dV,dV,by
   dsimp only;rw[show (((Aa z.natAbs).length:Int)-1+1).toNat=(Aa z.natAbs).length by omega,List.drop_length];rfl,rfl⟩ ?_
 rintro J ⟨i,s⟩ L u5 m5 T ⟨U,V,g,rfl⟩;simp only at U V g L;have C:=Am z.natAbs;by_cases Y:0<=i
 ·obtain⟨k,rfl⟩:∃ k:Nat,i=(k:Int):=⟨i.toNat,oV⟩;have m:k<(Aa z.natAbs).length:=oV;rw[show ((k:Int)+1).toNat=k+1 by omega]at g;have j:=Aup m;have h:=Afi (Aa z.natAbs) k;rw[C,j]at h;simp only[val]at h;rw[<-g]at h;refine G.hT k 0<|G.mul (s:Int) 1000000000 ((s*1000000000:Nat):Int) kV oV oV oV ?_;obtain⟨K,off,rfl,e⟩:=(hi.mono ((R.trans l4).trans T)).at m;refine G.a K off (Aa z.natAbs).length c k 1 m<|G.lU none K (off+k*1) (.int .i64 ((Aa z.natAbs).getD k 0:Nat)) e ?_;generalize hg:(Aa z.natAbs).getD k 0=d at j h;refine G.p (s*1000000000:Nat) d (s*1000000000+d:Nat)<|G.s k 1 ((k:Int)-1) ?_;exact G.b (L ((k:Int)-1,s*1000000000+d) _ _ _ cV T ⟨dV,dV,by
   dsimp only;rw[show ((k:Int)-1+1).toNat=k by omega,j];simp only[val];rw[<-g];omega,rfl⟩ dV)
 obtain rfl:i = -1:=oV;refine G.hF (-1) 0 ?_;have H:s=z.natAbs:=by rw[g,show ((-1:Int)+1).toNat=0 by decide,A5a,C]
 subst H;cases b with
 |true =>
  have O:z<0:=by simpa using N.symm
  exact G.neg ((z.natAbs:Nat):Int) z kV oV oV oV<|G.r (.tuple #[.int .i64 z,.bool true]) ⟨rfl,rfl⟩
 |false =>
  have Z:¬ z<0:=by simpa using N.symm
  have I:((z.natAbs:Nat):Int)=z:=oV;refine G.r (.tuple #[.int .i64 (z.natAbs:Nat),.bool true]) ⟨rfl,by rw[I]⟩
def Axb (z:Int):Ae (z:Rat)=Lib.itoa z:=by
 unfold Ae;simp
def Anq {x:List UInt8×Nat}{t:List UInt8}(E:1<=x.2)(F:x.2<=3)(j:Rj x.2 t):Fn0 prog 108 [D9 x,.string (mkS t)] u fun v _=>v=.bool true:=by
 obtain⟨s,k⟩:=x;simp only at E F j;refine Fn0.o func108<|G.lF k 1<|G.gF k 3 ?_;by_cases h:t = []
 ·exact G.q t [] h<|G.r (.bool true) ⟨rfl,rfl⟩
 refine G.w t [] h ?_;rcases j with e|⟨rfl,J⟩|⟨rfl,z,R,rfl⟩|⟨rfl,q,I,rfl⟩
 ·exact absurd e h
 ·refine G.eT (3:Nat) 3<|G.c call107 (Rr J) ?_;rintro C n m rfl;exact G.r (.bool true) ⟨rfl,rfl⟩
 ·refine G.eF (1:Nat) 3 ?_;have hp:=Ua (u:=u) (q:=(z:Rat)) ⟨Jk (by simpa using (by omega:z.natAbs<1000000000000000000)),by simp;decide +kernel⟩;rw[Axb]at hp;simp only[Rat.num_intCast,Rat.den_intCast]at hp;refine G.c call72 hp ?_;rintro C n m rfl;refine G.eT (1:Nat) 1<|G.y (Lib.itoa ((1:Nat):Int)) [49] jV<|G.c call183 (Pi (z:=z) oV) ?_;rintro O L l2 rfl;refine G.c call183 (Pi (z:=((1:Nat):Int)) oV) ?_;rintro P N K rfl;exact G.hT z (-1000000000)<|G.kT z 1000000000<|G.kT (1:Nat) 12<|G.r (.bool true) ⟨rfl,rfl⟩
 have g:=I.dat;have Q:=g.num;have H:=g.den;refine G.eF (2:Nat) 3<|G.c call72 (Ua g.tx) ?_;rintro C n m rfl;refine G.eF (2:Nat) 1<|G.c call183 (Pi (z:=q.num) oV) ?_;rintro O L l2 rfl;refine G.c call183 (Pi (z:=(q.den:Int)) oV) ?_;rintro P N K rfl;exact G.hT q.num (-1000000000)<|G.kT q.num 1000000000<|G.kT q.den 12<|G.r (.bool true) ⟨rfl,rfl⟩
def Anz {v O:Value}{T:List (List UInt8×Nat)}{R:List Br}{F:List Al}{lab:Int}{ss:List (List UInt8)}(h:Mv u v O T R F lab ss) :
 Fn0 prog 47 [v,O] u fun r _=>r=.int .i64 0:=by
 have C:=fun (P:PH) (l:PH.le u P)=>T2 (h.sch.mono l) (h.ok.mono l);obtain⟨⟨xa,xc,xb,xd,xe,xf,rfl,z,W,U⟩,ok,t,hT⟩:=h;obtain⟨ya,Q,rfl⟩:=t.opn;rw[A03]at t⊢;have L:=hT.len;have t2:=ok.t2;refine Fn0.o func47<|G.c call45 (C u (PH.le_refl _)) ?_;rintro v1 u1 X rfl;refine G.nF 0 0<|G.nF ss.length T.length<|G.l (ι:=Nat) (fun i=>[(2,.p 0 0),(19,sV ya ss.length Q),(20,iV ss.length),(21,iV i)])
  (fun _=>[(0,⟨30,[sV xa T.length xc,sV xb R.length xd,sV xe F.length xf,iV lab]⟩)])
  (fun i P Z=>i<=ss.length/\Z=PH.mt) (fun i=>ss.length-i) 0 ⟨oV,rfl⟩ ?_
 rintro J i V u2 m2 l2 ⟨hi,rfl⟩;have n:=X.trans l2;by_cases g:i<ss.length
 ·refine G.lT i ss.length ?_;obtain⟨b,off,rfl,e⟩:=M5 (t.mono n) g;refine G.a b off ss.length Q i 1 g<|G.lU none b (off+i*1) (.string (mkS (ss.getD i []))) e ?_;have m:T[i]?=some T[i]:=A01 oV;have E:=ok.att.kind T[i] (A09 oV);have H:=hT.val i _ _ m (A01 g);rw[show ss[i]=ss.getD i [] by simp[A02,A01 g]]at H;obtain⟨I,N,rfl,K⟩:=Ac.at' (z.mono n) (j:=i) (e:=D9 T[i]) (by simp[m]);generalize T[i]=x at m E H K;refine G.a I N T.length xc i 2 oV<|G.lU (some 2) I (N+i*2) (D9 x) K<|G.c call108 (Anq E.1 E.2 H) ?_;rintro v3 u3 Y rfl;exact G.i i<|G.b (V (i+1) _ _ _ cV (l2.trans Y) ⟨oV,rfl⟩ oV)
 obtain rfl:i=ss.length:=oV;exact G.lF ss.length ss.length<|G.r (.int .i64 0) ⟨rfl,rfl⟩
end
section
variable {F:CF}{N b sz:Nat}{es:List Value}{v:Value}
def Az4 (u m:PH)(v:Value)(F:CF)(N:Nat):Prop :=
 ∃ b a n c b' a' n' c' g1 g2 o1 o2,v=.agg #[.bool b,.slice a n c,.bool b',.slice a' n' c',.map (some g1),.map (some g2)]/\QP u (.agg #[.bool b,.slice a n c,.bool b',.slice a' n' c']) F.c/\(u g1=some o1\/m g1=some o1)/\(u g2=some o2\/m g2=some o2)/\D7 Ap KT u o1 F.s N/\D7 prV KO u o2 F.t N
def Kk.i {u m:PH}(h:Kk m u v F N):Az4 u m v F N:=by
 obtain⟨b,a,n,c,b',g,H,j,g1,g2,I,J,e,t,z,rfl,C,E⟩:=h;exact⟨b,a,n,c,b',g,H,j,g1,g2,I,J,e,t,.inr (by rw[Ad _ _ z,Ab]),.inr (Ab _ _ _),C,E⟩
section
variable {P:Program} [A6 P] {fn:Func} {Post:Ce} {st:List KI×S} {u m:PH}
def G.appendMV (e:TypeId)(sz g:Nat)(z:Value)(m0:PH)(es xs:List Value)(v:Value)(a:Option Addr)(n c:Nat)(h:Aj P (adv P st)=.app (some (e,sz,g,z)) true [v,.slice a n c])(R:z.cells.toList.all Ax=true)(H:z.cells.size=sz)(C:0<sz)
 (j:Af m0 m v e sz es) (I:n=xs.length) (Q:xs≠[]->∃ b off,a=some ⟨b,off,none⟩/\Hc m b off sz xs) (O:A9 sz xs) (L:(es.length+xs.length)*g<=140737488355328) (t:es.length+xs.length<=9223372036854775807)
 (k:∀ K J,Af m0 J K e sz (es++xs)->G P fn Post (nx (adv P st) K) u J):G P fn Post st u m:=by
 cases xs with
 |nil =>
  subst I;obtain⟨a1,c1,rfl⟩:=j.shape;refine G.append0 e sz g z a1 a es.length c1 c h j.cap ?_;exact k _ _ (by rw[A1x];exact j)
 |cons x xs =>
  obtain⟨b,off,rfl,E⟩:=Q mV;subst I;exact G.appendM e sz g z m0 es (x::xs) v b off _ c h R H C j E O rfl mV L t k
end
def Af.els {m0 m:PH}{t:TypeId}{b n c:Nat}(h:Af m0 m (.slice (some ⟨b,0,none⟩) n c) t sz es):Hc m b 0 sz es:=fun j e g=>h.el g
def Hc.drop {m:PH}(h:Hc m b 0 sz es)(k:Nat):Hc m b (0+k*sz) sz (es.drop k):=fun j e g=>by
 have:=h (k+j) e (by rw[A39]at g;exact g);rw[A16,A2w]at this;rw[A2w];exact this
theorem An2 (l:List (Par×Rat)):A9 3 (l.map Bt):=fun e he=>by
 obtain⟨p,_,rfl⟩:=A1b.1 he;exact Afk p _ mV
def Ao9 (l:List ((Par×Par)×Rat)):A9 5 (l.map D8):=fun e g=>by
 obtain⟨p,_,rfl⟩:=A1b.1 g;exact Aj6 p _ mV
def Rl {q:Rat}:q.num=0↔q=0:=A4r
def Aod {u m:PH}(h:Az4 u m v F N)(sF:CFS F)(hN:N<=1000000) :
 FnK prog 50 [v] u m fun r u'=>Azl u' r F N:=by
 obtain⟨b,a,n,c,b',a',n',c',g1,g2,o1,o2,rfl,hF,bf,bg,s1,s2⟩:=h;obtain⟨l1,⟨es1,C,rfl,ar,aj⟩,bi,al,bz⟩:=s1.at;obtain⟨l2,⟨a2,z,rfl,au,ak⟩,bj,am,ad⟩:=s2.at;have b8:(l1.map (·.1)).Nodup:=Hu.nodup (enc:=Ap) ⟨es1,C,rfl,ar,aj⟩;have b9:(l2.map (·.1)).Nodup:=Hu.nodup (enc:=prV) ⟨a2,z,rfl,au,ak⟩;have an:∀ {u' m':PH},PH.le u u'->PH.le m m'->u' g1=some (.map es1 C)\/m' g1=some (.map es1 C):=fun a b=>bf.elim (fun e=>.inl (a _ _ e)) (fun e=>.inr (b _ _ e));have ao:∀ {u' m':PH},PH.le u u'->PH.le m m'->u' g2=some (.map a2 z)\/m' g2=some (.map a2 z):=fun a b=>bg.elim (fun e=>.inl (a _ _ e)) (fun e=>.inr (b _ _ e));refine FnK.of func50 kV kV<|G.c call84 (Ox hF (SB.tx sF.c)) ?_;rintro v1 u1 bb rfl;refine G.nF 0 0<|G.mapRange g1 es1 C 118 69 kV (an bb (fun _ _ h=>h)) ?_;intro it bh bx;have aa:∀ o,PH.le m (m.upd it o):=fun o=>Jw o bh;refine G.l (ι:=List MapEntry×List (Par×Value)×List (Par×Rat)×(Option Addr×Nat)) (fun i=>[(1,.p 0 0),(2,.p 1 0),(6,.p 2002 0),(33,.v (.pointer (some ⟨it,0,none⟩)))])
  (fun i=>[(0,⟨108,[bV b,sV a n c,bV b',sV a' n' c',.v (.map (some g1)),.v (.map (some g2))]⟩),(1,⟨38,[tV [],sV none 0 0,sV none 0 0]⟩),(2002,⟨38,[tV (Ae F.c),sV i.2.2.2.1 i.2.2.1.length i.2.2.2.2,sV none 0 0]⟩)])
  (fun i u' m'=>Gj Ap es1 l1 i.1 i.2.1/\R3 Bk F.s (i.2.1.map (·.1)) i.2.2.1/\i.2.2.1.length<=i.2.1.length/\Af (m.upd it (.mapIter (some g1) C (Ar i.1) C)) m' (.slice i.2.2.2.1 i.2.2.1.length i.2.2.2.2) 162 3 (i.2.2.1.map Bt))
  (fun i=>l1.length-i.2.1.length) ([],[],[],(none,0))
  ⟨Gj.nil _ _,R3.nil,A08 _,Af.nil _ _ _⟩ ?_
 rintro J ⟨D,L,S,⟨T,O⟩⟩ hJ u2 m2 a1 ⟨hS,hI,ap,hA⟩;simp only at hS hI ap hA hJ;have K:=bb.trans a1;have aq:m2 it=some (.mapIter (some g1) C (Ar D) C):=hA.see (Ab _ _ _);have ab:PH.le m m2:=fun g o Y=>hA.see (aa _ g o Y);refine G.mapNextL Bq.inj it g1 es1 C l1 D L kV kV aq (an K ab) aj ar b8 hS ?done1 ?next1
 case next1 =>
  rintro⟨k,xv⟩ e hp hkn he hek hev hS';simp only at hkn hek hev;have hx:=(bi _ hp).1;simp only at hx;obtain⟨yb,ya,yn,yc,bs,bu,bt,rfl,_⟩:=hx.opn;have U:=hA.base (b:=it) (o:=.mapIter (some g1) C (Ar (D++[e])) C) (by rw[Ab];simp);rw[Dp]at U;have ac:PH.le m (m2.upd it (.mapIter (some g1) C (Ar (D++[e])) C)):=fun g o Y=>U.see (aa _ g o Y);refine G.mapEntry it g1 es1 C D e kV (Ab _ _ _) (an K ac) aj he ?_;rw[hek,hev];have a3:=hS'.len;simp only[A1d,A3f,A30]at a3;have ai:=sF.s k;refine G.c call81 (Nt (hx.mono K) (by have:=(SB.sz ai).1;omega)) ?_;rintro v3 u3 l3 rfl;by_cases h0:F.s k=0
  ·rw[decide_eq_true (Rl.2 h0)];refine G.b (hJ (D++[e],L++[(k,_)],S,(T,O)) _ _ _ cV (a1.trans l3) ⟨hS',by dsimp only;rw[A1i];exact hI.skip h0,by dsimp only;simp;omega,U⟩ (by have:=hS'.len;simp at this;dsimp only;simp;omega))
  rw[decide_eq_false (fun e=>h0 (Rl.1 e))];refine G.c call84 (Ox (hx.mono (K.trans l3)) (SB.tx ai)) ?_;rintro v4 u4 l4 rfl;refine G.nF 0 0 ?_;have E:=U;generalize bk:m2.upd it (.mapIter (some g1) C (Ar (D++[e])) C)=m3 at E ac;have b3:k∉L.map (·.1):=hkn;refine G.l (ι:=Nat) (fun n=>[(1,.p 0 0),(2,.p 1 0),(6,.p 2002 0),(7,.p 7003 0),(11,.p 12003 0),(12,iV n),(33,.v (.pointer (some ⟨it,0,none⟩)))])
   (fun _=>[(0,⟨108,[bV b,sV a n c,bV b',sV a' n' c',.v (.map (some g1)),.v (.map (some g2))]⟩),(1,⟨38,[tV [],sV none 0 0,sV none 0 0]⟩),(2002,⟨38,[tV (Ae F.c),sV T S.length O,sV none 0 0]⟩),(7003,⟨118,[iV k.1,tV k.2]⟩),(12003,⟨162,[iV k.1,tV k.2,tV (Ae (F.s k))]⟩)])
   (fun n u' m'=>n<=S.length/\(∀ j x,j<n->S[j]?=some x->Bk x.1 k<0)/\m'=m3) (fun n=>S.length-n) 0 ⟨oV,fun j x hj=>oV,rfl⟩ ?_
  rintro J2 n2 ax u5 m5 l5 ⟨ad,Z,rfl⟩;have bo:=((K.trans l3).trans l4).trans l5;refine G.joinF (ι:=Unit) (fun st=>Ajn prog st [.bool false]) (fun _=>[(1,.p 0 0),(2,.p 1 0),(6,.p 2002 0),(11,.p 12003 0),(12,iV n2),(33,.v (.pointer (some ⟨it,0,none⟩)))])
   (fun _=>[(0,⟨108,[bV b,sV a n c,bV b',sV a' n' c',.v (.map (some g1)),.v (.map (some g2))]⟩),(1,⟨38,[tV [],sV none 0 0,sV none 0 0]⟩),(2002,⟨38,[tV (Ae F.c),sV T S.length O,sV none 0 0]⟩),(12003,⟨162,[iV k.1,tV k.2,tV (Ae (F.s k))]⟩)])
   (fun _ u' m'=>m'=m5/\∀ x,S[n2]?=some x->¬ Bk x.1 k<0) (fun _=>kV) kV ?tail ?way
  case way =>
   intro R;by_cases a6:n2<S.length
   ·refine G.lT n2 S.length ?_;obtain⟨x,a4⟩:∃ x,S[n2]?=some x:=⟨_,A01 a6⟩;obtain⟨gs,cs,Q⟩:=E.ptr (fun e=>by
     have:S.length=0:=by simpa using congrArg List.length e
     omega)
    simp only[Value.slice.injEq]at Q;obtain⟨rfl,_,rfl⟩:=Q;refine G.a gs 0 S.length O n2 3 a6<|G.f 162 gs (0+n2*3) 0 0 ?_;have b1:ElP m5 gs (0+n2*3) (Bt x):=E.el (by rw[A1a,a4];rfl);refine G.lM (some 2) gs (0+n2*3+0) (.agg #[.int .i64 x.1.1,.string (mkS x.1.2)]) (b1.sub (k:=0) fun i y H=>by
     match i,H with
     |0,H=>simpa[Bt,Value.cells] using H
     |1,H=>simpa[Bt,Value.cells] using H
     |i+2,H=>simp[Value.cells]at H) ?_
    by_cases hc:Bk x.1 k<0
    ·refine G.c call113 (Fp x.1 k true (decide_eq_true hc)) ?_;rintro v6 u6 l6 rfl;refine G.i n2 ?_;exact G.b (ax (n2+1) _ _ _ cV (l5.trans l6) ⟨oV,fun j y hj H=>by
      rcases (by omega:j<n2\/j=n2) with e|rfl
      ·exact Z j y e H
      rw[a4]at H;cases H;exact hc,rfl⟩ oV)
    refine G.c call113 (Fp x.1 k false (decide_eq_false hc)) ?_;rintro v6 u6 l6 rfl;exact R () _ _ _ kV cV l6 ⟨rfl,fun y H=>by rw[a4]at H;cases H;exact hc⟩
   refine G.lF n2 S.length ?_;exact R () _ _ _ kV cV (PH.le_refl _) ⟨rfl,fun y H=>by rw[A1v oV]at H;cases H⟩
  rintro _ u6 m6 l6 ⟨rfl,a5⟩;have ag:=E.cap;refine G.sliceTo 3 T S.length O n2 kV oV<|G.sliceFromG T S.length O n2 3 kV ad ag<|G.buildM 162 3 40 (.agg #[.int .i64 0,.string (mkS []),.string (mkS [])]) [.agg #[.int .i64 k.1,.string (mkS k.2),.string (mkS (Ae (F.s k)))]] kV (Afk (k,F.s k)) rfl oV mV mV ?_;intro gt m7 ae;refine G.appendMV 162 3 40 (.agg #[.int .i64 0,.string (mkS []),.string (mkS [])]) m6 [.agg #[.int .i64 k.1,.string (mkS k.2),.string (mkS (Ae (F.s k)))]] ((S.drop n2).map Bt) (.slice (some ⟨gt,0,none⟩) 1 1) (if O=n2 then T else T.map (·.add (n2*3))) (S.length-n2) (O-n2) kV rfl rfl oV ae mV (fun b4=>?_) (An2 _) gV gV ?_
  ·have a6:n2<S.length:=by
    rcases A2e n2 S.length with h|h
    ·exact h
    exact absurd (by rw[A2b h];rfl) b4
   obtain⟨gs,cs,Q⟩:=E.ptr (fun e=>by
    have:S.length=0:=by simpa using congrArg List.length e
    omega)
   simp only[Value.slice.injEq]at Q;obtain⟨rfl,_,rfl⟩:=Q;refine⟨gs,0+n2*3,?_,?_⟩
   ·rw[if_neg oV];simp[Ed]
   have:=E.els.drop n2;rw[<-List.map_drop]at this;exact fun j e hj i y H=>by
    obtain⟨cs,t,fr,q1,q2⟩:=this j e hj i y H;exact⟨cs,t,fr,ae.le _ _ q1,q2⟩
  intro v8 m8 V;obtain⟨a8,c8,rfl⟩:=V.ptr mV;have aw:=E.take (k:=n2) (by rw[A03];exact ad);obtain⟨mx,bm,bl,ah⟩:=At.swap (x:=⟨.slice T n2 O,162,3,(S.map Bt).take n2⟩) (y:=⟨.slice (some ⟨a8,0,none⟩) _ c8,162,3,_⟩) V aw;refine G.appendM 162 3 40 (.agg #[.int .i64 0,.string (mkS []),.string (mkS [])]) mx ((S.map Bt).take n2) _ (.slice T n2 O) a8 0 _ c8 kV rfl rfl oV bl V.els V.1 rfl mV gV gV ?_;intro v9 m9 av;obtain⟨mz,al,am⟩:=ah ⟨v9,162,3,_⟩ m9 av;have b2:(S.map Bt).take n2++([.agg #[.int .i64 k.1,.string (mkS k.2),.string (mkS (Ae (F.s k)))]]++(S.drop n2).map Bt)=(S.take n2++[(k,F.s k)]++S.drop n2).map Bt:=by
   rw[A1i,A1i,A5g,A2k];rfl
  have a0:Af (m.upd it (.mapIter (some g1) C (Ar (D++[e])) C)) mz v9 162 3 ((S.take n2++[(k,F.s k)]++S.drop n2).map Bt):=by rw[<-b2];exact am
  obtain⟨a9,c9,rfl⟩:=a0.shape;rw[A03]at a0⊢;have ay:(S.take n2++[(k,F.s k)]++S.drop n2).length=S.length+1:=gV;refine G.drop mz kV (fun g o Y=>Af.le al g o Y)<|G.b (hJ (D++[e],L++[(k,_)],S.take n2++[(k,F.s k)]++S.drop n2,(a9,c9)) _ _ _ cV ((((a1.trans l3).trans l4).trans l5).trans l6) ⟨hS',?_,by dsimp only;rw[ay];simp;omega,a0⟩ (by have:=hS'.len;simp at this;dsimp only;simp;omega));dsimp only;rw[A1i];exact hI.put Et h0 b3 Z a5
 case done1 =>
 intro a7;have af:Can Bk F.s S:=hI.can fun k hk=>al k fun hm=>hk (by
  obtain⟨p,hp,rfl⟩:=A1b.1 hm;exact A1b.2 ⟨p,a7 p hp,rfl⟩)
 have b6:S.length<=N:=by have:=hS.len;omega
 refine G.give _ _ _ kV hA (fun g=>?_) ?_
 ·cases Y:m g with
  |none=>exact .inl Y
  |some o=>exact .inr (by rw[aa _ g o Y];simp)
 intro u3 l3 hX;refine G.drop m kV (aa _) ?_;have bd:=K.trans l3;clear hJ hA hI ap aq ab hS a7
 revert S T O
 intro X xa xc af b6 hX;refine G.mapRange g2 a2 z 175 69 kV (ao bd (fun _ _ h=>h)) ?_;intro I b7 bw;have W:∀ o,PH.le m (m.upd I o):=fun o=>Jw o b7;refine G.l (ι:=List MapEntry×List ((Par×Par)×Value)×List ((Par×Par)×Rat)×(Option Addr×Nat)) (fun i=>[(1,.p 0 0),(2,.p 1 0),(6,.p 2002 0),(85,.v (.pointer (some ⟨I,0,none⟩)))])
  (fun i=>[(0,⟨108,[bV b,sV a n c,bV b',sV a' n' c',.v (.map (some g1)),.v (.map (some g2))]⟩),(1,⟨38,[tV [],sV none 0 0,sV none 0 0]⟩),(2002,⟨38,[tV (Ae F.c),sV xa X.length xc,sV i.2.2.2.1 i.2.2.1.length i.2.2.2.2]⟩)])
  (fun i u' m'=>Gj prV a2 l2 i.1 i.2.1/\R3 Oc F.t (i.2.1.map (·.1)) i.2.2.1/\i.2.2.1.length<=i.2.1.length/\Af (m.upd I (.mapIter (some g2) z (Ar i.1) z)) m' (.slice i.2.2.2.1 i.2.2.1.length i.2.2.2.2) 181 5 (i.2.2.1.map D8))
  (fun i=>l2.length-i.2.1.length) ([],[],[],(none,0))
  ⟨Gj.nil _ _,R3.nil,A08 _,Af.nil _ _ _⟩ ?_
 rintro J ⟨D,L,S,⟨T,O⟩⟩ hJ u2 m2 a1 ⟨hS,hI,ap,hA⟩;simp only at hS hI ap hA hJ;have K:=bd.trans a1;have aq:m2 I=some (.mapIter (some g2) z (Ar D) z):=hA.see (Ab _ _ _);have ab:PH.le m m2:=fun g o Y=>hA.see (W _ g o Y);refine G.mapNextL I1.inj I g2 a2 z l2 D L kV kV aq (ao K ab) ak au b9 hS ?done2 ?next2
 case next2 =>
  rintro⟨k,xv⟩ e hp hkn he hek hev hS';simp only at hkn hek hev;have hx:=(bj _ hp).1;simp only at hx;obtain⟨yb,ya,yn,yc,bs,bu,bt,rfl,_⟩:=hx.opn;have U:=hA.base (b:=I) (o:=.mapIter (some g2) z (Ar (D++[e])) z) (by rw[Ab];simp);rw[Dp]at U;have ac:PH.le m (m2.upd I (.mapIter (some g2) z (Ar (D++[e])) z)):=fun g o Y=>U.see (W _ g o Y);refine G.mapEntry I g2 a2 z D e kV (Ab _ _ _) (ao K ac) ak he ?_;rw[hek,hev];have a3:=hS'.len;simp only[A1d,A3f,A30]at a3;have ai:=sF.t k;refine G.c call81 (Nt (hx.mono K) (by have:=(SB.sz ai).1;omega)) ?_;rintro v3 u3 l3 rfl;by_cases h0:F.t k=0
  ·rw[decide_eq_true (Rl.2 h0)];refine G.b (hJ (D++[e],L++[(k,_)],S,(T,O)) _ _ _ cV (a1.trans l3) ⟨hS',by dsimp only;rw[A1i];exact hI.skip h0,by dsimp only;simp;omega,U⟩ (by have:=hS'.len;simp at this;dsimp only;simp;omega))
  rw[decide_eq_false (fun e=>h0 (Rl.1 e))];refine G.c call84 (Ox (hx.mono (K.trans l3)) (SB.tx ai)) ?_;rintro v4 u4 l4 rfl;refine G.nF 0 0<|G.pub 19003 175 [.int .i64 k.1.1,.string (mkS k.1.2),.int .i64 k.2.1,.string (mkS k.2.2)] kV kV ?_;intro bq c0 b5;have az:(m.upd I (.mapIter (some g2) z (Ar (D++[e])) z)) bq=none:=by
   cases hh:(m.upd I (.mapIter (some g2) z (Ar (D++[e])) z)) bq with
   |none=>rfl
   |some o=>rw[U.see hh]at b5;cases b5
  have E:=U.fresh (o:=.cells [Value.int .i64 k.1.1,.string (mkS k.1.2),.int .i64 k.2.1,.string (mkS k.2.2)].toArray 175 (0,0)) b5;obtain⟨bp,br⟩:=Aly (m:=(m2.upd I (.mapIter (some g2) z (Ar (D++[e])) z)).upd bq (.cells [Value.int .i64 k.1.1,.string (mkS k.1.2),.int .i64 k.2.1,.string (mkS k.2.2)].toArray 175 (0,0))) (Ab _ _ _);refine G.addrA 175 118 2 bq 0 0 2 kV kV kV kV oV<|G.lM (some 2) bq (0+0*2) (.agg #[.int .i64 k.1.1,.string (mkS k.1.2)]) bp<|G.addrA 175 118 2 bq 0 1 2 kV kV kV kV oV<|G.lM (some 2) bq (0+1*2) (.agg #[.int .i64 k.2.1,.string (mkS k.2.2)]) br ?_;generalize bk:(m2.upd I (.mapIter (some g2) z (Ar (D++[e])) z)).upd bq (.cells [Value.int .i64 k.1.1,.string (mkS k.1.2),.int .i64 k.2.1,.string (mkS k.2.2)].toArray 175 (0,0))=m3 at E;have b3:k∉L.map (·.1):=hkn;refine G.l (ι:=Nat) (fun n=>[(1,.p 0 0),(2,.p 1 0),(6,.p 2002 0),(17,.p 24006 0),(18,iV n),(85,.v (.pointer (some ⟨I,0,none⟩)))])
   (fun _=>[(0,⟨108,[bV b,sV a n c,bV b',sV a' n' c',.v (.map (some g1)),.v (.map (some g2))]⟩),(1,⟨38,[tV [],sV none 0 0,sV none 0 0]⟩),(2002,⟨38,[tV (Ae F.c),sV xa X.length xc,sV T S.length O]⟩),(24006,⟨181,[iV k.1.1,tV k.1.2,iV k.2.1,tV k.2.2,tV (Ae (F.t k))]⟩)])
   (fun n u' m'=>n<=S.length/\(∀ j x,j<n->S[j]?=some x->Oc x.1 k<0)/\m'=m3) (fun n=>S.length-n) 0 ⟨oV,fun j x hj=>oV,rfl⟩ ?_
  rintro J2 n2 ax u5 m5 l5 ⟨ad,Z,rfl⟩;have bo:=((K.trans l3).trans l4).trans l5;refine G.joinF (ι:=Unit) (fun st=>Ajn prog st [.bool false]) (fun _=>[(1,.p 0 0),(2,.p 1 0),(6,.p 2002 0),(17,.p 24006 0),(18,iV n2),(85,.v (.pointer (some ⟨I,0,none⟩)))])
   (fun _=>[(0,⟨108,[bV b,sV a n c,bV b',sV a' n' c',.v (.map (some g1)),.v (.map (some g2))]⟩),(1,⟨38,[tV [],sV none 0 0,sV none 0 0]⟩),(2002,⟨38,[tV (Ae F.c),sV xa X.length xc,sV T S.length O]⟩),(24006,⟨181,[iV k.1.1,tV k.1.2,iV k.2.1,tV k.2.2,tV (Ae (F.t k))]⟩)])
   (fun _ u' m'=>m'=m5/\∀ x,S[n2]?=some x->¬ Oc x.1 k<0) (fun _=>kV) kV ?tail2 ?way2
  case way2 =>
   intro R;by_cases a6:n2<S.length
   ·refine G.lT n2 S.length ?_;obtain⟨x,a4⟩:∃ x,S[n2]?=some x:=⟨_,A01 a6⟩;obtain⟨gs,cs,Q⟩:=E.ptr (fun e=>by
     have:S.length=0:=by simpa using congrArg List.length e
     omega)
    simp only[Value.slice.injEq]at Q;obtain⟨rfl,_,rfl⟩:=Q;refine G.a gs 0 S.length O n2 5 a6 ?_;have b1:ElP m5 gs (0+n2*5) (D8 x):=E.el (by rw[A1a,a4];rfl);refine G.lM (some 5) gs (0+n2*5) (D8 x) b1 ?_;by_cases hc:Oc x.1 k<0
    ·refine G.c call114 (P4 x (k,F.t k) true (decide_eq_true hc)) ?_;rintro v6 u6 l6 rfl;refine G.i n2 ?_;exact G.b (ax (n2+1) _ _ _ cV (l5.trans l6) ⟨oV,fun j y hj H=>by
      rcases (by omega:j<n2\/j=n2) with e|rfl
      ·exact Z j y e H
      rw[a4]at H;cases H;exact hc,rfl⟩ oV)
    refine G.c call114 (P4 x (k,F.t k) false (decide_eq_false hc)) ?_;rintro v6 u6 l6 rfl;exact R () _ _ _ kV cV l6 ⟨rfl,fun y H=>by rw[a4]at H;cases H;exact hc⟩
   refine G.lF n2 S.length ?_;exact R () _ _ _ kV cV (PH.le_refl _) ⟨rfl,fun y H=>by rw[A1v oV]at H;cases H⟩
  rintro _ u6 m6 l6 ⟨rfl,a5⟩;have ag:=E.cap;refine G.sliceTo 5 T S.length O n2 kV oV<|G.sliceFromG T S.length O n2 5 kV ad ag<|G.buildM 181 5 64 (.agg #[.int .i64 0,.string (mkS []),.int .i64 0,.string (mkS []),.string (mkS [])]) [.agg #[.int .i64 k.1.1,.string (mkS k.1.2),.int .i64 k.2.1,.string (mkS k.2.2),.string (mkS (Ae (F.t k)))]] kV (Aj6 (k,F.t k)) rfl oV mV mV ?_;intro gt m7 ae;refine G.appendMV 181 5 64 (.agg #[.int .i64 0,.string (mkS []),.int .i64 0,.string (mkS []),.string (mkS [])]) m6 [.agg #[.int .i64 k.1.1,.string (mkS k.1.2),.int .i64 k.2.1,.string (mkS k.2.2),.string (mkS (Ae (F.t k)))]] ((S.drop n2).map D8) (.slice (some ⟨gt,0,none⟩) 1 1) (if O=n2 then T else T.map (·.add (n2*5))) (S.length-n2) (O-n2) kV rfl rfl oV ae mV (fun b4=>?_) (Ao9 _) gV gV ?_
  ·have a6:n2<S.length:=by
    rcases A2e n2 S.length with h|h
    ·exact h
    exact absurd (by rw[A2b h];rfl) b4
   obtain⟨gs,cs,Q⟩:=E.ptr (fun e=>by
    have:S.length=0:=by simpa using congrArg List.length e
    omega)
   simp only[Value.slice.injEq]at Q;obtain⟨rfl,_,rfl⟩:=Q;refine⟨gs,0+n2*5,?_,?_⟩
   ·rw[if_neg oV];simp[Ed]
   have:=E.els.drop n2;rw[<-List.map_drop]at this;exact fun j e hj i y H=>by
    obtain⟨cs,t,fr,q1,q2⟩:=this j e hj i y H;exact⟨cs,t,fr,ae.le _ _ q1,q2⟩
  intro v8 m8 V;obtain⟨a8,c8,rfl⟩:=V.ptr mV;have aw:=E.take (k:=n2) (by rw[A03];exact ad);obtain⟨mx,bm,ba,ah⟩:=At.swap (x:=⟨.slice T n2 O,181,5,(S.map D8).take n2⟩) (y:=⟨.slice (some ⟨a8,0,none⟩) _ c8,181,5,_⟩) V aw;refine G.appendM 181 5 64 (.agg #[.int .i64 0,.string (mkS []),.int .i64 0,.string (mkS []),.string (mkS [])]) mx ((S.map D8).take n2) _ (.slice T n2 O) a8 0 _ c8 kV rfl rfl oV ba V.els V.1 rfl mV gV gV ?_;intro v9 m9 av;obtain⟨mz,al,am⟩:=ah ⟨v9,181,5,_⟩ m9 av;have b2:(S.map D8).take n2++([.agg #[.int .i64 k.1.1,.string (mkS k.1.2),.int .i64 k.2.1,.string (mkS k.2.2),.string (mkS (Ae (F.t k)))]]++(S.drop n2).map D8)=(S.take n2++[(k,F.t k)]++S.drop n2).map D8:=by
   rw[A1i,A1i,A5g,A2k];rfl
  have bn:Af ((m.upd I (.mapIter (some g2) z (Ar (D++[e])) z)).upd bq (.cells [Value.int .i64 k.1.1,.string (mkS k.1.2),.int .i64 k.2.1,.string (mkS k.2.2)].toArray 175 (0,0))) mz v9 181 5 ((S.take n2++[(k,F.t k)]++S.drop n2).map D8):=by rw[<-b2];exact am
  have a0:=bn.del (l:=bq) (by rw[Ab];simp);rw[Rk az]at a0;obtain⟨a9,c9,rfl⟩:=a0.shape;rw[A03]at a0⊢;have ay:(S.take n2++[(k,F.t k)]++S.drop n2).length=S.length+1:=gV;refine G.drop (mz.del bq) kV (fun g o Y=>Af.le al g o (Ap6 _ _ g o Y))<|G.b (hJ (D++[e],L++[(k,_)],S.take n2++[(k,F.t k)]++S.drop n2,(a9,c9)) _ _ _ cV ((((a1.trans l3).trans l4).trans l5).trans l6) ⟨hS',?_,by dsimp only;rw[ay];simp;omega,a0⟩ (by have:=hS'.len;simp at this;dsimp only;simp;omega));dsimp only;rw[A1i];exact hI.put A0t h0 b3 Z a5
 case done2 =>
 intro a7;have b0:Can Oc F.t S:=hI.can fun k hk=>am k fun hm=>hk (by
  obtain⟨p,hp,rfl⟩:=A1b.1 hm;exact A1b.2 ⟨p,a7 p hp,rfl⟩)
 have be:S.length<=N:=by have:=hS.len;omega
 refine G.give _ _ _ kV hA (fun g=>?_) ?_
 ·cases Y:m g with
  |none=>exact .inl Y
  |some o=>exact .inr (by rw[W _ g o Y];simp)
 intro u4 l4 hY;exact G.drop m kV (W _)<|G.r (.tuple #[.agg #[.string (mkS (Ae F.c)),.slice xa X.length xc,.slice T S.length O],.int .i64 0]) ⟨rfl,_,rfl,X,S,xa,xc,T,O,rfl,hX.mono (a1.trans l4),hY,af,b0,b6,be⟩
end
section
variable {F:List Al}{a i:Nat}{f:Al}{z:Int}
def Aro (F:List Al)(a:Nat)(z:Int)(i:Nat)(fe:Int)(dr ho:Bool):Prop :=
 (∃ k f,k<i/\F[k]?=some f/\f.1=a/\fe=(k:Int)/\dr=decide (f.2.2=1)/\ho=decide (f.2.1=2))\/((∀ k f,k<i->F[k]?=some f->f.1≠a)/\fe=z/\dr=true/\ho=false)
theorem Af1 (q:Rat):q+0=q:=by grind
theorem An4 {n:Int}{m t:Bool}(h:Aro F a z i n m t)(H:F[i]?=some f)(E:f.1≠a):Aro F a z (i+1) n m t:=by
 rcases h with ⟨k,g,u,j,C⟩|⟨u,j⟩
 ·exact .inl ⟨k,g,oV,j,C⟩
 refine .inr ⟨fun k g J I=>?_,j⟩;rcases (by omega:k<i\/k=i) with e|rfl
 ·grind
 grind
theorem Aqe (hf:F[i]?=some f)(he:f.1=a):Aro F a z (i+1) (i:Int) (decide (f.2.2=1)) (decide (f.2.1=2)) :=
 .inl ⟨i,f,oV,hf,he,rfl,rfl,rfl⟩
theorem Av7 {T:List (List UInt8×Nat)}{F:List Al}{lab:Int}{a:Nat}{z:Int}{x:List UInt8×Nat}{t:List UInt8}{m:Int}{L C:Bool}(hF:Da T F lab)(Y:-1<=lab)(l2:∀ l:Nat,lab=(l:Int)->∃ n,T[l]?=some (n,2))
 (I:T[a]?=some x) (O:Rj x.2 t) (R:((a:Int)=lab/\z = -1)\/((a:Int)≠lab/\z = -2)) (h:Aro F a z F.length m L C) :
 (m = -2/\Gm F lab a t=some none)\/(m≠-2/\((C=true/\Gm F lab a t=some (some ((m,t),1)))\/(C=false/\t = []/\Gm F lab a t=(if L then none else some none))\/(C=false/\t≠[]/\SmW (Lk t)/\Ae (Lk t)=t/\Gm F lab a t=some (some ((m,[]),Lk t))))):=by
 rcases h with ⟨k,f,W,E,rfl,rfl,rfl,rfl⟩|⟨Q,rfl,rfl,rfl⟩
 ·obtain⟨n,X,hT,g,H⟩:=hF.ok f (A1k E);rw[Zu hF.nodup E H];rw[hT]at I;cases I;refine .inr ⟨oV,?_⟩;unfold I3;rcases g with ⟨P,rfl,U⟩|⟨P,rfl,U⟩
  ·rw[P,if_neg oV];by_cases j:t = []
   ·grind
   obtain⟨J,K⟩:=Hz O j;exact .inr (.inr ⟨rfl,j,J,K,by rw[if_neg j]⟩)
  grind
 rcases R with ⟨u,rfl⟩|⟨u,rfl⟩
 ·refine .inr ⟨oV,.inr ?_⟩;obtain⟨n,N⟩:=l2 a u.symm;rw[I]at N;cases N;have e:Gm F lab a t=Sy t:=by unfold Gm;rw[if_pos u]
  rw[e];unfold Sy;by_cases j:t = []
  ·grind
  obtain⟨J,K⟩:=Hz O j;exact .inr ⟨rfl,j,J,K,by rw[if_neg j]⟩
 rcases Gn (F:=F) (w:=t) u with e|⟨i,f,E,V,_⟩
 ·grind
 grind
def Ale {g1 g2:Nat}(g:g1≠g2)(m n h j:Obj):(((PH.mt.upd g1 m).upd g2 n).upd g1 h).upd g2 j=(PH.mt.upd g1 h).upd g2 j:=by
 rw[Iq _ _ _ (fun e=>g e.symm),Dp,Dp]
def Ahp {u:PH}{v:Value}{T:List (List UInt8×Nat)}{R:List Br}{lab:Int}{x:List UInt8×Nat}{t:List UInt8}(h:H5 u v T R F lab)(ok:Bl u T R F lab)(hx:T[a]?=some x)(hv:Rj x.2 t) :
 Ag prog 112 [v,.int .i64 a,.string (mkS t)] u PH.mt fun v' u' m'=>Kk m' u' v' (Gm F lab a t).cf 1:=by
 have ae:=ok.f2;have l1:=ok.l1;have t2:=ok.t2;have ad:a<T.length:=(A05.1 hx).1;obtain⟨pa,ca,pb,cb,pe,ce,rfl,hT,hR,hF⟩:=h;refine Ag.o func112<|G.joinF (ι:=Int) (fun st=>Ajn prog st [.bool false]) (fun z=>[(1,iV a),(2,tV t),(3,.p 0 0),(6,.p 1 0),(7,iV z),(8,bV true),(9,bV false)])
  (fun _=>[(0,⟨30,[sV pa T.length ca,sV pb R.length cb,sV pe F.length ce,iV lab]⟩),(1,⟨108,[bV false,sV none 0 0,bV false,sV none 0 0,.v (.map none),.v (.map none)]⟩)])
  (fun z u' m'=>u'=u/\m'=PH.mt/\(((a:Int)=lab/\z = -1)\/((a:Int)≠lab/\z = -2))) (fun _=>kV) kV ?tail ?way
 case way =>
  intro N;by_cases hl:(a:Int)=lab
  ·refine G.eT' a lab hl<|G.pastI ?_;exact N (-1) _ _ _ kV cV (PH.le_refl _) ⟨rfl,rfl,.inl ⟨hl,rfl⟩⟩
  refine G.eF' a lab hl ?_;exact N (-2) _ _ _ kV cV (PH.le_refl _) ⟨rfl,rfl,.inr ⟨hl,rfl⟩⟩
 rintro z _ _ _ ⟨rfl,rfl,hz⟩;refine G.l (ι:=Nat×Int×Bool×Bool) (fun i=>[(1,iV a),(2,tV t),(6,.p 1 0),(7,iV i.2.1),(8,bV i.2.2.1),(9,bV i.2.2.2),(20,sV pe F.length ce),(21,iV F.length),(22,iV i.1)])
  (fun _=>[(1,⟨108,[bV false,sV none 0 0,bV false,sV none 0 0,.v (.map none),.v (.map none)]⟩)])
  (fun i u' m'=>i.1<=F.length/\m'=PH.mt/\Aro F a z i.1 i.2.1 i.2.2.1 i.2.2.2) (fun i=>F.length-i.1) (0,z,true,false) ⟨oV,rfl,.inr ⟨fun k f hk=>by dsimp only at hk;omega,rfl,rfl,rfl⟩⟩ ?_
 rintro J ⟨i,m,dr,ho⟩ hJ u2 m2 l2 ⟨hi,rfl,hI⟩;simp only at hi hI hJ;by_cases a0:i<F.length
 ·refine G.lT i F.length ?_;obtain⟨f,U⟩:∃ f,F[i]?=some f:=⟨_,A01 a0⟩;obtain⟨fb,fo,rfl,ef⟩:=Ac.at' (hF.mono l2) (j:=i) (e:=Cm f) (by simp[U]);obtain⟨p1,Y,p3⟩:=f;refine G.a fb fo F.length ce i 3 a0<|G.lU (some 3) fb (fo+i*3) (.agg #[.int .i64 p1,.int .i64 Y,.int .i64 p3]) ef ?_;by_cases hp:(p1:Int)=(a:Int)
  ·refine G.eT' p1 a hp ?_;have P:=Aqe (z:=z) U (show p1=a by omega);simp only at P;by_cases h3:p3=1
   ·refine G.eT p3 1 ?_;by_cases h2:Y=2
    ·refine G.eT Y 2<|G.i i ?_;rw[decide_eq_true h3,decide_eq_true h2]at P;exact G.b (hJ (i+1,(i:Int),true,true) _ _ _ cV l2 ⟨dV,rfl,P⟩ dV)
    refine G.eF Y 2<|G.i i ?_;rw[decide_eq_true h3,decide_eq_false h2]at P;exact G.b (hJ (i+1,(i:Int),true,false) _ _ _ cV l2 ⟨dV,rfl,P⟩ dV)
   refine G.eF p3 1 ?_;by_cases h2:Y=2
   ·refine G.eT Y 2<|G.i i ?_;rw[decide_eq_false h3,decide_eq_true h2]at P;exact G.b (hJ (i+1,(i:Int),false,true) _ _ _ cV l2 ⟨dV,rfl,P⟩ dV)
   refine G.eF Y 2<|G.i i ?_;rw[decide_eq_false h3,decide_eq_false h2]at P;exact G.b (hJ (i+1,(i:Int),false,false) _ _ _ cV l2 ⟨dV,rfl,P⟩ dV)
  exact G.eF' p1 a hp<|G.i i<|G.b (hJ (i+1,m,dr,ho) _ _ _ cV l2 ⟨dV,rfl,An4 hI U (show ¬ p1=a by omega)⟩ dV)
 obtain rfl:i=F.length:=oV;refine G.lF F.length F.length ?_;have n0:(⟨((0:Int):Rat),fun _=>0,fun _=>0⟩:CF)=CF.num 0:=by rw[show ((0:Int):Rat)=0 by decide +kernel];rfl
 have n1:(⟨((1:Int):Rat),fun _=>0,fun _=>0⟩:CF)=CF.num 1:=by rw[show ((1:Int):Rat)=1 by decide +kernel];rfl
 rcases Av7 ok.feat l1 ok.l2 hx hv hz hI with ⟨rfl,e⟩|⟨a7,hc⟩
 ·rw[e];refine G.eT' (-2) (-2) rfl<|G.callO _ _ kV call46 (Jm (n:=1) oV oV) ?_;intro v3 u3 m3 l3 V _;obtain⟨b,H,n,c,b',E,L,I,g1,g2,rfl⟩:=Oe V;rw[By];exact G.r (.agg #[.bool b,.slice H n c,.bool b',.slice E L I,.map (some g1),.map (some g2)]) (V.congr n1 oV)
 refine G.eF' m (-2) a7<|G.callO _ _ kV call46 (Jm (n:=1) oV oV) ?_;intro v3 u3 m3 l3 V _;rw[By];rcases hc with ⟨rfl,e⟩|⟨rfl,ht,e⟩|⟨rfl,ht,Z,q2,e⟩
 ·rw[e];obtain⟨b,H,n,c,b',E,L,I,g1,g2,o1,o2,rfl,k1,C,rfl,s1,s2⟩:=V;have K:Ay (m,t) (m,t)=((m,t),(m,t)):=Ii (by rw[Et.refl];omega);refine G.c call22 (P6 (z:=1) oV oV) ?_;intro v4 u4 Q O;rw[show ((1:Int):Rat)=1 by decide +kernel]at O;obtain⟨b4,a4,n4,c4,a2,a8,a3,rfl,_⟩:=O.opn;refine G.callG _ _ kV kV call109 (g:=g1) (o:=o1) (by rw[Ad _ _ C,Ab])
   (Oi (a:=(m,t)) (g2:=some g2) (y1:=b) (y2:=(H,n,c)) (y3:=b') (y4:=(E,L,I)) (s1.mono Q) O I7.sb SB.zero (by rw[Af1];exact I7.sb)) ?_
  intro v5 u5 a9 W k5;refine G.c call22 (P6 (z:=1) oV oV) ?_;intro v6 u6 X k6;rw[show ((1:Int):Rat)=1 by decide +kernel]at k6;obtain⟨b6,a6,n6,c6,ab,af,ac,rfl,_⟩:=k6.opn;refine G.callG _ _ kV kV call110 (g:=g2) (o:=o2) (by rw[Ad _ _ C.symm,Ab])
   (H7 (p:=(m,t)) (r:=(m,t)) (g1:=some g1) (y1:=b) (y2:=(H,n,c)) (y3:=b') (y4:=(E,L,I)) (((s2.mono Q).mono W).mono X) k6 I7.sb (by rw[K];exact SB.zero) (by rw[K,Af1];exact I7.sb)) ?_
  intro v7 u7 aa l7 k7;rw[Ale C];rw[K]at k7;exact G.r (.agg #[.bool b,.slice H n c,.bool b',.slice E L I,.map (some g1),.map (some g2)]) ⟨b,H,n,c,b',E,L,I,g1,g2,_,_,rfl,(((k1.mono Q).mono W).mono X).mono l7,C,rfl,((k5.mono X).mono l7).congr fun k=>by rw[Af1];rfl,k7.congr fun k=>by
   rw[Af1];show (if k=((m,t),(m,t)) then (1:Rat) else 0)=if k=((m,t),(m,t)) then (1:Rat)*1 else 0
   rw[show (1:Rat)*1=1 by decide +kernel]⟩
 ·obtain⟨b,H,n,c,b',E,L,I,g1,g2,rfl⟩:=Oe V;refine G.q t [] ht ?_;rw[e];cases dr with
  |true =>
   refine G.drop PH.mt kV (PH.mt_le _)<|G.callO _ _ kV call46 (Jm (n:=0) oV oV) ?_;intro v4 u4 m4 Q O _;obtain⟨b,H,n,c,b',E,L,I,g1,g2,rfl⟩:=Oe O;rw[By];exact G.r (.agg #[.bool b,.slice H n c,.bool b',.slice E L I,.map (some g1),.map (some g2)]) (O.congr n0 oV)
  |false =>
   exact G.r (.agg #[.bool b,.slice H n c,.bool b',.slice E L I,.map (some g1),.map (some g2)]) (V.congr n1 oV)
 rw[e];obtain⟨b,H,n,c,b',E,L,I,g1,g2,o1,o2,rfl,k1,C,rfl,s1,s2⟩:=V;refine G.w t [] ht ?_;have K:Ay (m,[]) (m,[])=((m,[]),(m,[])):=Ii (by rw[Et.refl];omega);have a1:=G8 (u:=u3) (q:=Lk t) (SB.tx Z.sb);rw[q2]at a1;refine G.c call27 a1 ?_;intro v4 u4 Q O;obtain⟨b4,a4,n4,c4,a2,a8,a3,rfl,_⟩:=O.opn;refine G.callG _ _ kV kV call109 (g:=g1) (o:=o1) (by rw[Ad _ _ C,Ab])
  (Oi (a:=(m,[])) (g2:=some g2) (y1:=b) (y2:=(H,n,c)) (y3:=b') (y4:=(E,L,I)) (s1.mono Q) O Z.sb SB.zero (by rw[Af1];exact Z.sb)) ?_
 intro v5 u5 a9 W k5;refine G.c call28 (Gh (O.mono W) (O.mono W) (SB.ten Z.sb) (SB.ten Z.sb)) ?_;intro v6 u6 X k6;refine G.callG _ _ kV kV call110 (g:=g2) (o:=o2) (by rw[Ad _ _ C.symm,Ab])
  (H7 (p:=(m,[])) (r:=(m,[])) (g1:=some g1) (y1:=b) (y2:=(H,n,c)) (y3:=b') (y4:=(E,L,I)) (((s2.mono Q).mono W).mono X) k6 Z.sb2 (by rw[K];exact SB.zero) (by rw[K,Af1];exact Z.sb2)) ?_
 intro v7 u7 aa l7 k7;rw[Ale C];rw[K]at k7;exact G.r (.agg #[.bool b,.slice H n c,.bool b',.slice E L I,.map (some g1),.map (some g2)]) ⟨b,H,n,c,b',E,L,I,g1,g2,_,_,rfl,(((k1.mono Q).mono W).mono X).mono l7,C,rfl,((k5.mono X).mono l7).congr fun k=>by rw[Af1];rfl,k7.congr fun k=>by rw[Af1];rfl⟩
end
section
variable {u:PH}
def Kk.all {f:FuncId}{args:List Value}{F:CF}{N:Nat}(c:Ag prog f args u PH.mt fun v e h=>Kk h e v F N):Fn0 prog f args u fun v e=>R9 e v F N:=by
 refine Fn0.weak c.giveAll ?_;rintro v e ⟨m,j,g,l2,k⟩;exact k.give g l2
def R9.up {u:PH}{v:Value}{F:CF}{N M:Nat}(h:R9 u v F N)(g:N<=M):R9 u v F M:=by
 obtain⟨b,a,n,c,b',j,I,m,g1,g2,J,K,e,t,z,C,E,H⟩:=h;exact⟨b,a,n,c,b',j,I,m,g1,g2,J,K,e,t,z,C,E.up g,H.up g⟩
def Arh {v tv:Value}{T:List (List UInt8×Nat)}{R:List Br}{F:List Al}{lab:Int}{ss:List (List UInt8)}(h:Mv u v tv T R F lab ss)(ah:ss.length<=8) :
 Fn0 prog 49 [v,tv] u fun r u'=>R9 u' r (cfT F lab ss) 255/\CFS (cfT F lab ss):=by
 have hX:=h.sch;obtain⟨⟨xa,xc,xb,xd,xe,xf,rfl,ai,ag,ae⟩,ok,Z,hT⟩:=h;obtain⟨ya,yc,rfl⟩:=Z.opn;rw[A03]at Z⊢;have j:=N0 ok hT;have a6:=hT.len;obtain⟨L,I⟩:∃ L,L=Fh F lab ss:=⟨_,rfl⟩;have a0:cfT F lab ss=Iv (CF.num 1) L:=by rw[I];rfl
 rw[a0];rw[<-I]at j;have af:L.length=ss.length:=by rw[I];exact G3
 refine Fn0.o func49<|G.c call46 (Kk.all (Jm (n:=1) oV oV)) ?_;intro v2 u2 l2 k2;have n1:(⟨((1:Int):Rat),fun _=>0,fun _=>0⟩:CF)=CF.num 1:=by rw[show ((1:Int):Rat)=1 by decide +kernel];rfl
 rw[n1]at k2;obtain⟨b,a,n,c,b',K,n',P,g1,g2,rfl⟩:=Sw k2;refine G.l (ι:=Nat×(Bool×SlI)×(Bool×SlI)×Nat×Nat) (fun i=>[(2,.p 0 0),(4,.p 1 0),(5,.p 1001 0),(9,sV ya ss.length yc),(10,iV ss.length),(11,iV i.1)])
  (fun i=>[(0,⟨30,[sV xa T.length xc,sV xb R.length xd,sV xe F.length xf,iV lab]⟩),(1,⟨108,[bV false,sV none 0 0,bV false,sV none 0 0,.v (.map none),.v (.map none)]⟩),(1001,⟨108,[bV i.2.1.1,sV i.2.1.2.1 i.2.1.2.2.1 i.2.1.2.2.2,bV i.2.2.1.1,sV i.2.2.1.2.1 i.2.2.1.2.2.1 i.2.2.1.2.2.2,.v (.map (some i.2.2.2.1)),.v (.map (some i.2.2.2.2))]⟩)])
  (fun i u' m'=>i.1<=ss.length/\R9 u' (.agg #[.bool i.2.1.1,.slice i.2.1.2.1 i.2.1.2.2.1 i.2.1.2.2.2,.bool i.2.2.1.1,.slice i.2.2.1.2.1 i.2.2.1.2.2.1 i.2.2.1.2.2.2,.map (some i.2.2.2.1),.map (some i.2.2.2.2)]) (Iv (CF.num 1) (L.take i.1)) (2^i.1-1)/\m'=PH.mt)
  (fun i=>ss.length-i.1) (0,(b,a,n,c),(b',K,n',P),g1,g2) ⟨oV,k2,rfl⟩ ?_
 rintro J ⟨i,⟨b,a,n,c⟩,⟨b',K,n',P⟩,g1,g2⟩ hJ u3 m3 l3 ⟨hi,H,rfl⟩;simp only at hi H hJ;have t:=l2.trans l3;by_cases g:i<ss.length
 ·refine G.lT i ss.length ?_;obtain⟨bb,off,rfl,e⟩:=M5 (Z.mono t) g;refine G.a bb off ss.length yc i 1 g<|G.lU none bb (off+i*1) (.string (mkS (ss.getD i []))) e ?_;have E:ss.getD i []=ss[i]:=by simp[A02,A01 g]
  have C:T[i]?=some T[i]:=A01 oV;have z:L[i]?=some (Gm F lab i (ss.getD i [])):=by rw[I,E];exact Hg (A01 g)
  have Y:(Gm F lab i (ss.getD i [])).Small:=j _ (A1k z);have hv:=hT.val i _ _ C (A01 g);rw[<-E]at hv;refine G.c call112 (Kk.all (Ahp (hX.mono t) (ok.mono t) C hv)) ?_;intro v4 u4 l4 k4;obtain⟨b4,a4,n4,c4,a8,a7,aj,a9,ab,ac,rfl⟩:=Sw k4;have X:2^i<=2^7:=A10 oV oV;have ad:1<=2^i:=Nat.one_le_two_pow;obtain⟨U,aa⟩:=R2 j i oV;have m:Iv (CF.num 1) (L.take (i+1))=(Iv (CF.num 1) (L.take i)).mul (Gm F lab i (ss.getD i [])).cf:=by
   rw[A1n,z];exact Aa0 _ _ _
  refine G.c call111 (Kk.all (Arj (H.mono l4) k4 (Azw U Y.cfd oV (Azz oV) (Nat.pos_of_ne_zero mV) oV))) ?_;intro v5 u5 l5 k5;obtain⟨b5,a5,n5,c5,O,N,a3,Q,V,W,rfl⟩:=Sw k5;refine G.i i ?_;rw[<-m]at k5;exact G.b (hJ (i+1,(b5,a5,n5,c5),(O,N,a3,Q),V,W) _ _ _ cV ((l3.trans l4).trans l5) ⟨dV,k5.up (by dsimp only;rw[A2d];omega),rfl⟩ dV)
 obtain rfl:i=ss.length:=oV;refine G.lF ss.length ss.length ?_;have a2:L.take ss.length=L:=by rw[A1j oV]
 have a1:CFS (Iv (CF.num 1) L):=by
  obtain⟨q1,_⟩:=R2 j L.length (A08 _);rw[A15]at q1;exact q1.cfs oV (A0n oV)
 rw[a2]at H;have X:2^ss.length<=2^8:=A10 oV oV;exact G.r (.agg #[.bool b,.slice a n c,.bool b',.slice K n' P,.map (some g1),.map (some g2)]) ⟨rfl,H.up oV,a1⟩
end
section
variable {u:PH}
def Tw {p:Par}(h:PV p):Fn0 prog 161 [Ap p] u fun v _=>v=.bool true:=by
 refine Fn0.o func161<|G.hT' p.1 (-1) (by have:=h.lo;omega) ?_;by_cases e:p.2 = []
 ·exact G.q p.2 [] e<|G.r (.bool true) ⟨rfl,rfl⟩
 refine G.w p.2 [] e<|G.c call107 (Rr (h.cat.resolve_left e)) ?_;rintro m j g rfl;exact G.r (.bool true) ⟨rfl,rfl⟩
def ElP.par {b off:Nat}{x:Par×Rat}(h:ElP u b off (Bt x)):ElP u b (off+0) (.agg #[.int .i64 x.1.1,.string (mkS x.1.2)]):=h.sub fun i y e=>by
 match i,e with
 |0,e=>simpa[Bt,Value.cells] using e
 |1,e=>simpa[Bt,Value.cells] using e
 |i+2,e=>simp[Value.cells]at e
def Ahu {v:Value}{F:CF}{K:Nat}(h:No u v F K)(sF:CFS F)(vF:CFV F)(hK:K<=1000000):Fn0 prog 92 [v] u fun r _=>r=.bool true:=by
 obtain⟨T,Q,a1,c1,a2,c2,rfl,hT,hQ,cT,cQ,kT,kQ⟩:=h;refine Fn0.o func92<|G.c call24 (Ee (SB.tx sF.c)) ?_;rintro v1 u1 l1 rfl;refine G.l (ι:=Nat) (fun i=>[(1,.p 0 0),(12,sV a1 T.length c1),(13,iV T.length),(14,iV i)])
  (fun _=>[(0,⟨38,[tV (Ae F.c),sV a1 T.length c1,sV a2 Q.length c2]⟩)])
  (fun i u' m'=>i<=T.length/\m'=PH.mt) (fun i=>T.length-i) 0 ⟨oV,rfl⟩ ?_
 rintro J i U u2 m2 l2 ⟨hi,rfl⟩;have R:=l1.trans l2;by_cases m:i<T.length
 ·refine G.lT i T.length ?_;obtain⟨x,L⟩:∃ x,T[i]?=some x:=⟨_,A01 m⟩;have n:=A1k L;obtain⟨g,z⟩:=cT.val _ n;obtain⟨E,H,rfl,ea⟩:=Ac.at' (hT.mono R) (j:=i) (e:=Bt x) (by simp[L]);have N:SB x.2:=by rw[g];exact sF.s _
  have a4:PV x.1:=vF.s x.1 (by rw[<-g];exact z);refine G.a E H T.length c1 i 3 m<|G.lU (some 3) E (H+i*3) (.agg #[.int .i64 x.1.1,.string (mkS x.1.2),.string (mkS (Ae x.2))]) ea<|G.c call161 (Tw a4) ?_;rintro v3 u3 O rfl;refine G.c call24 (Ee (SB.tx N)) ?_;rintro v4 u4 P rfl;refine G.w (Ae x.2) [48] (Sf z) ?_;by_cases h0:i=0
  ·subst h0;exact G.gF (0:Nat) 0<|G.p (0:Nat) 1 (0+1:Nat)<|G.b (U (0+1) _ _ _ cV ((l2.trans O).trans P) ⟨oV,rfl⟩ oV)
  refine G.gT i 0<|G.s i 1 (i-1:Nat) ?_;obtain⟨y,W⟩:∃ y,T[i-1]?=some y:=⟨_,A01 oV⟩;have C:Bk y.1 x.1<0:=by
   have hp:=cT.srt;obtain⟨h1,rfl⟩:=A05.1 L;obtain⟨h2,rfl⟩:=A05.1 W;have:=A3n.1 hp (i-1) i (by rw[A03];omega) (by rw[A03];omega) oV;rw[A3v,A3v]at this;exact this
  obtain⟨bb,ob,e1,eb⟩:=Ac.at' (hT.mono ((R.trans O).trans P)) (j:=i-1) (e:=Bt y) (by simp[W]);cases e1;refine G.a E H T.length c1 (i-1) 3 oV<|G.f 162 E (H+(i-1)*3) 0 0<|G.lU (some 2) E (H+(i-1)*3+0) (.agg #[.int .i64 y.1.1,.string (mkS y.1.2)]) eb.par<|G.c call113 (Fp y.1 x.1 true (decide_eq_true C)) ?_;rintro v5 u5 Y rfl;exact G.i i<|G.b (U (i+1) _ _ _ cV (((l2.trans O).trans P).trans Y) ⟨oV,rfl⟩ oV)
 obtain rfl:i=T.length:=oV;refine G.lF T.length T.length ?_;clear U;refine G.l (ι:=Nat) (fun i=>[(1,.p 0 0),(53,sV a2 Q.length c2),(54,iV Q.length),(55,iV i)])
  (fun _=>[(0,⟨38,[tV (Ae F.c),sV a1 T.length c1,sV a2 Q.length c2]⟩)])
  (fun i u' m'=>i<=Q.length/\m'=PH.mt) (fun i=>Q.length-i) 0 ⟨oV,rfl⟩ ?_
 rintro J i U u3 m3 O ⟨hi,rfl⟩;have Z:=R.trans O;by_cases m:i<Q.length
 ·refine G.lT i Q.length ?_;obtain⟨x,I⟩:∃ x,Q[i]?=some x:=⟨_,A01 m⟩;have n:=A1k I;obtain⟨g,z⟩:=cQ.val _ n;obtain⟨E,H,rfl,ea⟩:=Ac.at' (hQ.mono Z) (j:=i) (e:=D8 x) (by simp[I]);have N:SB x.2:=by rw[g];exact sF.t _
  obtain⟨a0,a3,X⟩:=vF.t x.1 (by rw[<-g];exact z);refine G.a E H Q.length c2 i 5 m<|G.lU (some 5) E (H+i*5) (.agg #[.int .i64 x.1.1.1,.string (mkS x.1.1.2),.int .i64 x.1.2.1,.string (mkS x.1.2.2),.string (mkS (Ae x.2))]) ea<|G.c call161 (Tw a0) ?_;rintro v3 u4 P rfl;refine G.c call161 (Tw a3) ?_;rintro v4 u5 Y rfl;refine G.c call113 (Fp x.1.2 x.1.1 false (decide_eq_false fun e=>X ((Et.sym _ _).1 e))) ?_;rintro v5 u6 l6 rfl;refine G.c call24 (Ee (SB.tx N)) ?_;rintro v6 u7 l7 rfl;refine G.w (Ae x.2) [48] (Sf z) ?_;by_cases h0:i=0
  ·subst h0;exact G.gF (0:Nat) 0<|G.p (0:Nat) 1 (0+1:Nat)<|G.b (U (0+1) _ _ _ cV ((((O.trans P).trans Y).trans l6).trans l7) ⟨oV,rfl⟩ oV)
  refine G.gT i 0<|G.s i 1 (i-1:Nat) ?_;obtain⟨y,V⟩:∃ y,Q[i-1]?=some y:=⟨_,A01 oV⟩;have C:Oc y.1 x.1<0:=by
   have hp:=cQ.srt;obtain⟨h1,rfl⟩:=A05.1 I;obtain⟨h2,rfl⟩:=A05.1 V;have:=A3n.1 hp (i-1) i (by rw[A03];omega) (by rw[A03];omega) oV;rw[A3v,A3v]at this;exact this
  obtain⟨bb,ob,e1,eb⟩:=Ac.at' (hQ.mono ((((Z.trans P).trans Y).trans l6).trans l7)) (j:=i-1) (e:=D8 y) (by simp[V]);cases e1;refine G.a E H Q.length c2 (i-1) 5 oV<|G.lU (some 5) E (H+(i-1)*5) (D8 y) eb<|G.c call114 (P4 y x true (decide_eq_true C)) ?_;rintro v5 u8 l8 rfl;exact G.i i<|G.b (U (i+1) _ _ _ cV (((((O.trans P).trans Y).trans l6).trans l7).trans l8) ⟨oV,rfl⟩ oV)
 obtain rfl:i=Q.length:=oV;exact G.lF Q.length Q.length<|G.r (.bool true) ⟨rfl,rfl⟩
end
end Go.Proofs.YtemmheaocgmebaaGreatDoor
