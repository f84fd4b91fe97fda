/- Parts of one proof, joined by a program. -/
import Derived.Test.YtdgncafgglafjaaGreatDoorQ07
set_option linter.defProp false
set_option linter.unusedVariables false
set_option linter.unusedSimpArgs false
set_option linter.unusedSectionVars false
set_option maxHeartbeats 16000000
namespace Go.Proofs.YtdgncafgglafjaaGreatDoor
open Go.Proofs.Tryz
open Go.RowKit Go.MapKept
def A8c:=@Rat.zero_add
def A4f:=@Rat.natCast_add
section
variable {N:Nat}{k:Par×Par}{q:Rat}
def Av7 (T:TypeId):Op->Bool
 |.indexAddr t _ _=>Nat.beq t T
 |_=>false
section
variable {P:Program} [A6 P] {fn:Func} {Post:Ca} {st:List KI×S} {u m:PH}
def G.addrA (t e:TypeId)(n b g j sz:Nat)(h:Ak P (adv P st)=.addr none (.pointer (some ⟨b,g,none⟩)) (.int .i64 j))(Q:Xp (Av7 t) (adv P st)=true)(U:P.underlying t=some (.array n e))(R:szB P e=some sz)(Y:j<n)
 (k:G P fn Post (nx (adv P st) (.pointer (some ⟨b,g+j*sz,none⟩))) u m):G P fn Post st u m:=by
 refine G.askQ (Av7 t) h Q mV (fun O o d F w _=>?_) k;obtain⟨Z,X,I,C,K,L,_⟩:=Zp d;rw[C]at F;have T:=A1u F;subst T;obtain⟨J,V,H,pos,z,E⟩:=o;simp only at C;subst C;simp[execOp,Instr.indexAt,Instr.sureAddr,asIntOf,K,L,run_underlying U,Bg R,Eu];intro W;omega
end
def Akv {m:PH}{b:Nat}{t:TypeId}(h:m b=some (.cells [Value.int .i64 k.1.1,.string (mkS k.1.2),.int .i64 k.2.1,.string (mkS k.2.2)].toArray t (0,0))):ElP m b (0+0*2) (An k.1)/\ElP m b (0+1*2) (An k.2):=by
 have h0:ElP m b 0 (.agg #[.int .i64 k.1.1,.string (mkS k.1.2),.int .i64 k.2.1,.string (mkS k.2.2)]):=Jg h rfl;refine⟨h0.sub (k:=0) fun i y d=>?_,h0.sub (k:=2) fun i y d=>?_⟩
 ·match i,d with
  |0,d=>simpa[An,Value.cells] using d
  |1,d=>simpa[An,Value.cells] using d
 match i,d with
 |0,d=>simpa[An,Value.cells] using d
 |1,d=>simpa[An,Value.cells] using d
def SB.ten (h:SB q):Sz q 10000000000:=h.sz.mono oV
def KO.fix (h:KO k):Aw k.1 k.2=k:=by unfold Aw;rw[if_neg h]
def D3.at {κ:Type}[DecidableEq κ]{enc:κ->Value}{K:κ->Prop}{u:PH}{o:Obj}{f:κ->Rat}(h:D3 enc K u o f N) :
 ∃ l:List (κ×Value),Ep enc o l/\(∀ p∈l,QP u p.2 (f p.1)/\K p.1)/\(∀ k,k∉l.map (·.1)->f k=0)/\l.length<=N:=by
 obtain⟨l,e,d,g,j⟩:=h;exact⟨l,e,fun p hp=>⟨(d p hp).1,(d p hp).2.1⟩,g,j⟩
def Aqa {u mf:PH}{F H:CF}{N M:Nat}{vf vg vk:Value}(hf:J7 mf u vf F N)(hg:Rl u vg H M)(hk:QP u vk q)(hq:SB q)(sF:CFS F)(sH:CFS H)(sK:CFS (H.scale q))(sR:CFS (F.add (H.scale q))) :
 Ah prog 74 [vf,vg,vk] u mf fun v u' m'=>J7 m' u' v (F.add (H.scale q)) (N+M):=by
 obtain⟨b,a,n,c,b',a',n',c',g1,g2,o1,o2,rfl,hF,a8,rfl,h1,h2⟩:=hf;obtain⟨wb,wa,wn,wc,ax,aw,az,ay,w1,w2,p1,p2,rfl,hH,e1,e2,k1,k2⟩:=hg;obtain⟨kb,ka,kn,kc,aq,au,ar,rfl,_⟩:=hk.opn;obtain⟨l1,⟨es1,j,rfl,ab,Y⟩,b7,ba,br⟩:=k1.at;obtain⟨l2,⟨V,d,rfl,ac,Z⟩,b8,bb,bs⟩:=k2.at;have ao:(l1.map (·.1)).Nodup:=Ep.nodup (enc:=An) ⟨es1,j,rfl,ab,Y⟩;have ap:(l2.map (·.1)).Nodup:=Ep.nodup (enc:=prV) ⟨V,d,rfl,ac,Z⟩;refine Ah.o func74<|G.c call127 (D7 hH hk (SB.ten sH.c) hq.ten) ?_;intro v1 u1 av r1;obtain⟨b1,a1,x1,c1,bm,bu,bn,rfl,_⟩:=r1.opn;refine G.c call25 (Oo (hF.mono av) r1 (SB.ten sF.c) (SB.ten sK.c)) ?_;intro v2 u2 bd r2;obtain⟨b2,a2,x2,c2,T,a5,U,rfl,_⟩:=r2.opn;have a0:=av.trans bd;obtain⟨m2,b9,af,ag⟩:∃ m2:PH,m2=(PH.mt.upd g1 o1).upd g2 o2/\m2 g1=some o1/\m2 g2=some o2:=⟨_,rfl,by rw[Ad _ _ a8,Ac],Ac _ _ _⟩;rw[<-b9];refine G.mapRange w1 es1 j 78 84 kV (.inl (a0 _ _ e1)) ?_;intro it al bp;have i1:g1≠it:=fun e=>by subst e;rw[al]at af;cases af
 have i2:g2≠it:=fun e=>by subst e;rw[al]at ag;cases ag
 refine G.l (ι:=List MapEntry×List (Par×Value)) (fun _=>[(3,.p 0 0),(4,.p 1 0),(5,.p 2 0),(6,.p 3 0),(21,.v (.pointer (some ⟨it,0,none⟩)))])
  (fun _=>[(0,⟨157,[bV b2,sV a2 x2 c2,bV false,sV T a5 U,.v (.map (some g1)),.v (.map (some g2))]⟩),(1,⟨157,[bV wb,sV wa wn wc,bV ax,sV aw az ay,.v (.map (some w1)),.v (.map (some w2))]⟩),(2,⟨84,[bV kb,sV ka kn kc,bV false,sV aq au ar]⟩),(3,⟨157,[bV false,sV none 0 0,bV false,sV none 0 0,.v (.map none),.v (.map none)]⟩)])
  (fun i u' m'=>Fs An es1 l1 i.1 i.2/\m' it=some (.mapIter (some w1) j (Ay i.1) j)/\m' g2=some o2/\∃ E,m' g1=some E/\D3 An KT u' E (Ee F.s H.s q (i.2.map (·.1))) (N+i.2.length))
  (fun i=>l1.length-i.2.length) ([],[])
  ⟨Fs.nil _ _,Ac _ _ _,by rw[Ad _ _ i2];exact ag,o1,by rw[Ad _ _ i1];exact af,by
   have:Ee F.s H.s q (([]:List (Par×Value)).map (·.1))=F.s:=by funext k;simp[Ee]
   dsimp only;rw[this];exact h1.mono a0⟩ ?_
 rintro J ⟨D,L⟩ hJ u3 m3 ah ⟨hS,am,z,E,X,hR⟩;simp only at hS am z X hR hJ;have h:=a0.trans ah;refine G.mapNextL Bo.inj it w1 es1 j l1 D L kV kV am (.inl (h _ _ e1)) Y ab ao hS ?done1 ?next1
 case next1 =>
  rintro⟨k,xv⟩ e hp hkn he hek hev hS';simp only at hkn hek hev;have hx:=(b7 _ hp).1;simp only at hx;obtain⟨yb,ya,yn,yc,bh,bj,bi,rfl,_⟩:=hx.opn;refine G.mapEntry it w1 es1 j D e kV (Ac _ _ _) (.inl (h _ _ e1)) Y he ?_;rw[hek,hev];refine G.c call127 (D7 (hx.mono h) (hk.mono h) (SB.ten (sH.s k)) hq.ten) ?_;intro v4 u4 a3 r4;obtain⟨b4,a4,x4,c4,b0,bg,b3,rfl,_⟩:=r4.opn;refine G.callG _ _ kV kV call147 (g:=g1) (o:=E) (by rw[Ad _ _ i1];exact X)
   (Nt (g2:=some g2) (y1:=b2) (y2:=(a2,x2,c2)) (y3:=false) (y4:=(T,a5,U)) (hR.mono a3) r4 (sK.s k) (O0 sF.s sR.s k) (by
    have:Ee F.s H.s q (L.map (·.1)) k=F.s k:=by unfold Ee;rw[if_neg hkn]
    rw[this,A39];exact sR.s k)) ?_
  intro v5 u5 o5 ai r5;rw[I0 _ _ _ hkn]at r5;refine G.b (hJ (D++[e],L++[(k,_)]) _ _ _ cV ((ah.trans a3).trans ai)
   ⟨hS',by rw[Ad _ _ (Ne.symm i1),Ac],by rw[Ad _ _ (Ne.symm a8),Ad _ _ i2];exact z,o5,Ac _ _ _,by
    simpa[A21] using r5⟩ (by have:=hS'.len;simp at this;dsimp only;simp;omega))
 case done1 =>
 intro ak;have b5:Ee F.s H.s q (L.map (·.1))=(F.add (H.scale q)).s:=Li _ _ _ fun k hk=>ba k fun hm=>hk (by
  obtain⟨p,hp,rfl⟩:=A0r.1 hm;exact A0r.2 ⟨p,ak p hp,rfl⟩)
 rw[b5]at hR;have bo:=hS.len;refine G.mapRange w2 V d 224 84 kV (.inl (h _ _ e2)) ?_;intro C a9 bl;have j1:g1≠C:=fun e=>by subst e;rw[a9]at X;cases X
 have j2:g2≠C:=fun e=>by subst e;rw[a9]at z;cases z
 refine G.l (ι:=List MapEntry×List ((Par×Par)×Value)) (fun _=>[(3,.p 0 0),(4,.p 1 0),(5,.p 2 0),(6,.p 3 0),(35,.v (.pointer (some ⟨C,0,none⟩)))])
  (fun _=>[(0,⟨157,[bV b2,sV a2 x2 c2,bV false,sV T a5 U,.v (.map (some g1)),.v (.map (some g2))]⟩),(1,⟨157,[bV wb,sV wa wn wc,bV ax,sV aw az ay,.v (.map (some w1)),.v (.map (some w2))]⟩),(2,⟨84,[bV kb,sV ka kn kc,bV false,sV aq au ar]⟩),(3,⟨157,[bV false,sV none 0 0,bV false,sV none 0 0,.v (.map none),.v (.map none)]⟩)])
  (fun i u' m'=>Fs prV V l2 i.1 i.2/\m' C=some (.mapIter (some w2) d (Ay i.1) d)/\m' g1=some E/\∃ R,m' g2=some R/\D3 prV KO u' R (Ee F.t H.t q (i.2.map (·.1))) (N+i.2.length))
  (fun i=>l2.length-i.2.length) ([],[])
  ⟨Fs.nil _ _,Ac _ _ _,by rw[Ad _ _ j1];exact X,o2,by rw[Ad _ _ j2];exact z,by
   have:Ee F.t H.t q (([]:List ((Par×Par)×Value)).map (·.1))=F.t:=by funext k;simp[Ee]
   dsimp only;rw[this];exact h2.mono h⟩ ?_
 rintro J2 ⟨D2,L2⟩ aj u6 m6 a7 ⟨ad,aa,K,R,I,a6⟩;simp only at ad aa K I a6 aj;have O:=h.trans a7;refine G.mapNextL Id.inj C w2 V d l2 D2 L2 kV kV aa (.inl (O _ _ e2)) Z ac ap ad ?done2 ?next2
 case next2 =>
  rintro⟨k,xv⟩ e hp hkn he hek hev hS';simp only at hkn hek hev;obtain⟨hx,an⟩:=b8 _ hp;simp only at hx an;have W:=an.fix;obtain⟨yb,ya,yn,yc,bh,bj,bi,rfl,_⟩:=hx.opn;refine G.mapEntry C w2 V d D2 e kV (Ac _ _ _) (.inl (O _ _ e2)) Z he ?_;rw[hek,hev];refine G.pub 8003 224 [.int .i64 k.1.1,.string (mkS k.1.2),.int .i64 k.2.1,.string (mkS k.2.2)] kV kV ?_;intro bq bt Q;have q1:g1≠bq:=fun e=>by subst e;rw[Ad _ _ j1,K]at Q;cases Q
  have q2:g2≠bq:=fun e=>by subst e;rw[Ad _ _ j2,I]at Q;cases Q
  have q3:C≠bq:=fun e=>by subst e;rw[Ac]at Q;cases Q
  obtain⟨be,bf⟩:=Akv (m:=(m6.upd C (.mapIter (some w2) d (Ay (D2++[e])) d)).upd bq (.cells [Value.int .i64 k.1.1,.string (mkS k.1.2),.int .i64 k.2.1,.string (mkS k.2.2)].toArray 224 (0,0))) (Ac _ _ _);refine G.addrA 224 78 2 bq 0 0 2 kV kV kV kV oV<|G.lM (some 2) bq (0+0*2) (.agg #[.int .i64 k.1.1,.string (mkS k.1.2)]) be<|G.addrA 224 78 2 bq 0 1 2 kV kV kV kV oV<|G.lM (some 2) bq (0+1*2) (.agg #[.int .i64 k.2.1,.string (mkS k.2.2)]) bf<|G.c call127 (D7 (hx.mono O) (hk.mono O) (SB.ten (sH.t k)) hq.ten) ?_;intro v4 u4 a3 r4;obtain⟨b4,a4,x4,c4,b0,bg,b3,rfl,_⟩:=r4.opn;refine G.callG _ _ kV kV call148 (g:=g2) (o:=R) (by rw[Ad _ _ q2,Ad _ _ j2];exact I)
   (Hb (g1:=some g1) (y1:=b2) (y2:=(a2,x2,c2)) (y3:=false) (y4:=(T,a5,U)) (p:=k.1) (r:=k.2) (a6.mono a3) r4 (sK.t k) (by rw[W];exact O0 sF.t sR.t k) (by
    have:Ee F.t H.t q (L2.map (·.1)) k=F.t k:=by unfold Ee;rw[if_neg hkn]
    rw[W,this,A39];exact sR.t k)) ?_
  intro v5 u5 o5 ai r5;rw[W,I0 _ _ _ hkn]at r5;refine G.b (aj (D2++[e],L2++[(k,_)]) _ _ _ cV ((a7.trans a3).trans ai)
   ⟨hS',by rw[Ad _ _ (Ne.symm j2),Ad _ _ q3,Ac],by rw[Ad _ _ a8,Ad _ _ q1,Ad _ _ j1];exact K,o5,Ac _ _ _,by
    simpa[A21] using r5⟩ (by have:=hS'.len;simp at this;dsimp only;simp;omega))
 case done2 =>
 intro ae;have b6:Ee F.t H.t q (L2.map (·.1))=(F.add (H.scale q)).t:=Li _ _ _ fun k hk=>bb k fun hm=>hk (by
  obtain⟨p,hp,rfl⟩:=A0r.1 hm;exact A0r.2 ⟨p,ae p hp,rfl⟩)
 rw[b6]at a6;have bk:=ad.len;refine G.drop ((PH.mt.upd g1 E).upd g2 R) kV (fun g o hg=>by
  by_cases e:g=g2
  ·subst e;rw[Ac]at hg;cases hg;exact I
  rw[Ad _ _ e]at hg;by_cases e:g=g1
  ·subst e;rw[Ac]at hg;cases hg;exact K
  rw[Ad _ _ e]at hg;cases hg) ?_
 exact G.r (.agg #[.bool b2,.slice a2 x2 c2,.bool false,.slice T a5 U,.map (some g1),.map (some g2)]) ⟨_,_,_,_,_,_,_,_,g1,g2,E,R,rfl,r2.mono (ah.trans a7),a8,rfl,(hR.mono a7).up oV,a6.up oV⟩
end
theorem Aos {u:PH}{F H:CF}{N M:Nat}{v w:Value}(hv:Rl u v F N)(hw:Rl u w H M)(ok:Avy F H) :
 Ah prog 149 [v,w] u PH.mt fun v' u' T=>J7 T u' v' (F.mul H) (M+N+N*M):=by
 obtain⟨vb,va,vn,vc,ay,ax,b0,az,v1,v2,q1,q2,rfl,cw,f1,f2,s1,s2⟩:=id hv;obtain⟨wb,wa,wn,wc,b3,b1,b6,b5,w1,w2,p1,p2,rfl,cx,e1,e2,t1,t2⟩:=id hw;obtain⟨lv,⟨a8,O,rfl,cs,bh⟩,da,di,f3⟩:=s1.at;obtain⟨lw,⟨aa,U,rfl,ct,bj⟩,dc,dk,e7⟩:=t1.at;obtain⟨kv,⟨b7,ac,rfl,cb,bi⟩,db,dj,ep⟩:=s2.at;obtain⟨kw,⟨b8,ad,rfl,cc,bk⟩,dd,dl,er⟩:=t2.at;have cd:(lv.map (·.1)).Nodup:=Ep.nodup (enc:=An) ⟨a8,O,rfl,cs,bh⟩;have ce:(lw.map (·.1)).Nodup:=Ep.nodup (enc:=An) ⟨aa,U,rfl,ct,bj⟩;have cu:(kv.map (·.1)).Nodup:=Ep.nodup (enc:=prV) ⟨b7,ac,rfl,cb,bi⟩;have cv:(kw.map (·.1)).Nodup:=Ep.nodup (enc:=prV) ⟨b8,ad,rfl,cc,bk⟩;refine Ah.o func149<|G.callO _ _ kV call73 (I2 (n:=0) oV oV) ?_;rintro v3 u3 m3 l3 ⟨b,a,n,c,b',a',n',c',g1,g2,o1,o2,rfl,_,aj,rfl,h1,h2⟩ _;rw[Cm];refine G.c call127 (D7 (cw.mono l3) (cx.mono l3) (SB.ten ok.a.c) (SB.ten ok.b.c)) ?_;intro v5 u5 l5 r5;obtain⟨b2,a2,x2,c2,E,K,I,rfl,_⟩:=r5.opn;have d2:=l3.trans l5;obtain⟨m5,e6,cq,cr⟩:∃ m5:PH,m5=(PH.mt.upd g1 o1).upd g2 o2/\m5 g1=some o1/\m5 g2=some o2:=⟨_,rfl,by rw[Ad _ _ aj,Ac],Ac _ _ _⟩;rw[<-e6];have an:CFS (F.scale H.c):=ok.d;have d8:CFS (H.scale F.c):=ok.c;have cg:∀ k,SB ((F.scale H.c).s k+H.s k*F.c):=fun k=>by rw[A39];exact ok.e.s k
 have bg:∀ k,SB ((F.scale H.c).t k+H.t k*F.c):=fun k=>by rw[A39];exact ok.e.t k
 have dg:∀ k:Par,SB ((fun _:Par=>(0:Rat)) k+F.s k*H.c):=fun k=>by show SB (0+F.s k*H.c);rw[A8c];exact an.s k
 have dh:∀ k:Par×Par,SB ((fun _:Par×Par=>(0:Rat)) k+F.t k*H.c):=fun k=>by show SB (0+F.t k*H.c);rw[A8c];exact an.t k
 have dz:D3 An KT u5 o1 (fun _=>0) 0:=h1.mono l5;have dv:D3 prV KO u5 o2 (fun _=>0) 0:=h2.mono l5;have f4:=d2;refine G.mapRange v1 a8 O 78 84 kV (.inl (d2 _ _ f1)) ?_;intro ao c6 ej;have cy:g1≠ao:=fun e=>by subst e;rw[c6]at cq;cases cq
 have dm:g2≠ao:=fun e=>by subst e;rw[c6]at cr;cases cr
 refine G.l (ι:=List MapEntry×List ((Par)×Value)) (fun _=>[(2,.p 0 0),(3,.p 1 0),(4,.p 2 0),(5,.p 1001 0),(28,.v (.pointer (some ⟨ao,0,none⟩)))])
  (fun _=>[(0,⟨157,[bV vb,sV va vn vc,bV ay,sV ax b0 az,.v (.map (some v1)),.v (.map (some v2))]⟩),(1,⟨157,[bV wb,sV wa wn wc,bV b3,sV b1 b6 b5,.v (.map (some w1)),.v (.map (some w2))]⟩),(2,⟨157,[bV false,sV none 0 0,bV false,sV none 0 0,.v (.map none),.v (.map none)]⟩),(1001,⟨157,[bV b2,sV a2 x2 c2,bV false,sV E K I,.v (.map (some g1)),.v (.map (some g2))]⟩)])
  (fun i u' T=>Fs An a8 lv i.1 i.2/\T ao=some (.mapIter (some v1) O (Ay i.1) O)/\T g2=some o2/\∃ oo,T g1=some oo/\D3 An KT u' oo (Ee (fun _=>0) F.s H.c (i.2.map (·.1))) (0+i.2.length))
  (fun i=>lv.length-i.2.length) ([],[])
  ⟨Fs.nil _ _,Ac _ _ _,by rw[Ad _ _ dm];exact cr,_,by rw[Ad _ _ cy];exact cq,by
   have:Ee (fun _=>0) F.s H.c (([]:List ((Par)×Value)).map (·.1))=(fun _=>0):=by funext k;simp[Ee]
   dsimp only;rw[this];exact dz⟩ ?_
 rintro JA ⟨D,LA⟩ ck uA mA lA ⟨V,C,Y,oA,af,ba⟩;simp only at V C Y af ba ck;have aq:=d2.trans lA;refine G.mapNextL Bo.inj ao v1 a8 O lv D LA kV kV C (.inl (aq _ _ f1)) bh cs cd V ?doneA ?nextA
 case nextA =>
  rintro⟨k,xv⟩ e hp hkn he hek hev hS';simp only at hkn hek hev;obtain⟨hx,ab⟩:=da _ hp;simp only at hx ab;obtain⟨yb,ya,yn,yc,bl,bn,bm,rfl,_⟩:=hx.opn;refine G.mapEntry ao v1 a8 O D e kV (Ac _ _ _) (.inl (aq _ _ f1)) bh he ?_;rw[hek,hev];refine G.c call127 (D7 (hx.mono aq) (cx.mono aq) (SB.ten (ok.a.s k)) (SB.ten ok.b.c)) ?_;intro v4 u4 a0 r4;obtain⟨b4,a4,x4,c4,ci,d5,cj,rfl,_⟩:=r4.opn;refine G.callG _ _ kV kV call147 (g:=g1) (o:=oA) (by rw[Ad _ _ cy];exact af)
   (Nt (g2:=some g2) (y1:=b2) (y2:=(a2,x2,c2)) (y3:=false) (y4:=(E,K,I)) (ba.mono a0) r4 (an.s k) (O0 (fun _=>SB.zero) dg k) (by
    have:Ee (fun _=>0) F.s H.c (LA.map (·.1)) k=(fun _=>0) k:=by unfold Ee;rw[if_neg hkn]
    rw[this,A39];exact dg k)) ?_
  intro v5 u5 o5 a1 a3;rw[I0 _ _ _ hkn]at a3;refine G.b (ck (D++[e],LA++[(k,_)]) _ _ _ cV ((lA.trans a0).trans a1)
   ⟨hS',by rw[Ad _ _ (Ne.symm cy),Ac],by rw[Ad _ _ (Ne.symm aj),Ad _ _ dm];exact Y,o5,Ac _ _ _,by
    simpa[A21] using a3⟩ (by have:=hS'.len;simp at this;dsimp only;simp;omega))
 case doneA =>
 intro z;rw[Li _ _ _ fun k hk=>di k fun hm=>hk (by
  obtain⟨p,hp,rfl⟩:=A0r.1 hm;exact A0r.2 ⟨p,z p hp,rfl⟩)]at ba
 have ee:=V.len;have e0:=ba.congr (f':=(F.scale H.c).s) (fun k=>by show 0+F.s k*H.c=F.s k*H.c;rw[A8c]);have dw:=dv.mono lA;clear ck V C z ba;refine G.mapRange w1 aa U 78 84 kV (.inl (aq _ _ e1)) ?_;intro ap c7 ek;have cz:g1≠ap:=fun e=>by subst e;rw[c7]at af;cases af
 have dp:g2≠ap:=fun e=>by subst e;rw[c7]at Y;cases Y
 refine G.l (ι:=List MapEntry×List ((Par)×Value)) (fun _=>[(2,.p 0 0),(3,.p 1 0),(4,.p 2 0),(5,.p 1001 0),(43,.v (.pointer (some ⟨ap,0,none⟩)))])
  (fun _=>[(0,⟨157,[bV vb,sV va vn vc,bV ay,sV ax b0 az,.v (.map (some v1)),.v (.map (some v2))]⟩),(1,⟨157,[bV wb,sV wa wn wc,bV b3,sV b1 b6 b5,.v (.map (some w1)),.v (.map (some w2))]⟩),(2,⟨157,[bV false,sV none 0 0,bV false,sV none 0 0,.v (.map none),.v (.map none)]⟩),(1001,⟨157,[bV b2,sV a2 x2 c2,bV false,sV E K I,.v (.map (some g1)),.v (.map (some g2))]⟩)])
  (fun i u' T=>Fs An aa lw i.1 i.2/\T ap=some (.mapIter (some w1) U (Ay i.1) U)/\T g2=some o2/\∃ oo,T g1=some oo/\D3 An KT u' oo (Ee (F.scale H.c).s H.s F.c (i.2.map (·.1))) (0+LA.length+i.2.length))
  (fun i=>lw.length-i.2.length) ([],[])
  ⟨Fs.nil _ _,Ac _ _ _,by rw[Ad _ _ dp];exact Y,_,by rw[Ad _ _ cz];exact af,by
   have:Ee (F.scale H.c).s H.s F.c (([]:List ((Par)×Value)).map (·.1))=(F.scale H.c).s:=by funext k;simp[Ee]
   dsimp only;rw[this];exact e0⟩ ?_
 rintro JB ⟨D,LB⟩ cl uB mB lB ⟨V,C,Z,oB,ag,bb⟩;simp only at V C Z ag bb cl;have ar:=aq.trans lB;refine G.mapNextL Bo.inj ap w1 aa U lw D LB kV kV C (.inl (ar _ _ e1)) bj ct ce V ?doneB ?nextB
 case nextB =>
  rintro⟨k,xv⟩ e hp hkn he hek hev hS';simp only at hkn hek hev;obtain⟨hx,ab⟩:=dc _ hp;simp only at hx ab;obtain⟨yb,ya,yn,yc,bl,bn,bm,rfl,_⟩:=hx.opn;refine G.mapEntry ap w1 aa U D e kV (Ac _ _ _) (.inl (ar _ _ e1)) bj he ?_;rw[hek,hev];refine G.c call127 (D7 (hx.mono ar) (cw.mono ar) (SB.ten (ok.b.s k)) (SB.ten ok.a.c)) ?_;intro v4 u4 a0 r4;obtain⟨b4,a4,x4,c4,ci,d5,cj,rfl,_⟩:=r4.opn;refine G.callG _ _ kV kV call147 (g:=g1) (o:=oB) (by rw[Ad _ _ cz];exact ag)
   (Nt (g2:=some g2) (y1:=b2) (y2:=(a2,x2,c2)) (y3:=false) (y4:=(E,K,I)) (bb.mono a0) r4 (d8.s k) (O0 an.s cg k) (by
    have:Ee (F.scale H.c).s H.s F.c (LB.map (·.1)) k=(F.scale H.c).s k:=by unfold Ee;rw[if_neg hkn]
    rw[this,A39];exact cg k)) ?_
  intro v5 u5 o5 a1 a3;rw[I0 _ _ _ hkn]at a3;refine G.b (cl (D++[e],LB++[(k,_)]) _ _ _ cV ((lB.trans a0).trans a1)
   ⟨hS',by rw[Ad _ _ (Ne.symm cz),Ac],by rw[Ad _ _ (Ne.symm aj),Ad _ _ dp];exact Z,o5,Ac _ _ _,by
    simpa[A21] using a3⟩ (by have:=hS'.len;simp at this;dsimp only;simp;omega))
 case doneB =>
 intro z;rw[Li _ _ _ fun k hk=>dk k fun hm=>hk (by
  obtain⟨p,hp,rfl⟩:=A0r.1 hm;exact A0r.2 ⟨p,z p hp,rfl⟩)]at bb
 have ef:=V.len;have e3:=bb.congr (f':=(F.mul H).s) (fun k=>by show F.s k*H.c+H.s k*F.c=H.s k*F.c+F.s k*H.c;rw[A39]);have dx:=dw.mono lB;clear cl V C z bb;refine G.mapRange v2 b7 ac 224 84 kV (.inl (ar _ _ f2)) ?_;intro ah c8 em;have d0:g1≠ah:=fun e=>by subst e;rw[c8]at ag;cases ag
 have bt:g2≠ah:=fun e=>by subst e;rw[c8]at Z;cases Z
 refine G.l (ι:=List MapEntry×List ((Par×Par)×Value)) (fun _=>[(2,.p 0 0),(3,.p 1 0),(4,.p 2 0),(5,.p 1001 0),(58,.v (.pointer (some ⟨ah,0,none⟩)))])
  (fun _=>[(0,⟨157,[bV vb,sV va vn vc,bV ay,sV ax b0 az,.v (.map (some v1)),.v (.map (some v2))]⟩),(1,⟨157,[bV wb,sV wa wn wc,bV b3,sV b1 b6 b5,.v (.map (some w1)),.v (.map (some w2))]⟩),(2,⟨157,[bV false,sV none 0 0,bV false,sV none 0 0,.v (.map none),.v (.map none)]⟩),(1001,⟨157,[bV b2,sV a2 x2 c2,bV false,sV E K I,.v (.map (some g1)),.v (.map (some g2))]⟩)])
  (fun i u' T=>Fs prV b7 kv i.1 i.2/\T ah=some (.mapIter (some v2) ac (Ay i.1) ac)/\T g1=some oB/\∃ oo,T g2=some oo/\D3 prV KO u' oo (Ee (fun _=>0) F.t H.c (i.2.map (·.1))) (0+i.2.length))
  (fun i=>kv.length-i.2.length) ([],[])
  ⟨Fs.nil _ _,Ac _ _ _,by rw[Ad _ _ d0];exact ag,_,by rw[Ad _ _ bt];exact Z,by
   have:Ee (fun _=>0) F.t H.c (([]:List ((Par×Par)×Value)).map (·.1))=(fun _=>0):=by funext k;simp[Ee]
   dsimp only;rw[this];exact dx⟩ ?_
 rintro JC ⟨D,LC⟩ cm uC mC lC ⟨V,C,P,oC,a6,bd⟩;simp only at V C P a6 bd cm;have au:=ar.trans lC;refine G.mapNextL Id.inj ah v2 b7 ac kv D LC kV kV C (.inl (au _ _ f2)) bi cb cu V ?doneC ?nextC
 case nextC =>
  rintro⟨k,xv⟩ e hp hkn he hek hev hS';simp only at hkn hek hev;obtain⟨hx,ab⟩:=db _ hp;simp only at hx ab;obtain⟨yb,ya,yn,yc,bl,bn,bm,rfl,_⟩:=hx.opn;refine G.mapEntry ah v2 b7 ac D e kV (Ac _ _ _) (.inl (au _ _ f2)) bi he ?_;rw[hek,hev];have X:=ab.fix;refine G.pub 13003 224 [.int .i64 k.1.1,.string (mkS k.1.2),.int .i64 k.2.1,.string (mkS k.2.2)] kV kV ?_;intro bq e8 R;have q1:g1≠bq:=fun e=>by subst e;rw[Ad _ _ d0,P]at R;cases R
  have q2:g2≠bq:=fun e=>by subst e;rw[Ad _ _ bt,a6]at R;cases R
  have q3:ah≠bq:=fun e=>by subst e;rw[Ac]at R;cases R
  obtain⟨d3,d4⟩:=Akv (m:=(mC.upd ah (.mapIter (some v2) ac (Ay (D++[e])) ac)).upd bq (.cells [Value.int .i64 k.1.1,.string (mkS k.1.2),.int .i64 k.2.1,.string (mkS k.2.2)].toArray 224 (0,0))) (Ac _ _ _);refine G.addrA 224 78 2 bq 0 0 2 kV kV kV kV oV<|G.lM (some 2) bq (0+0*2) (.agg #[.int .i64 k.1.1,.string (mkS k.1.2)]) d3<|G.addrA 224 78 2 bq 0 1 2 kV kV kV kV oV<|G.lM (some 2) bq (0+1*2) (.agg #[.int .i64 k.2.1,.string (mkS k.2.2)]) d4<|G.c call127 (D7 (hx.mono au) (cx.mono au) (SB.ten (ok.a.t k)) (SB.ten ok.b.c)) ?_;intro v4 u4 a0 r4;obtain⟨b4,a4,x4,c4,ci,d5,cj,rfl,_⟩:=r4.opn;refine G.callG _ _ kV kV call148 (g:=g2) (o:=oC) (by rw[Ad _ _ q2,Ad _ _ bt];exact a6)
   (Hb (g1:=some g1) (y1:=b2) (y2:=(a2,x2,c2)) (y3:=false) (y4:=(E,K,I)) (p:=k.1) (r:=k.2) (bd.mono a0) r4 (an.t k) (by rw[X];exact O0 (fun _=>SB.zero) dh k) (by
    have:Ee (fun _=>0) F.t H.c (LC.map (·.1)) k=(fun _=>0) k:=by unfold Ee;rw[if_neg hkn]
    rw[X,this,A39];exact dh k)) ?_
  intro v5 u5 o5 a1 a3;rw[X,I0 _ _ _ hkn]at a3;refine G.b (cm (D++[e],LC++[(k,_)]) _ _ _ cV ((lC.trans a0).trans a1)
   ⟨hS',by rw[Ad _ _ (Ne.symm bt),Ad _ _ q3,Ac],by rw[Ad _ _ aj,Ad _ _ q1,Ad _ _ d0];exact P,o5,Ac _ _ _,by
    simpa[A21] using a3⟩ (by have:=hS'.len;simp at this;dsimp only;simp;omega))
 case doneC =>
 intro z;rw[Li _ _ _ fun k hk=>dj k fun hm=>hk (by
  obtain⟨p,hp,rfl⟩:=A0r.1 hm;exact A0r.2 ⟨p,z p hp,rfl⟩)]at bd
 have eg:=V.len;have dy:=bd.congr (f':=(F.scale H.c).t) (fun k=>by show 0+F.t k*H.c=F.t k*H.c;rw[A8c]);have e4:=e3.mono lC;clear cm V C z bd;refine G.mapRange w2 b8 ad 224 84 kV (.inl (au _ _ e2)) ?_;intro ai ca eo;have d1:g1≠ai:=fun e=>by subst e;rw[ca]at P;cases P
 have bu:g2≠ai:=fun e=>by subst e;rw[ca]at a6;cases a6
 refine G.l (ι:=List MapEntry×List ((Par×Par)×Value)) (fun _=>[(2,.p 0 0),(3,.p 1 0),(4,.p 2 0),(5,.p 1001 0),(76,.v (.pointer (some ⟨ai,0,none⟩)))])
  (fun _=>[(0,⟨157,[bV vb,sV va vn vc,bV ay,sV ax b0 az,.v (.map (some v1)),.v (.map (some v2))]⟩),(1,⟨157,[bV wb,sV wa wn wc,bV b3,sV b1 b6 b5,.v (.map (some w1)),.v (.map (some w2))]⟩),(2,⟨157,[bV false,sV none 0 0,bV false,sV none 0 0,.v (.map none),.v (.map none)]⟩),(1001,⟨157,[bV b2,sV a2 x2 c2,bV false,sV E K I,.v (.map (some g1)),.v (.map (some g2))]⟩)])
  (fun i u' T=>Fs prV b8 kw i.1 i.2/\T ai=some (.mapIter (some w2) ad (Ay i.1) ad)/\T g1=some oB/\∃ oo,T g2=some oo/\D3 prV KO u' oo (Ee (F.scale H.c).t H.t F.c (i.2.map (·.1))) (0+LC.length+i.2.length))
  (fun i=>kw.length-i.2.length) ([],[])
  ⟨Fs.nil _ _,Ac _ _ _,by rw[Ad _ _ d1];exact P,_,by rw[Ad _ _ bu];exact a6,by
   have:Ee (F.scale H.c).t H.t F.c (([]:List ((Par×Par)×Value)).map (·.1))=(F.scale H.c).t:=by funext k;simp[Ee]
   dsimp only;rw[this];exact dy⟩ ?_
 rintro JD ⟨D,LD⟩ cn uD mD lD ⟨V,C,Q,oD,a7,be⟩;simp only at V C Q a7 be cn;have av:=au.trans lD;refine G.mapNextL Id.inj ai w2 b8 ad kw D LD kV kV C (.inl (av _ _ e2)) bk cc cv V ?doneD ?nextD
 case nextD =>
  rintro⟨k,xv⟩ e hp hkn he hek hev hS';simp only at hkn hek hev;obtain⟨hx,ab⟩:=dd _ hp;simp only at hx ab;obtain⟨yb,ya,yn,yc,bl,bn,bm,rfl,_⟩:=hx.opn;refine G.mapEntry ai w2 b8 ad D e kV (Ac _ _ _) (.inl (av _ _ e2)) bk he ?_;rw[hek,hev];have X:=ab.fix;refine G.pub 17003 224 [.int .i64 k.1.1,.string (mkS k.1.2),.int .i64 k.2.1,.string (mkS k.2.2)] kV kV ?_;intro bq e8 R;have q1:g1≠bq:=fun e=>by subst e;rw[Ad _ _ d1,Q]at R;cases R
  have q2:g2≠bq:=fun e=>by subst e;rw[Ad _ _ bu,a7]at R;cases R
  have q3:ai≠bq:=fun e=>by subst e;rw[Ac]at R;cases R
  obtain⟨d3,d4⟩:=Akv (m:=(mD.upd ai (.mapIter (some w2) ad (Ay (D++[e])) ad)).upd bq (.cells [Value.int .i64 k.1.1,.string (mkS k.1.2),.int .i64 k.2.1,.string (mkS k.2.2)].toArray 224 (0,0))) (Ac _ _ _);refine G.addrA 224 78 2 bq 0 0 2 kV kV kV kV oV<|G.lM (some 2) bq (0+0*2) (.agg #[.int .i64 k.1.1,.string (mkS k.1.2)]) d3<|G.addrA 224 78 2 bq 0 1 2 kV kV kV kV oV<|G.lM (some 2) bq (0+1*2) (.agg #[.int .i64 k.2.1,.string (mkS k.2.2)]) d4<|G.c call127 (D7 (hx.mono av) (cw.mono av) (SB.ten (ok.b.t k)) (SB.ten ok.a.c)) ?_;intro v4 u4 a0 r4;obtain⟨b4,a4,x4,c4,ci,d5,cj,rfl,_⟩:=r4.opn;refine G.callG _ _ kV kV call148 (g:=g2) (o:=oD) (by rw[Ad _ _ q2,Ad _ _ bu];exact a7)
   (Hb (g1:=some g1) (y1:=b2) (y2:=(a2,x2,c2)) (y3:=false) (y4:=(E,K,I)) (p:=k.1) (r:=k.2) (be.mono a0) r4 (d8.t k) (by rw[X];exact O0 an.t bg k) (by
    have:Ee (F.scale H.c).t H.t F.c (LD.map (·.1)) k=(F.scale H.c).t k:=by unfold Ee;rw[if_neg hkn]
    rw[X,this,A39];exact bg k)) ?_
  intro v5 u5 o5 a1 a3;rw[X,I0 _ _ _ hkn]at a3;refine G.b (cn (D++[e],LD++[(k,_)]) _ _ _ cV ((lD.trans a0).trans a1)
   ⟨hS',by rw[Ad _ _ (Ne.symm bu),Ad _ _ q3,Ac],by rw[Ad _ _ aj,Ad _ _ q1,Ad _ _ d1];exact Q,o5,Ac _ _ _,by
    simpa[A21] using a3⟩ (by have:=hS'.len;simp at this;dsimp only;simp;omega))
 case doneD =>
 intro z;rw[Li _ _ _ fun k hk=>dl k fun hm=>hk (by
  obtain⟨p,hp,rfl⟩:=A0r.1 hm;exact A0r.2 ⟨p,z p hp,rfl⟩)]at be
 have eh:=V.len;have d6:=be.congr (f':=((H.scale F.c).add (F.scale H.c)).t) (fun k=>by show F.t k*H.c+H.t k*F.c=H.t k*F.c+F.t k*H.c;rw[A39]);have e5:=e4.mono lD;clear cn V C z be;obtain⟨base,bf⟩:∃ base:Par×Par->Rat,base=((H.scale F.c).add (F.scale H.c)).t:=⟨_,rfl⟩;have ae:=ok.acc;rw[<-bf]at d6 ae;have ds:=ok.pr;have dr:=ok.con;refine G.mapRange v1 a8 O 78 84 kV (.inl (av _ _ f1)) ?_;intro it d9 f0;have i1:g1≠it:=fun e=>by subst e;rw[d9]at Q;cases Q
 have i2:g2≠it:=fun e=>by subst e;rw[d9]at a7;cases a7
 refine G.l (ι:=List MapEntry×List (Par×Value)) (fun _=>[(2,.p 0 0),(3,.p 1 0),(4,.p 2 0),(5,.p 1001 0),(94,.v (.pointer (some ⟨it,0,none⟩)))])
  (fun _=>[(0,⟨157,[bV vb,sV va vn vc,bV ay,sV ax b0 az,.v (.map (some v1)),.v (.map (some v2))]⟩),(1,⟨157,[bV wb,sV wa wn wc,bV b3,sV b1 b6 b5,.v (.map (some w1)),.v (.map (some w2))]⟩),(2,⟨157,[bV false,sV none 0 0,bV false,sV none 0 0,.v (.map none),.v (.map none)]⟩),(1001,⟨157,[bV b2,sV a2 x2 c2,bV false,sV E K I,.v (.map (some g1)),.v (.map (some g2))]⟩)])
  (fun i u' T=>Fs An a8 lv i.1 i.2/\T it=some (.mapIter (some v1) O (Ay i.1) O)/\T g1=some oB/\∃ Ps:List (Par×Par),Ps.Nodup/\(∀ x:Par×Par,x∈Ps↔x.1∈i.2.map (·.1)/\x.2∈lw.map (·.1))/\∃ aw,T g2=some aw/\D3 prV KO u' aw (fun k=>base k+Ek F H Ps k) (0+LC.length+LD.length+i.2.length*lw.length))
  (fun i=>lv.length-i.2.length) ([],[])
  ⟨Fs.nil _ _,Ac _ _ _,by rw[Ad _ _ i1];exact Q,[],mV,mV,oD,by rw[Ad _ _ i2];exact a7,(d6.congr fun k=>by simp only[Ek];grind).up mV⟩ ?_
 rintro J ⟨D,L⟩ hJ u6 m6 l6 ⟨V,C,am,Ps,d7,co,aw,br,hR⟩;simp only at V C am co br hR hJ;have c1:=av.trans l6;refine G.mapNextL Bo.inj it v1 a8 O lv D L kV kV C (.inl (c1 _ _ f1)) bh cs cd V ?done1 ?next1
 case next1 =>
  rintro⟨p,xv⟩ e hp hpn he hek hev hS';simp only at hpn hek hev;have hx:=(da _ hp).1;simp only at hx;obtain⟨yb,ya,yn,yc,bl,bn,bm,rfl,_⟩:=hx.opn;refine G.mapEntry it v1 a8 O D e kV (Ac _ _ _) (.inl (c1 _ _ f1)) bh he ?_;rw[hek,hev];refine G.mapRange w1 aa U 78 84 kV (.inl (c1 _ _ e1)) ?_;intro ak a5 ei;have j1:g1≠ak:=fun e=>by subst e;rw[Ad _ _ i1,am]at a5;cases a5
  have j2:g2≠ak:=fun e=>by subst e;rw[Ad _ _ i2,br]at a5;cases a5
  have k1:it≠ak:=fun e=>by subst e;rw[Ac]at a5;cases a5
  refine G.l (ι:=List MapEntry×List (Par×Value)) (fun _=>[(2,.p 0 0),(3,.p 1 0),(4,.p 2 0),(5,.p 1001 0),(14,.p 21003 0),(15,.p 21004 0),(94,.v (.pointer (some ⟨it,0,none⟩))),(102,.v (.pointer (some ⟨ak,0,none⟩)))])
   (fun _=>[(0,⟨157,[bV vb,sV va vn vc,bV ay,sV ax b0 az,.v (.map (some v1)),.v (.map (some v2))]⟩),(1,⟨157,[bV wb,sV wa wn wc,bV b3,sV b1 b6 b5,.v (.map (some w1)),.v (.map (some w2))]⟩),(2,⟨157,[bV false,sV none 0 0,bV false,sV none 0 0,.v (.map none),.v (.map none)]⟩),(1001,⟨157,[bV b2,sV a2 x2 c2,bV false,sV E K I,.v (.map (some g1)),.v (.map (some g2))]⟩),(21003,⟨78,[iV p.1,tV p.2]⟩),(21004,⟨84,[bV yb,sV ya yn yc,bV false,sV bl bn bm]⟩)])
   (fun i u' T=>Fs An aa lw i.1 i.2/\T ak=some (.mapIter (some w1) U (Ay i.1) U)/\T it=some (.mapIter (some v1) O (Ay (D++[e])) O)/\T g1=some oB/\∃ Qs:List (Par×Par),Qs.Nodup/\(∀ x:Par×Par,x∈Qs↔(x.1∈L.map (·.1)/\x.2∈lw.map (·.1))\/(x.1=p/\x.2∈i.2.map (·.1)))/\∃ oi,T g2=some oi/\D3 prV KO u' oi (fun k=>base k+Ek F H Qs k) (0+LC.length+LD.length+L.length*lw.length+i.2.length))
   (fun i=>lw.length-i.2.length) ([],[])
   ⟨Fs.nil _ _,Ac _ _ _,by rw[Ad _ _ k1,Ac],by rw[Ad _ _ j1,Ad _ _ i1];exact am,Ps,d7,by intro x;rw[co];simp,aw,by rw[Ad _ _ j2,Ad _ _ i2];exact br,hR⟩ ?_
  rintro J2 ⟨D2,L2⟩ iJ ui mi c0 ⟨iS,ch,bz,bw,Qs,bp,bo,oi,bx,iR⟩;simp only at iS ch bz bw bo bx iR iJ;have c3:=c1.trans c0;refine G.mapNextL Bo.inj ak w1 aa U lw D2 L2 kV kV ch (.inl (c3 _ _ e1)) bj ct ce iS ?done2 ?next2
  case next2 =>
   rintro⟨k,yv⟩ e2 hk hkn he2 hek2 hev2 iS';simp only at hkn hek2 hev2;have hy:=(dc _ hk).1;simp only at hy;obtain⟨zb,za,zn,zc,e9,eb,ea,rfl,_⟩:=hy.opn;have df:(p,k)∉Qs:=fun h=>by
    rcases (bo _).1 h with h|h
    ·exact hpn h.1
    exact hkn h.2
   have al:(Qs++[(p,k)]).Nodup:=by
    rw[A30];exact⟨bp,mV,fun a ha b hb e'=>df (by simp at hb;rw[<-hb,<-e'];exact ha)⟩
   have c5:∀ x:Par×Par,x∈Qs++[(p,k)]↔(x.1∈L.map (·.1)/\x.2∈lw.map (·.1))\/(x.1=p/\x.2∈(L2++[(k,Value.agg #[.bool zb,.slice za zn zc,.bool false,.slice e9 eb ea])]).map (·.1)):=fun x=>by
    obtain⟨x1,x2⟩:=x;rw[A04,bo];simp only[A02,A04,A1t,A38,A07,A2c];constructor
    ·rintro ((h|⟨h1,h2⟩)|⟨h1,h2⟩)
     ·exact .inl h
     ·exact .inr ⟨h1,.inl h2⟩
     exact .inr ⟨h1,.inr h2⟩
    rintro (h|⟨h1,h2|h2⟩)
    ·exact .inl (.inl h)
    ·exact .inl (.inr ⟨h1,h2⟩)
    exact .inr ⟨h1,h2⟩
   refine G.mapEntry ak w1 aa U D2 e2 kV (Ac _ _ _) (.inl (c3 _ _ e1)) bj he2 ?_;rw[hek2,hev2];refine G.c call127 (D7 (hx.mono c3) (hy.mono c3) (SB.ten (ok.a.s p)) (SB.ten (ok.b.s k))) ?_;intro v9 u9 l9 r9;obtain⟨b9,a9,n9,c9,ew,f6,ez,rfl,_⟩:=r9.opn;by_cases bs:p=k
   ·have W:con F H (p,k)=F.s p*H.s k+F.s p*H.s k:=by unfold con;rw[if_pos bs]
    refine G.eqAgg 78 #[.int .i64 p.1,.string (mkS p.2)] #[.int .i64 k.1,.string (mkS k.2)] true kV kV kV (fun w=>by rw[<-decide_eq_true bs];exact Bo.eq p k w)<|G.c call25 (Oo r9 r9 (SB.ten (ds p k)) (SB.ten (ds p k))) ?_;intro f8 f7 dq du;obtain⟨ex,eu,f5,ey,ec,et,ed,rfl,_⟩:=du.opn;refine G.callG _ _ kV kV call148 (g:=g2) (o:=oi) (by rw[Ad _ _ j2];exact bx)
     (Hb (g1:=some g1) (y1:=b2) (y2:=(a2,x2,c2)) (y3:=false) (y4:=(E,K,I)) (p:=p) (r:=k) (iR.mono (l9.trans dq)) du (by have:=dr (p,k);rw[W]at this;exact this) (ae Qs bp _) (by
      have:=ae (Qs++[(p,k)]) al (Aw p k);rw[Jq,if_pos rfl,W]at this;rw[show (F.s p*H.s k+F.s p*H.s k)+(base (Aw p k)+Ek F H Qs (Aw p k))=base (Aw p k)+((F.s p*H.s k+F.s p*H.s k)+Ek F H Qs (Aw p k)) by grind];exact this)) ?_
    intro v8 u8 o8 l8 r8;refine G.b (iJ (D2++[e2],L2++[(k,_)]) _ _ _ cV ((c0.trans (l9.trans dq)).trans l8)
     ⟨iS',by rw[Ad _ _ (Ne.symm j2),Ac],by rw[Ad _ _ (Ne.symm i2),Ad _ _ k1];exact bz,by rw[Ad _ _ aj,Ad _ _ j1];exact bw,Qs++[(p,k)],al,c5,o8,Ac _ _ _,?_⟩ (by have:=iS'.len;simp at this;dsimp only;simp;omega))
    refine (r8.congr fun j=>?_).up (by simp[A21]);rw[Jq,W];unfold Md;by_cases e:j=Aw p k
    ·rw[if_pos e,if_pos e,e];grind
    rw[if_neg e,if_neg e]
   have W:con F H (p,k)=F.s p*H.s k:=by unfold con;rw[if_neg bs]
   refine G.eqAgg 78 #[.int .i64 p.1,.string (mkS p.2)] #[.int .i64 k.1,.string (mkS k.2)] false kV kV kV (fun w=>by rw[<-decide_eq_false bs];exact Bo.eq p k w)<|G.callG _ _ kV kV call148 (g:=g2) (o:=oi) (by rw[Ad _ _ j2];exact bx)
    (Hb (g1:=some g1) (y1:=b2) (y2:=(a2,x2,c2)) (y3:=false) (y4:=(E,K,I)) (p:=p) (r:=k) (iR.mono (l9)) r9 (by have:=dr (p,k);rw[W]at this;exact this) (ae Qs bp _) (by
     have:=ae (Qs++[(p,k)]) al (Aw p k);rw[Jq,if_pos rfl,W]at this;rw[show (F.s p*H.s k)+(base (Aw p k)+Ek F H Qs (Aw p k))=base (Aw p k)+((F.s p*H.s k)+Ek F H Qs (Aw p k)) by grind];exact this)) ?_
   intro v8 u8 o8 l8 r8;refine G.b (iJ (D2++[e2],L2++[(k,_)]) _ _ _ cV ((c0.trans (l9)).trans l8)
    ⟨iS',by rw[Ad _ _ (Ne.symm j2),Ac],by rw[Ad _ _ (Ne.symm i2),Ad _ _ k1];exact bz,by rw[Ad _ _ aj,Ad _ _ j1];exact bw,Qs++[(p,k)],al,c5,o8,Ac _ _ _,?_⟩ (by have:=iS'.len;simp at this;dsimp only;simp;omega))
   refine (r8.congr fun j=>?_).up (by simp[A21]);rw[Jq,W];unfold Md;by_cases e:j=Aw p k
   ·rw[if_pos e,if_pos e,e];grind
   rw[if_neg e,if_neg e]
  case done2 =>
  intro cp;refine G.b (hJ (D++[e],L++[(p,_)]) _ _ _ cV (l6.trans c0) ⟨hS',bz,bw,Qs,bp,fun x=>?_,oi,bx,iR.up ?_⟩ (by have:=hS'.len;simp at this;dsimp only;simp;omega))
  ·rw[bo];simp only[A02,A04,A1t,A38,A07];constructor
   ·rintro (h|⟨h1,h2⟩)
    ·exact⟨.inl h.1,h.2⟩
    obtain⟨y,hy,e'⟩:=A0r.1 h2;exact⟨.inr h1,A0r.2 ⟨y,iS.sub y hy,e'⟩⟩
   rintro⟨h1|h1,h2⟩
   ·exact .inl ⟨h1,h2⟩
   obtain⟨y,hy,e'⟩:=A0r.1 h2;exact .inr ⟨h1,A0r.2 ⟨y,cp y hy,e'⟩⟩
  have:=iS.len;simp only[A03,A1y,A3q,A1m];omega
 case done1 =>
 intro z;refine G.drop ((PH.mt.upd g1 oB).upd g2 aw) kV (fun g o hg=>?_) ?_
 ·by_cases e:g=g2
  ·subst e;rw[Ac]at hg;cases hg;exact br
  rw[Ad _ _ e]at hg;by_cases e:g=g1
  ·subst e;rw[Ac]at hg;cases hg;exact am
  rw[Ad _ _ e]at hg;cases hg
 refine G.r (.agg #[.bool b2,.slice a2 x2 c2,.bool false,.slice E K I,.map (some g1),.map (some g2)]) ⟨b2,a2,x2,c2,false,E,K,I,g1,g2,oB,aw,rfl,r5.mono ((((lA.trans lB).trans lC).trans lD).trans l6),aj,rfl,(e5.mono l6).up oV,(hR.congr fun k=>?_).up ?_⟩
 ·rw[Amk F H d7 (fun p q h1 h2=>(co _).2 ⟨?_,?_⟩) k,bf]
  ·rfl
  ·have:p∈lv.map (·.1):=A2h fun h=>h1 (di p h);obtain⟨y,hy,e'⟩:=A0r.1 this;exact A0r.2 ⟨y,z y hy,e'⟩
  exact A2h fun h=>h2 (dk q h)
 have h1:=V.len;have h2:L.length*lw.length<=N*M:=A2p oV e7;omega
section
variable {p q:Par×Par}{κ:Type}
def Arf {κ:Type}{c:κ->κ->Int}(z:Ord c){S:List (κ×Rat)}{k:κ}{q:Rat}{n:Nat}(K:D5 c (S.map (·.1)))(N:k∉S.map (·.1))
 (F:∀ j x,j<n->S[j]?=some x->c x.1 k<0) (H:∀ x,S[n]?=some x->¬ c x.1 k<0):D5 c ((S.take n++[(k,q)]++S.drop n).map (·.1)):=by
 have h:D5 c ((S.take n).map (·.1)++(S.drop n).map (·.1)):=by rw[<-A02,A4g];exact K
 unfold D5 at h⊢;rw[A4z]at h;obtain⟨Q,E,R⟩:=h;have I:∀ a∈(S.take n).map (·.1),c a k<0:=fun a g=>by
  obtain⟨x,t,rfl⟩:=A0r.1 g;obtain⟨j,L,rfl⟩:=A2a t;rw[A0q]at L;refine F j _ oV ?_;rw[A7p,A0i oV]
 have J:∀ b∈(S.drop n).map (·.1),c k b<0:=by
  cases hd:S.drop n with
  |nil=>intro b d;simp at d
  |cons x B =>
   rw[hd,A1t,A5j]at E;have t:S[n]?=some x:=by
    have:=congrArg (fun l=>l[0]?) hd;simpa using this
   have C:x.1≠k:=fun e=>N (A0r.2 ⟨x,A0w t,e⟩);have T:=H x t;have h0:c k x.1<0:=by
    have O:=z.sym k x.1;have U:c x.1 k≠0:=fun e=>C (z.eq _ _ e);rw[O];omega
   intro b d;rw[A1t,A0v]at d;rcases d with rfl|d
   ·exact h0
   exact z.trans _ _ _ h0 (E.1 b d)
 rw[A02,A02,A4z,A4z];refine⟨⟨Q,mV,fun a g b d=>?_⟩,E,fun a g b d=>?_⟩
 ·simp at d;subst d;exact I a g
 rcases A04.1 g with g|g
 ·exact R a g b d
 simp at g;subst g;exact J b d
def Vi {α:Type}{S:List α}{x y:α}{n:Nat}:y∈S.take n++[x]++S.drop n↔y∈S\/y=x:=by
 have h:y∈S↔y∈S.take n\/y∈S.drop n:=by rw[<-A04,A4g]
 rw[h];simp only[A04,A07];constructor
 ·rintro ((a|a)|a)
  ·exact .inl (.inl a)
  ·exact .inr a
  exact .inl (.inr a)
 rintro ((a|a)|a)
 ·exact .inl (.inl a)
 ·exact .inr a
 exact .inl (.inr a)
structure Rz {κ:Type}(c:κ->κ->Int)(f:κ->Rat)(L:List κ)(S:List (κ×Rat)):Prop where
 srt:D5 c (S.map (·.1))
 val:∀ p∈S,p.2=f p.1/\p.2≠0
 mem:∀ k,k∈S.map (·.1)↔k∈L/\f k≠0
def Rz.nil {κ:Type}{c:κ->κ->Int}{f:κ->Rat}:Rz c f [] []:=⟨List.Pairwise.nil,fun p hp=>by simp at hp,fun k=>mV⟩
def Rz.skip {c:κ->κ->Int}{f:κ->Rat}{L:List κ}{S:List (κ×Rat)}{k:κ}(h:Rz c f L S)(h0:f k=0):Rz c f (L++[k]) S:=⟨h.srt,h.val,fun j=>by
 rw[h.mem,A04,A07];constructor
 ·rintro⟨a,b⟩;exact⟨.inl a,b⟩
 rintro⟨a|rfl,b⟩
 ·exact⟨a,b⟩
 exact absurd h0 b⟩
def Rz.put {κ:Type}{c:κ->κ->Int}(z:Ord c){f:κ->Rat}{L:List κ}{S:List (κ×Rat)}{k:κ}{n:Nat}(h:Rz c f L S)(h0:f k≠0)(E:k∉L)
 (g:∀ j x,j<n->S[j]?=some x->c x.1 k<0) (t:∀ x,S[n]?=some x->¬ c x.1 k<0):Rz c f (L++[k]) (S.take n++[(k,f k)]++S.drop n) :=
 ⟨Arf z h.srt (fun e=>E ((h.mem k).1 e).1) g t,fun p hp=>by
  rcases Vi.1 hp with e|rfl
  ·exact h.val p e
  ·exact⟨rfl,h0⟩,fun j=>by
  have:=h.mem j;constructor
  ·intro C;obtain⟨p,hp,rfl⟩:=A0r.1 C;rcases Vi.1 hp with e|rfl
   ·obtain⟨a,b⟩:=this.1 (A0r.2 ⟨p,e,rfl⟩);exact⟨A3d _ a,b⟩
   exact⟨mV,h0⟩
  rintro⟨a,b⟩;rcases A04.1 a with e|e
  ·obtain⟨p,hp,d⟩:=A0r.1 (this.2 ⟨e,b⟩);exact A0r.2 ⟨p,Vi.2 (.inl hp),d⟩
  rw[A07]at e;exact A0r.2 ⟨(k,f k),Vi.2 (.inr rfl),e.symm⟩⟩
def Rz.can {c:κ->κ->Int}{f:κ->Rat}{L:List κ}{S:List (κ×Rat)}(h:Rz c f L S)(d:∀ k,k∉L->f k=0):Can c f S:=⟨h.srt,h.val,fun k g=>by
 rcases Baf (k∈L) with e|e
 ·exact A2h fun j=>g ((h.mem k).2 ⟨e,j⟩)
 exact d k e⟩
def Aui (h:Bf p.1 q.1<0):Nk p q<0:=by unfold Nk;rw[if_pos oV];exact h
def Ask (h:¬ Bf p.1 q.1<0)(d:p.1≠q.1):¬ Nk p q<0:=by
 have g:Bf p.1 q.1≠0:=fun e=>d (Dl.eq _ _ e);unfold Nk;rw[if_pos g];exact h
def Asm (h:p.1=q.1):Nk p q=Bf p.2 q.2:=by unfold Nk;rw[h,Dl.refl,if_neg mV]
def Qe {u:PH}(x y:(Par×Par)×Rat)(r:Bool)(h:decide (Nk x.1 y.1<0)=r):Fn0 prog 126 [D6 x,D6 y] u fun v _=>v=.bool r:=by
 obtain⟨⟨⟨d,e⟩,z,C⟩,q⟩:=x;obtain⟨⟨⟨g,j⟩,E,F⟩,K⟩:=y;refine Fn0.o func126 ?_;by_cases n:Bf (d,e) (g,j)<0
 ·rw[decide_eq_true (Aui n)]at h;subst h;refine G.c call125 (Ev (d,e) (g,j) true (decide_eq_true n)) ?_;rintro J I H rfl;exact G.r (.bool true) ⟨rfl,rfl⟩
 refine G.c call125 (Ev (d,e) (g,j) false (decide_eq_false n)) ?_;rintro J I H rfl;by_cases t:((d,e):Par)=(g,j)
 ·refine G.eqAgg 78 #[.int .i64 d,.string (mkS e)] #[.int .i64 g,.string (mkS j)] true kV kV kV (fun w=>by rw[<-decide_eq_true t];exact Bo.eq (d,e) (g,j) w) ?_;rw[Asm t]at h;refine G.c call125 (Ev (z,C) (E,F) r h) ?_;rintro N L l2 rfl;cases r with
  |true=>exact G.r (.bool true) ⟨rfl,rfl⟩
  |false=>exact G.r (.bool false) ⟨rfl,rfl⟩
 rw[decide_eq_false (Ask n t)]at h;subst h;exact G.eqAgg 78 #[.int .i64 d,.string (mkS e)] #[.int .i64 g,.string (mkS j)] false kV kV kV (fun w=>by rw[<-decide_eq_false t];exact Bo.eq (d,e) (g,j) w)<|G.r (.bool false) ⟨rfl,rfl⟩
section
variable {P:Program} [A6 P] {fn:Func} {Post:Ca} {st:List KI×S} {u m:PH}
def G.sliceFromG (a:Option Addr)(n c k sz:Nat)(h:Ak P (adv P st)=.slice (some sz) (.slice a n c) (some (.int .i64 k)) none none)(U:k<=n)(V:n<=c)
 (g:G P fn Post (nx (adv P st) (.slice (if c=k then a else a.map (·.add (k*sz))) (n-k) (c-k))) u m):G P fn Post st u m:=by
 refine G.ask h mV (fun Q o j w hp=>?_) g;obtain⟨t,X,L,H,M,E,J,K,N,O,d⟩:=Jr j;obtain⟨I,T,F,pos,z,C⟩:=o;simp only at E;subst E;unfold Nf at d;split at d
 ·rename_i e hu;have R:(0:Int)<=k/\(k:Int)<=n:=oV;simp only[execOp,J,K,N,O];simp only[Instr.sliceAt,Sem.run_bind,run_underlying hu,Result.andThen_ok,Instr.slice,Instr.sliceBounds,Instr.sliceBound,asIntOf,Sem.run_pure,if_true,Option.isSome,Sem.run_ite,Bg d,R,and_self,A2r]
 cases d
end
end
section
def ElP.fld {u:PH}{b e j:Nat}{xs:Array Value}{x:Value}(h:ElP u b e (.agg xs))(n:xs[j]?=some x)(g:x.cells = #[x]):ElP u b (e+j) x:=h.sub fun i y d=>by
 rw[g]at d
 match i,d with
 |0,d=>simp at d;subst d;exact n
 |i+1,d=>simp at d
def Arh (P:Program):List KI×S->List Value->List KI×S
 |st,[]=>st
 |st,v::l=>Arh P (nx (adv P st) v) l
section
variable {P:Program} [A6 P] {fn:Func} {Post:Ca} {st:List KI×S} {u m:PH}
def G.joinF {ι:Type}(f:List KI×S->List KI×S)(T:ι->List (Nat×SV))(B:ι->List (Nat×Blk))(h:ι->PH->PH->Prop)(I:∀ i,T3 (T i) (B i)=true)(J:G2 (Gr P 200 (f st)).1=true)
 (j:∀ i e g,PH.le u e->h i e g->G P fn Post ((Gr P 200 (f st)).1,S.of (Gr P 200 (f st)).2.n (T i) (B i)) e g)
 (k:(∀ i d e g,(Gr P 200 d).1=(Gr P 200 (f st)).1->Cov (Gr P 200 (f st)).2.n (Gr P 200 d).2 (T i) (B i)->PH.le u e->h i e g->G P fn Post d e g)->G P fn Post st u m):G P fn Post st u m:=by
 refine k fun i d e g C z E F=>?_;have H:Cov (Gr P 200 d).2.n (Gr P 200 d).2 (T i) (B i):=⟨rfl,z.t,z.b⟩;refine G.canon (T i) (B i) (by rw[C];exact J) (I i) H ?_;rw[C,z.n];exact j i e g E F
end
def Ad5 {L:List (List UInt8)}(h:L.Nodup){i k:Nat}{x y:List UInt8}(z:L[i]?=some x)(C:L[k]?=some y)(d:k≠i):y≠x:=fun e=>by
 subst e;obtain⟨g,j⟩:=A0o.1 z;obtain⟨n,t⟩:=A0o.1 C;rcases Nat.lt_or_gt_of_ne d with e|e
 ·exact absurd (t.trans j.symm) (A3c.1 h k i n g e)
 exact absurd (j.trans t.symm) (A3c.1 h i k g n e)
def R6 {u:PH}{s:List UInt8}(h:Kh s=true):Fn0 prog 123 [.string (mkS s)] u fun v _=>v=.bool true:=by
 obtain⟨z,C⟩:=Aaq h;obtain⟨c0,e⟩:∃ c,s[0]?=some c:=⟨_,A0i oV⟩;have E:=Xz h e;refine Fn0.o func123<|G.eF s.length 0<|G.gF s.length 12<|G.idxS s 0 c0 kV e<|G.cmpG .lss .u8 (c0.toNat:Int) 97 false kV rfl (by simp only[C8,decide_eq_false_iff_not];omega)<|G.idxS s 0 c0 kV e<|G.cmpG .gtr .u8 (c0.toNat:Int) 122 false kV rfl (by simp only[C8,decide_eq_false_iff_not];omega)<|G.l (ι:=Nat) (fun i=>[(0,tV s),(3,iV i)]) (fun _=>[])
  (fun i L F=>i<=s.length/\F=PH.mt) (fun i=>s.length-i) 0 ⟨oV,rfl⟩ ?_
 rintro J i g N K l2 ⟨H,rfl⟩;by_cases j:i<s.length
 ·refine G.lT i s.length ?_;obtain⟨b,d⟩:∃ b,s[i]?=some b:=⟨_,A0i j⟩;have I:=Xz h d;refine G.idxS s i b kV d ?_;by_cases t:97<=b.toNat
  ·exact G.cmpG .geq .u8 (b.toNat:Int) 97 true kV rfl (by simp only[C8,decide_eq_true_eq];omega)<|G.idxS s i b kV d<|G.cmpG .leq .u8 (b.toNat:Int) 122 true kV rfl (by simp only[C8,decide_eq_true_eq];omega)<|G.i i<|G.b (g (i+1) _ _ _ cV l2 ⟨oV,rfl⟩ oV)
  refine G.cmpG .geq .u8 (b.toNat:Int) 97 false kV rfl (by simp only[C8,decide_eq_false_iff_not];omega)<|G.idxS s i b kV d ?_;by_cases n:48<=b.toNat
  ·exact G.cmpG .geq .u8 (b.toNat:Int) 48 true kV rfl (by simp only[C8,decide_eq_true_eq];omega)<|G.idxS s i b kV d<|G.cmpG .leq .u8 (b.toNat:Int) 57 true kV rfl (by simp only[C8,decide_eq_true_eq];omega)<|G.i i<|G.b (g (i+1) _ _ _ cV l2 ⟨oV,rfl⟩ oV)
  exact G.cmpG .geq .u8 (b.toNat:Int) 48 false kV rfl (by simp only[C8,decide_eq_false_iff_not];omega)<|G.idxS s i b kV d<|G.cmpG .eql .u8 (b.toNat:Int) 45 true kV rfl (by simp only[C8,decide_eq_true_eq];omega)<|G.i i<|G.b (g (i+1) _ _ _ cV l2 ⟨oV,rfl⟩ oV)
 obtain rfl:i=s.length:=oV;exact G.lF s.length s.length<|G.r (.bool true) ⟨rfl,rfl⟩
def S8 {u:PH}{v:Value}{T:List (List UInt8×Nat)}{R:List Bw}{F:List Ao}{lab:Int}(h:Ic u v T R F lab)(ok:B2 u T R F lab) :
 Fn0 prog 53 [v] u fun r _=>r=.int .i64 0:=by
 obtain⟨xa,O,xb,U,xe,Y,rfl,hT,hR,hF⟩:=h;have t1:=ok.t1;have t2:=ok.t2;have r1:=ok.r1;have r2:=ok.r2;have f2:=ok.f2;have lo:=ok.l1;have hi:lab<T.length:=by
  rcases A43 lab 0 with ap|bf
  ·omega
  obtain⟨n,hn⟩:=ok.l2 lab.toNat oV;obtain⟨hk,_⟩:=A0o.1 hn;omega
 refine Fn0.o func53<|G.eF T.length 0<|G.gF T.length 12<|G.eF R.length 0<|G.gF R.length 6<|G.gF F.length 8<|G.l (ι:=Nat) (fun i=>[(1,.p 0 0),(49,sV xa T.length O),(50,iV T.length),(51,iV i)])
  (fun _=>[(0,⟨28,[sV xa T.length O,sV xb R.length U,sV xe F.length Y,iV lab]⟩)])
  (fun i u' K=>i<=T.length/\K=PH.mt) (fun i=>T.length-i) 0 ⟨oV,rfl⟩ ?_
 rintro J i hJ u1 m1 l1 ⟨bn,rfl⟩;by_cases ap:i<T.length
 ·refine G.lT i T.length ?_;obtain⟨x,am⟩:∃ x,T[i]?=some x:=⟨_,A0i ap⟩;have b5:=A0w am;obtain⟨bh,bi⟩:=ok.att.kind x b5;have t:=ok.att.names.word x.1 (A0r.2 ⟨x,b5,rfl⟩);have Q:(T.map (·.1))[i]?=some x.1:=by rw[A0n,am];rfl
  obtain⟨H,N,rfl,ea⟩:=Ab.at' (hT.mono l1) (j:=i) (e:=Ia x) (by simp[am]);obtain⟨xn,xk⟩:=x;simp only at bh bi t Q;refine G.a H N T.length O i 2 ap<|G.lU (some 2) H (N+i*2) (.agg #[.string (mkS xn),.int .i64 xk]) ea<|G.c call123 (R6 t) ?_;rintro v2 u2 l2 rfl;refine G.l (ι:=Nat) (fun k=>[(1,.p 0 0),(3,iV i),(4,.p 5003 0),(5,iV k),(49,sV (some ⟨H,N,none⟩) T.length O),(50,iV T.length),(51,iV i)])
   (fun _=>[(0,⟨28,[sV (some ⟨H,N,none⟩) T.length O,sV xb R.length U,sV xe F.length Y,iV lab]⟩),(5003,⟨94,[tV xn,iV xk]⟩)])
   (fun k u' K=>k<=i/\K=PH.mt) (fun k=>i-k) 0 ⟨oV,rfl⟩ ?_
  rintro J2 k z u3 m3 l3 ⟨hk,rfl⟩;by_cases an:k<i
  ·refine G.lT k i ?_;obtain⟨y,a0⟩:∃ y,T[k]?=some y:=⟨_,A0i oV⟩;have a4:(T.map (·.1))[k]?=some y.1:=by rw[A0n,a0];rfl
   have a9:=Ad5 ok.att.names.nodup Q a4 oV;obtain⟨_,_,e',ek⟩:=Ab.at' (hT.mono ((l1.trans l2).trans l3)) (j:=k) (e:=Ia y) (by simp[a0]);cases e';exact G.a H N T.length O k 2 oV<|G.f 94 H (N+k*2) 0 0<|G.lU none H (N+k*2+0) (.string (mkS y.1)) (ek.fld rfl rfl)<|G.w y.1 xn a9<|G.i k<|G.b (z (k+1) _ _ _ cV l3 ⟨oV,rfl⟩ oV)
  obtain rfl:k=i:=oV;exact G.lF k k<|G.lF xk 1<|G.gF xk 3<|G.i k<|G.b (hJ (k+1) _ _ _ cV ((l1.trans l2).trans l3) ⟨oV,rfl⟩ oV)
 obtain rfl:i=T.length:=oV;refine G.lF T.length T.length ?_;clear hJ;refine G.make 4 1 1 (.bool false) T.length kV rfl rfl oV oV oV ?_;rintro v1 mA ar ⟨ad,rfl⟩;obtain⟨g,rfl,_⟩:=ar.some';refine G.l (ι:=Nat×List Bool) (fun i=>[(1,.p 0 0),(6,sV (some ⟨g,0,none⟩) T.length T.length),(88,sV xb R.length U),(89,iV R.length),(90,iV i.1)])
  (fun _=>[(0,⟨28,[sV xa T.length O,sV xb R.length U,sV xe F.length Y,iV lab]⟩)])
  (fun i u' K=>i.1<=R.length/\i.2.length=T.length/\(∀ r∈R.take i.1,∀ q∈r.2.1,i.2[q]?=some true)/\Af PH.mt K (.slice (some ⟨g,0,none⟩) T.length T.length) 4 1 (i.2.map Value.bool)) (fun i=>R.length-i.1) (0,List.replicate T.length false)
  ⟨mV,mV,mV,by rw[A8k];exact ar⟩ ?_
 rintro J ⟨i,L⟩ hJ u2 m2 l2 ⟨bg,hL,Z,ai⟩;simp only at bg hL Z ai hJ;have aa:=l1.trans l2;by_cases ae:i<R.length
 ·refine G.lT i R.length ?_;obtain⟨q,a7⟩:∃ q,R[i]?=some q:=⟨_,A0i ae⟩;have E:=A0w a7;have b3:R.take (i+1)=R.take i++[q]:=by rw[A0t,a7];rfl
  have t:=ok.rel.names.word q.1 (A0r.2 ⟨q,E,rfl⟩);have Q:(R.map (·.1))[i]?=some q.1:=by rw[A0n,a7];rfl
  obtain⟨H,N,rfl,ea⟩:=Ab.at' (hR.mono aa) (j:=i) (e:=Ai6 q) (by simp[a7]);obtain⟨qs,d,qa,qc⟩:=q;have a9:d≠[]:=ok.rel.ne _ E;have bj:∀ p∈d,p<T.length:=ok.rel.lt _ E;have bu:d.length<=1000:=ok.rel.len _ E;have aw:∀ (k:Nat) x y,d[k]?=some x->d[k+1]?=some y->x<y:=ok.rel.asc _ E;have b2:Ab u2 (.slice qa d.length qc) 1 (Ai d):=(ok.rel.at' _ E).mono aa;have bt:0<d.length:=A4o.2 a9;simp only at t Q;refine G.a H N R.length U i 2 ae<|G.lU (some 2) H (N+i*2) (.agg #[.string (mkS qs),.slice qa d.length qc]) ea<|G.c call123 (R6 t) ?_;rintro v3 u3 l3 rfl;refine G.l (ι:=Nat) (fun k=>[(1,.p 0 0),(6,sV (some ⟨g,0,none⟩) T.length T.length),(7,iV i),(8,.p 19003 0),(9,iV k),(88,sV (some ⟨H,N,none⟩) R.length U),(89,iV R.length),(90,iV i)])
   (fun _=>[(0,⟨28,[sV xa T.length O,sV (some ⟨H,N,none⟩) R.length U,sV xe F.length Y,iV lab]⟩),(19003,⟨96,[tV qs,sV qa d.length qc]⟩)])
   (fun k u' K=>k<=i/\K=m2) (fun k=>i-k) 0 ⟨oV,rfl⟩ ?_
  rintro J2 k z u4 m4 l4 ⟨hk,rfl⟩;by_cases an:k<i
  ·refine G.lT k i ?_;obtain⟨y,a0⟩:∃ y,R[k]?=some y:=⟨_,A0i oV⟩;have a4:(R.map (·.1))[k]?=some y.1:=by rw[A0n,a0];rfl
   have az:=Ad5 ok.rel.names.nodup Q a4 oV;obtain⟨_,_,e',ek⟩:=Ab.at' (hR.mono ((aa.trans l3).trans l4)) (j:=k) (e:=Ai6 y) (by simp[a0]);cases e';exact G.a H N R.length U k 2 oV<|G.f 96 H (N+k*2) 0 0<|G.lU none H (N+k*2+0) (.string (mkS y.1)) (ek.fld rfl rfl)<|G.w y.1 qs az<|G.i k<|G.b (z (k+1) _ _ _ cV l4 ⟨oV,rfl⟩ oV)
  obtain rfl:k=i:=oV;refine G.lF k k ?_;clear z;refine G.eF d.length 0<|G.l (ι:=Nat×List Bool) (fun j=>[(1,.p 0 0),(6,sV (some ⟨g,0,none⟩) T.length T.length),(8,.p 19003 0),(88,sV (some ⟨H,N,none⟩) R.length U),(89,iV R.length),(90,iV k),(118,sV qa d.length qc),(119,iV d.length),(120,iV j.1)])
   (fun _=>[(0,⟨28,[sV xa T.length O,sV (some ⟨H,N,none⟩) R.length U,sV xe F.length Y,iV lab]⟩),(19003,⟨96,[tV qs,sV qa d.length qc]⟩)])
   (fun j u' K=>j.1<=d.length/\j.2.length=T.length/\(∀ r∈R.take k,∀ q∈r.2.1,j.2[q]?=some true)/\(∀ q∈d.take j.1,j.2[q]?=some true)/\Af PH.mt K (.slice (some ⟨g,0,none⟩) T.length T.length) 4 1 (j.2.map Value.bool)) (fun j=>d.length-j.1) (0,L)
   ⟨mV,hL,Z,mV,ai⟩ ?_
  rintro J2 ⟨j,L2⟩ z u6 m6 l6 ⟨hj,al,V,I,aj⟩;simp only at hj al V I aj z;have b6:=(l3.trans l4).trans l6;have a5:=b2.mono b6;by_cases ag:j<d.length
  ·refine G.lT j d.length ?_;obtain⟨p,aq⟩:∃ p,d[j]?=some p:=⟨_,A0i ag⟩;have bk:p<T.length:=bj _ (A0w aq);have b4:d.take (j+1)=d.take j++[p]:=by rw[A0t,aq];rfl
   obtain⟨bq,oq,rfl,eq⟩:=Ab.at' a5 (j:=j) (e:=.int .i64 p) (by simp[Ai,aq]);refine G.a bq oq d.length qc j 1 ag<|G.lU none bq (oq+j*1) (.int .i64 p) eq<|G.lF p 0<|G.hF p T.length<|G.a g 0 T.length T.length p 1 bk<|G.storeA 1 PH.mt (L2.map Value.bool) g T.length T.length p (.bool true) kV aj (by rw[A0k];omega) rfl rfl ?_;intro m7 au;rw[Qq]at au;refine G.i j ?_;have a1:∀ q,L2[q]?=some true->(L2.set p true)[q]?=some true:=fun q X=>by
    rw[A2g];split
    ·subst_vars;rw[if_pos oV]
    exact X
   exact G.b (z (j+1,L2.set p true) _ _ _ cV l6 ⟨dV,by simp[al],fun r hr q X=>a1 q (V r hr q X),by
    intro q X;dsimp only at X⊢;rw[b4,A04,A07]at X;rcases X with X|rfl
    ·exact a1 q (I q X)
    rw[A2g];simp;omega,au⟩ dV)
  obtain rfl:j=d.length:=oV;refine G.lF d.length d.length ?_;clear z;rw[A05]at I;refine G.l (ι:=Nat) (fun j=>[(1,.p 0 0),(6,sV (some ⟨g,0,none⟩) T.length T.length),(8,.p 19003 0),(12,iV (j+1:Nat)),(88,sV (some ⟨H,N,none⟩) R.length U),(89,iV R.length),(90,iV k)])
   (fun _=>[(0,⟨28,[sV xa T.length O,sV (some ⟨H,N,none⟩) R.length U,sV xe F.length Y,iV lab]⟩),(19003,⟨96,[tV qs,sV qa d.length qc]⟩)])
   (fun j u' K=>j+1<=d.length/\K=m6) (fun j=>d.length-j) 0
   ⟨oV,rfl⟩ ?_
  rintro J3 j b9 u8 m8 l8 ⟨br,rfl⟩;have a6:=a5.mono l8;by_cases ah:j+1<d.length
  ·refine G.lT (j+1:Nat) d.length ?_;obtain⟨C,b0⟩:∃ p,d[j]?=some p:=⟨_,A0i oV⟩;obtain⟨p2,b1⟩:∃ p,d[j+1]?=some p:=⟨_,A0i ah⟩;have a3:=aw j _ _ b0 b1;obtain⟨bq,oq,rfl,b8⟩:=Ab.at' a6 (j:=j+1) (e:=.int .i64 p2) (by simp[Ai,b1]);obtain⟨_,_,e',b7⟩:=Ab.at' a6 (j:=j) (e:=.int .i64 C) (by simp[Ai,b0]);cases e';exact G.a bq oq d.length qc (j+1) 1 ah<|G.lU none bq (oq+(j+1)*1) (.int .i64 p2) b8<|G.s (j+1:Nat) 1 j<|G.a bq oq d.length qc j 1 oV<|G.lU none bq (oq+j*1) (.int .i64 C) b7<|G.kF p2 C<|G.p (j+1:Nat) 1 (j+1+1:Nat)<|G.b (b9 (j+1) _ _ _ cV l8 ⟨oV,rfl⟩ oV)
  refine G.lF (j+1:Nat) d.length<|G.i k ?_;exact G.b (hJ (k+1,L2) _ _ _ cV ((l2.trans b6).trans l8) ⟨dV,al,by
   intro r hr q X;dsimp only at hr X⊢;rw[b3,A04,A07]at hr;rcases hr with hr|rfl
   ·exact V r hr q X
   exact I q X,aj⟩ dV)
 obtain rfl:i=R.length:=oV;refine G.lF R.length R.length ?_;clear hJ;rw[A05]at Z;refine G.l (ι:=Nat) (fun i=>[(1,.p 0 0),(6,sV (some ⟨g,0,none⟩) T.length T.length),(156,sV (some ⟨g,0,none⟩) T.length T.length),(157,iV T.length),(158,iV i)])
  (fun _=>[(0,⟨28,[sV xa T.length O,sV xb R.length U,sV xe F.length Y,iV lab]⟩)])
  (fun i u' K=>i<=T.length/\K=m2) (fun i=>T.length-i) 0 ⟨oV,rfl⟩ ?_
 rintro J i hJ u3 m3 l3 ⟨bo,rfl⟩;by_cases a3:i<T.length
 ·refine G.lT i T.length ?_;have bd:L[i]?=some true:=by
   obtain⟨r,hr,X⟩:=ok.rel.all i a3;exact Z r hr i X
  exact G.a g 0 T.length T.length i 1 a3<|G.lM none g (0+i*1) (.bool true) (ai.el (by rw[A0n,bd];rfl))<|G.i i<|G.b (hJ (i+1) _ _ _ cV l3 ⟨oV,rfl⟩ oV)
 obtain rfl:i=T.length:=oV;refine G.lF T.length T.length ?_;clear hJ;have bl:=aa.trans l3;refine G.l (ι:=Nat) (fun i=>[(1,.p 0 0),(6,sV (some ⟨g,0,none⟩) T.length T.length),(166,sV xe F.length Y),(167,iV F.length),(168,iV i)])
  (fun _=>[(0,⟨28,[sV xa T.length O,sV xb R.length U,sV xe F.length Y,iV lab]⟩)])
  (fun i u' K=>i<=F.length/\K=m3) (fun i=>F.length-i) 0 ⟨oV,rfl⟩ ?_
 rintro J i hJ u4 m4 l4 ⟨bp,rfl⟩;have ac:=bl.trans l4;by_cases af:i<F.length
 ·refine G.lT i F.length ?_;obtain⟨f,ak⟩:∃ f,F[i]?=some f:=⟨_,A0i af⟩;have be:=A0w ak;obtain⟨fn,fk,ax,a2,ay⟩:=ok.feat.ok f be;obtain⟨a8,_⟩:=A0o.1 ax;have Q:(F.map (·.1))[i]?=some f.1:=by rw[A0n,ak];rfl
  obtain⟨fb,fo,rfl,ef⟩:=Ab.at' (hF.mono ac) (j:=i) (e:=C4 f) (by simp[ak]);obtain⟨ab,ao,rfl,ea⟩:=Ab.at' (hT.mono ac) (j:=f.1) (e:=Ia (fn,fk)) (by simp[ax]);obtain⟨C,p2,p3⟩:=f;simp only at a2 ay a8 Q ea;refine G.a fb fo F.length Y i 3 af<|G.lU (some 3) fb (fo+i*3) (.agg #[.int .i64 C,.int .i64 p2,.int .i64 p3]) ef<|G.lF C 0<|G.hF C T.length<|G.joinF (ι:=Unit) (fun st=>Kj prog (Arh prog st [.bool false,.bool true,.bool true,undef,undef,undef,.bool true])) (fun _=>[(1,.p 0 0),(6,sV (some ⟨g,0,none⟩) T.length T.length),(15,iV i),(16,.p 50003 0),(166,sV (some ⟨fb,fo,none⟩) F.length Y),(167,iV F.length),(168,iV i)])
   (fun _=>[(0,⟨28,[sV (some ⟨ab,ao,none⟩) T.length O,sV xb R.length U,sV (some ⟨fb,fo,none⟩) F.length Y,iV lab]⟩),(50003,⟨98,[iV C,iV p2,iV p3]⟩)])
   (fun _ u' K=>u'=u4/\K=m4) (fun _=>kV) kV ?tail ?way
  case way =>
   intro W;rcases a2 with ⟨rfl,rfl,bs⟩|⟨rfl,rfl,rfl⟩
   ·refine G.eT (1:Nat) 1 ?_;rcases (by omega:p3=0\/p3=1) with rfl|rfl
    ·refine G.eT (0:Nat) 0<|G.a ab ao T.length O C 2 a8<|G.f 94 ab (ao+C*2) 1 1<|G.lU none ab (ao+C*2+1) (.int .i64 (2:Nat)) (Le ea)<|G.eT (2:Nat) 2<|G.eF (1:Nat) 2<|G.pastI ?_;exact W () _ _ _ kV cV (PH.le_refl _) ⟨rfl,rfl⟩
    refine G.eF (1:Nat) 0<|G.eT (1:Nat) 1<|G.a ab ao T.length O C 2 a8<|G.f 94 ab (ao+C*2) 1 1<|G.lU none ab (ao+C*2+1) (.int .i64 (2:Nat)) (Le ea)<|G.eT (2:Nat) 2<|G.eF (1:Nat) 2<|G.pastI ?_;exact W () _ _ _ kV cV (PH.le_refl _) ⟨rfl,rfl⟩
   refine G.eF (2:Nat) 1<|G.eT (2:Nat) 2<|G.eT (0:Nat) 0<|G.a ab ao T.length O C 2 a8<|G.f 94 ab (ao+C*2) 1 1<|G.lU none ab (ao+C*2+1) (.int .i64 (3:Nat)) (Le ea)<|G.eT (3:Nat) 3<|G.pastI ?_;exact W () _ _ _ kV cV (PH.le_refl _) ⟨rfl,rfl⟩
  rintro _ u5 m5 _ ⟨rfl,rfl⟩;refine G.l (ι:=Nat) (fun k=>[(1,.p 0 0),(6,sV (some ⟨g,0,none⟩) T.length T.length),(15,iV i),(16,.p 50003 0),(19,iV k),(166,sV (some ⟨fb,fo,none⟩) F.length Y),(167,iV F.length),(168,iV i)])
   (fun _=>[(0,⟨28,[sV (some ⟨ab,ao,none⟩) T.length O,sV xb R.length U,sV (some ⟨fb,fo,none⟩) F.length Y,iV lab]⟩),(50003,⟨98,[iV C,iV p2,iV p3]⟩)])
   (fun k u' K=>k<=i/\K=m5) (fun k=>i-k) 0 ⟨oV,rfl⟩ ?_
  rintro J2 k z u6 m6 l6 ⟨hk,rfl⟩;by_cases an:k<i
  ·refine G.lT k i ?_;obtain⟨y,av⟩:∃ y,F[k]?=some y:=⟨_,A0i oV⟩;have a4:(F.map (·.1))[k]?=some y.1:=by rw[A0n,av];rfl
   have a9:y.1≠C:=fun e=>Nat.ne_of_lt an (Apy ok.feat.nodup a4 (by rw[Q,e]));obtain⟨_,_,e',ek⟩:=Ab.at' (hF.mono (ac.trans l6)) (j:=k) (e:=C4 y) (by simp[av]);cases e';exact G.a fb fo F.length Y k 3 oV<|G.f 98 fb (fo+k*3) 0 0<|G.lU none fb (fo+k*3+0) (.int .i64 y.1) (ek.fld rfl rfl)<|G.eF y.1 C<|G.i k<|G.b (z (k+1) _ _ _ cV l6 ⟨oV,rfl⟩ oV)
  obtain rfl:k=i:=oV;exact G.lF k k<|G.eF' C lab ay<|G.i k<|G.b (hJ (k+1) _ _ _ cV (l4.trans l6) ⟨oV,rfl⟩ oV)
 obtain rfl:i=F.length:=oV;refine G.lF F.length F.length<|G.drop PH.mt kV (PH.mt_le _)<|G.lF lab (-1)<|G.hF lab T.length ?_;rcases A43 lab 0 with bm|bf
 ·exact G.hF lab 0<|G.r (.int .i64 0) ⟨rfl,rfl⟩
 refine G.hT lab 0 ?_;obtain⟨l,rfl⟩:∃ l:Nat,lab=(l:Int):=⟨lab.toNat,oV⟩;obtain⟨n,hn⟩:=ok.l2 l rfl;obtain⟨bb,ob,rfl,eb⟩:=Ab.at' (hT.mono ac) (j:=l) (e:=Ia (n,2)) (by simp[hn]);exact G.a bb ob T.length O l 2 oV<|G.f 94 bb (ob+l*2) 1 1<|G.lU none bb (ob+l*2+1) (.int .i64 (2:Nat)) (Le eb)<|G.nF (2:Nat) 2<|G.r (.int .i64 0) ⟨rfl,rfl⟩
end
section
variable {u:PH}
def Atz {l:List Nat}{i:Nat}(h:i<l.length):l.drop i=l.getD i 0::l.drop (i+1):=by
 rw[A4y h];simp[A0j,A0i h]
def Adh (l:List Nat):∀ k,val (l.drop k)<=val l:=by
 induction l with
 |nil=>intro k;simp
 |cons a l ih =>
  intro k;cases k with
  |zero=>simp
  |succ k =>
   have:=ih k;simp only[List.drop_succ_cons,val];omega
def O9 {z:Int}(hz:z.natAbs<1000000000000000000):Fn0 prog 153 [.string (mkS (Lib.itoa z))] u fun v _=>v=.tuple #[.int .i64 z,.bool true]:=by
 have F:=O8 hz;refine Fn0.o func153<|G.c call206 (Sr F) ?_;rintro v1 u1 l1 rfl;refine G.c call71 (Nl F) ?_;intro v2 u2 l2 k2;obtain⟨b,a,n,c,rfl,P,H⟩:=k2.opn;obtain⟨rfl,hc⟩:=H.len;refine G.c call66 (Acw (n:=4611686018427387904) oV oV) ?_;intro v3 u3 U k3;obtain⟨b',a',n',c',rfl,Y,t⟩:=k3.opn;obtain⟨rfl,Z⟩:=t.len;have I:nl z.natAbs<=400:=Bh F;have T:nl (4611686018427387904:Int).natAbs<=400:=Bh jV;refine G.c call143 (K1 (H.mono U) t oV oV) ?_;rintro v4 u4 l4 rfl;have hs:sgn (((z.natAbs:Nat):Int)-(((4611686018427387904:Int).natAbs:Nat):Int))<=0:=by
  unfold sgn;have:((4611686018427387904:Int).natAbs:Int)=4611686018427387904:=fV;split
  ·omega
  split<;>omega
 refine G.gF (sgn (((z.natAbs:Nat):Int)-(((4611686018427387904:Int).natAbs:Nat):Int))) 0 ?_;have R:(Aa z.natAbs).length<=400:=I;refine G.s ((Aa z.natAbs).length:Int) 1 ((Aa z.natAbs).length-1:Int)<|G.l (ι:=Int×Nat) (fun i=>[(4,.p 3002 0),(6,iV i.2),(7,iV i.1)]) (fun _=>[(3002,⟨82,[bV b,sV a (Aa z.natAbs).length c]⟩)])
  (fun i u' m'=>-1<=i.1/\i.1<(Aa z.natAbs).length/\i.2=val ((Aa z.natAbs).drop (i.1+1).toNat)/\m'=PH.mt) (fun i=>(i.1+1).toNat) (((Aa z.natAbs).length-1:Int),0) ⟨dV,dV,by
   dsimp only;rw[show (((Aa z.natAbs).length:Int)-1+1).toNat=(Aa z.natAbs).length by omega,List.drop_length];rfl,rfl⟩ ?_
 rintro J ⟨i,s⟩ O u5 m5 V ⟨W,X,g,rfl⟩;simp only at W X g O;have C:=Al z.natAbs;by_cases a0:0<=i
 ·obtain⟨k,rfl⟩:∃ k:Nat,i=(k:Int):=⟨i.toNat,oV⟩;have m:k<(Aa z.natAbs).length:=oV;rw[show ((k:Int)+1).toNat=k+1 by omega]at g;have j:=Atz m;have h:=Adh (Aa z.natAbs) k;rw[C,j]at h;simp only[val]at h;rw[<-g]at h;refine G.hT k 0<|G.mul (s:Int) 1000000000 ((s*1000000000:Nat):Int) kV oV oV oV ?_;obtain⟨N,E,rfl,e⟩:=(H.mono ((U.trans l4).trans V)).at m;refine G.a N E (Aa z.natAbs).length c k 1 m<|G.lU none N (E+k*1) (.int .i64 ((Aa z.natAbs).getD k 0:Nat)) e ?_;generalize hg:(Aa z.natAbs).getD k 0=d at j h;refine G.p (s*1000000000:Nat) d (s*1000000000+d:Nat)<|G.s k 1 ((k:Int)-1) ?_;exact G.b (O ((k:Int)-1,s*1000000000+d) _ _ _ cV V ⟨dV,dV,by
   dsimp only;rw[show ((k:Int)-1+1).toNat=k by omega,j];simp only[val];rw[<-g];omega,rfl⟩ dV)
 obtain rfl:i = -1:=oV;refine G.hF (-1) 0 ?_;have K:s=z.natAbs:=by rw[g,show ((-1:Int)+1).toNat=0 by decide,A4v,C]
 subst K;cases b with
 |true =>
  have Q:z<0:=by simpa using P.symm
  exact G.neg ((z.natAbs:Nat):Int) z kV oV oV oV<|G.r (.tuple #[.int .i64 z,.bool true]) ⟨rfl,rfl⟩
 |false =>
  have a1:¬ z<0:=by simpa using P.symm
  have L:((z.natAbs:Nat):Int)=z:=oV;refine G.r (.tuple #[.int .i64 (z.natAbs:Nat),.bool true]) ⟨rfl,by rw[L]⟩
def Axd (z:Int):Ag (z:Rat)=Lib.itoa z:=by
 unfold Ag;simp
def Amp {x:List UInt8×Nat}{t:List UInt8}(C:1<=x.2)(E:x.2<=3)(h:M4 x.2 t):Fn0 prog 78 [Ia x,.string (mkS t)] u fun v _=>v=.bool true:=by
 obtain⟨s,k⟩:=x;simp only at C E h;refine Fn0.o func78<|G.lF k 1<|G.gF k 3 ?_;by_cases g:t = []
 ·exact G.q t [] g<|G.r (.bool true) ⟨rfl,rfl⟩
 refine G.w t [] g ?_;rcases h with e|⟨rfl,I⟩|⟨rfl,z,Q,rfl⟩|⟨rfl,q,H,rfl⟩
 ·exact absurd e g
 ·refine G.eT (3:Nat) 3<|G.c call123 (R6 I) ?_;rintro n m j rfl;exact G.r (.bool true) ⟨rfl,rfl⟩
 ·refine G.eF (1:Nat) 3 ?_;have hp:=Ta (u:=u) (q:=(z:Rat)) ⟨O8 (by simpa using (by omega:z.natAbs<1000000000000000000)),by simp;decide +kernel⟩;rw[Axd]at hp;simp only[Rat.num_intCast,Rat.den_intCast]at hp;refine G.c call152 hp ?_;rintro n m j rfl;refine G.eT (1:Nat) 1<|G.y (Lib.itoa ((1:Nat):Int)) [49] jV<|G.c call153 (O9 (z:=z) oV) ?_;rintro N K l2 rfl;refine G.c call153 (O9 (z:=((1:Nat):Int)) oV) ?_;rintro O L J rfl;exact G.hT z (-1000000000)<|G.kT z 1000000000<|G.kT (1:Nat) 12<|G.r (.bool true) ⟨rfl,rfl⟩
 have d:=H.dat;have P:=d.num;have F:=d.den;refine G.eF (2:Nat) 3<|G.c call152 (Ta d.tx) ?_;rintro n m j rfl;refine G.eF (2:Nat) 1<|G.c call153 (O9 (z:=q.num) oV) ?_;rintro N K l2 rfl;refine G.c call153 (O9 (z:=(q.den:Int)) oV) ?_;rintro O L J rfl;exact G.hT q.num (-1000000000)<|G.kT q.num 1000000000<|G.kT q.den 12<|G.r (.bool true) ⟨rfl,rfl⟩
def Tj {v O:Value}{T:List (List UInt8×Nat)}{R:List Bw}{F:List Ao}{lab:Int}{ss:List (List UInt8)}(h:Y9 u v O T R F lab ss) :
 Fn0 prog 35 [v,O] u fun r _=>r=.int .i64 0:=by
 have C:=fun (P:PH) (l:PH.le u P)=>S8 (h.sch.mono l) (h.ok.mono l);obtain⟨⟨xa,Q,xb,xd,xe,xf,rfl,z,X,V⟩,ok,t,hT⟩:=h;obtain⟨ya,U,rfl⟩:=t.opn;rw[A0k]at t⊢;have L:=hT.len;have t2:=ok.t2;refine Fn0.o func35<|G.c call53 (C u (PH.le_refl _)) ?_;rintro v1 u1 Y rfl;refine G.nF 0 0<|G.nF ss.length T.length<|G.l (ι:=Nat) (fun i=>[(2,.p 0 0),(19,sV ya ss.length U),(20,iV ss.length),(21,iV i)])
  (fun _=>[(0,⟨28,[sV xa T.length Q,sV xb R.length xd,sV xe F.length xf,iV lab]⟩)])
  (fun i P m'=>i<=ss.length/\m'=PH.mt) (fun i=>ss.length-i) 0 ⟨oV,rfl⟩ ?_
 rintro J i W u2 m2 l2 ⟨hi,rfl⟩;have m:=Y.trans l2;by_cases d:i<ss.length
 ·refine G.lT i ss.length ?_;obtain⟨b,n,rfl,e⟩:=R2 (t.mono m) d;refine G.a b n ss.length U i 1 d<|G.lU none b (n+i*1) (.string (mkS (ss.getD i []))) e ?_;have g:T[i]?=some T[i]:=A0i oV;have E:=ok.att.kind T[i] (A0y oV);have H:=hT.val i _ _ g (A0i d);rw[show ss[i]=ss.getD i [] by simp[A0j,A0i d]]at H;obtain⟨I,N,rfl,K⟩:=Ab.at' (z.mono m) (j:=i) (e:=Ia T[i]) (by simp[g]);generalize T[i]=x at g E H K;refine G.a I N T.length Q i 2 oV<|G.lU (some 2) I (N+i*2) (Ia x) K<|G.c call78 (Amp E.1 E.2 H) ?_;rintro v3 u3 Z rfl;exact G.i i<|G.b (W (i+1) _ _ _ cV (l2.trans Z) ⟨oV,rfl⟩ oV)
 obtain rfl:i=ss.length:=oV;exact G.lF ss.length ss.length<|G.r (.int .i64 0) ⟨rfl,rfl⟩
end
section
variable {F:CF}{N b sz:Nat}{es:List Value}{v:Value}
def Azg (u m:PH)(v:Value)(F:CF)(N:Nat):Prop :=
 ∃ b a n c b' a' n' c' g1 g2 o1 o2,v=.agg #[.bool b,.slice a n c,.bool b',.slice a' n' c',.map (some g1),.map (some g2)]/\QP u (.agg #[.bool b,.slice a n c,.bool b',.slice a' n' c']) F.c/\(u g1=some o1\/m g1=some o1)/\(u g2=some o2\/m g2=some o2)/\D3 An KT u o1 F.s N/\D3 prV KO u o2 F.t N
def J7.i {u m:PH}(h:J7 m u v F N):Azg u m v F N:=by
 obtain⟨b,a,n,c,b',d,E,g,g1,g2,H,I,e,j,t,rfl,z,C⟩:=h;exact⟨b,a,n,c,b',d,E,g,g1,g2,H,I,e,j,.inr (by rw[Ad _ _ t,Ac]),.inr (Ac _ _ _),z,C⟩
section
variable {P:Program} [A6 P] {fn:Func} {Post:Ca} {st:List KI×S} {u m:PH}
def G.appendMV (e:TypeId)(sz g:Nat)(z:Value)(m0:PH)(es xs:List Value)(v:Value)(a:Option Addr)(n c:Nat)(h:Ak P (adv P st)=.app (some (e,sz,g,z)) true [v,.slice a n c])(U:z.cells.toList.all Be=true)(H:z.cells.size=sz)(C:0<sz)
 (j:Af m0 m v e sz es) (I:n=xs.length) (T:xs≠[]->∃ b d,a=some ⟨b,d,none⟩/\He m b d sz xs) (R:Bm sz xs) (Q:(es.length+xs.length)*g<=140737488355328) (t:es.length+xs.length<=9223372036854775807)
 (k:∀ K J,Af m0 J K e sz (es++xs)->G P fn Post (nx (adv P st) K) u J):G P fn Post st u m:=by
 cases xs with
 |nil =>
  subst I;obtain⟨L,O,rfl⟩:=j.shape;refine G.append0 e sz g z L a es.length O c h j.cap ?_;exact k _ _ (by rw[A1i];exact j)
 |cons x xs =>
  obtain⟨b,d,rfl,E⟩:=T mV;subst I;exact G.appendM e sz g z m0 es (x::xs) v b d _ c h U H C j E R rfl mV Q t k
end
def Af.els {m0 m:PH}{t:TypeId}{b n c:Nat}(h:Af m0 m (.slice (some ⟨b,0,none⟩) n c) t sz es):He m b 0 sz es:=fun j e d=>h.el d
def He.drop {m:PH}(h:He m b 0 sz es)(k:Nat):He m b (0+k*sz) sz (es.drop k):=fun j e d=>by
 have:=h (k+j) e (by rw[A3m]at d;exact d);rw[A1m,A2e]at this;rw[A2e];exact this
def Amh (l:List (Par×Rat)):Bm 3 (l.map As):=fun e d=>by
 obtain⟨p,_,rfl⟩:=A0r.1 d;exact Gt p _ mV
def Apw (l:List ((Par×Par)×Rat)):Bm 5 (l.map D6):=fun e d=>by
 obtain⟨p,_,rfl⟩:=A0r.1 d;exact Ajw p _ mV
def Sk {q:Rat}:q.num=0↔q=0:=A4d
def And {u m:PH}(h:Azg u m v F N)(sF:CFS F)(hN:N<=1000000) :
 FnK prog 76 [v] u m fun r u'=>Azr u' r F N:=by
 obtain⟨b,a,n,c,b',a',n',c',g1,g2,o1,o2,rfl,hF,bf,bg,s1,s2⟩:=h;obtain⟨l1,⟨es1,C,rfl,ar,aj⟩,bi,al,bz⟩:=s1.at;obtain⟨l2,⟨a2,z,rfl,au,ak⟩,bj,am,ad⟩:=s2.at;have b8:(l1.map (·.1)).Nodup:=Ep.nodup (enc:=An) ⟨es1,C,rfl,ar,aj⟩;have b9:(l2.map (·.1)).Nodup:=Ep.nodup (enc:=prV) ⟨a2,z,rfl,au,ak⟩;have an:∀ {u' m':PH},PH.le u u'->PH.le m m'->u' g1=some (.map es1 C)\/m' g1=some (.map es1 C):=fun a b=>bf.elim (fun e=>.inl (a _ _ e)) (fun e=>.inr (b _ _ e));have ao:∀ {u' m':PH},PH.le u u'->PH.le m m'->u' g2=some (.map a2 z)\/m' g2=some (.map a2 z):=fun a b=>bg.elim (fun e=>.inl (a _ _ e)) (fun e=>.inr (b _ _ e));refine FnK.of func76 kV kV<|G.c call28 (Nh hF (SB.tx sF.c)) ?_;rintro v1 u1 bb rfl;refine G.nF 0 0<|G.mapRange g1 es1 C 78 84 kV (an bb (fun _ _ h=>h)) ?_;intro it bh bx;have aa:∀ o,PH.le m (m.upd it o):=fun o=>I9 o bh;refine G.l (ι:=List MapEntry×List (Par×Value)×List (Par×Rat)×(Option Addr×Nat)) (fun i=>[(1,.p 0 0),(2,.p 1 0),(6,.p 2002 0),(33,.v (.pointer (some ⟨it,0,none⟩)))])
  (fun i=>[(0,⟨157,[bV b,sV a n c,bV b',sV a' n' c',.v (.map (some g1)),.v (.map (some g2))]⟩),(1,⟨34,[tV [],sV none 0 0,sV none 0 0]⟩),(2002,⟨34,[tV (Ag F.c),sV i.2.2.2.1 i.2.2.1.length i.2.2.2.2,sV none 0 0]⟩)])
  (fun i u' m'=>Fs An es1 l1 i.1 i.2.1/\Rz Bf F.s (i.2.1.map (·.1)) i.2.2.1/\i.2.2.1.length<=i.2.1.length/\Af (m.upd it (.mapIter (some g1) C (Ay i.1) C)) m' (.slice i.2.2.2.1 i.2.2.1.length i.2.2.2.2) 80 3 (i.2.2.1.map As))
  (fun i=>l1.length-i.2.1.length) ([],[],[],(none,0))
  ⟨Fs.nil _ _,Rz.nil,A0s _,Af.nil _ _ _⟩ ?_
 rintro J ⟨D,L,S,⟨T,O⟩⟩ hJ u2 m2 a1 ⟨hS,hI,ap,hA⟩;simp only at hS hI ap hA hJ;have K:=bb.trans a1;have aq:m2 it=some (.mapIter (some g1) C (Ay D) C):=hA.see (Ac _ _ _);have ab:PH.le m m2:=fun g o Y=>hA.see (aa _ g o Y);refine G.mapNextL Bo.inj it g1 es1 C l1 D L kV kV aq (an K ab) aj ar b8 hS ?done1 ?next1
 case next1 =>
  rintro⟨k,xv⟩ e hp hkn he hek hev hS';simp only at hkn hek hev;have hx:=(bi _ hp).1;simp only at hx;obtain⟨yb,ya,yn,yc,bs,bu,bt,rfl,_⟩:=hx.opn;have U:=hA.base (b:=it) (o:=.mapIter (some g1) C (Ay (D++[e])) C) (by rw[Ac];simp);rw[Ds]at U;have ac:PH.le m (m2.upd it (.mapIter (some g1) C (Ay (D++[e])) C)):=fun g o Y=>U.see (aa _ g o Y);refine G.mapEntry it g1 es1 C D e kV (Ac _ _ _) (an K ac) aj he ?_;rw[hek,hev];have a3:=hS'.len;simp only[A03,A1y,A3q]at a3;have ai:=sF.s k;refine G.c call151 (Nj (hx.mono K) (by have:=(SB.sz ai).1;omega)) ?_;rintro v3 u3 l3 rfl;by_cases h0:F.s k=0
  ·rw[decide_eq_true (Sk.2 h0)];refine G.b (hJ (D++[e],L++[(k,_)],S,(T,O)) _ _ _ cV (a1.trans l3) ⟨hS',by dsimp only;rw[A02];exact hI.skip h0,by dsimp only;simp;omega,U⟩ (by have:=hS'.len;simp at this;dsimp only;simp;omega))
  rw[decide_eq_false (fun e=>h0 (Sk.1 e))];refine G.c call28 (Nh (hx.mono (K.trans l3)) (SB.tx ai)) ?_;rintro v4 u4 l4 rfl;refine G.nF 0 0 ?_;have E:=U;generalize bk:m2.upd it (.mapIter (some g1) C (Ay (D++[e])) C)=m3 at E ac;have b3:k∉L.map (·.1):=hkn;refine G.l (ι:=Nat) (fun n=>[(1,.p 0 0),(2,.p 1 0),(6,.p 2002 0),(7,.p 7003 0),(11,.p 12003 0),(12,iV n),(33,.v (.pointer (some ⟨it,0,none⟩)))])
   (fun _=>[(0,⟨157,[bV b,sV a n c,bV b',sV a' n' c',.v (.map (some g1)),.v (.map (some g2))]⟩),(1,⟨34,[tV [],sV none 0 0,sV none 0 0]⟩),(2002,⟨34,[tV (Ag F.c),sV T S.length O,sV none 0 0]⟩),(7003,⟨78,[iV k.1,tV k.2]⟩),(12003,⟨80,[iV k.1,tV k.2,tV (Ag (F.s k))]⟩)])
   (fun n u' m'=>n<=S.length/\(∀ j x,j<n->S[j]?=some x->Bf x.1 k<0)/\m'=m3) (fun n=>S.length-n) 0 ⟨oV,fun j x hj=>oV,rfl⟩ ?_
  rintro J2 d ax u5 m5 l5 ⟨ad,Z,rfl⟩;have bo:=((K.trans l3).trans l4).trans l5;refine G.joinF (ι:=Unit) (fun st=>Arh prog st [.bool false]) (fun _=>[(1,.p 0 0),(2,.p 1 0),(6,.p 2002 0),(11,.p 12003 0),(12,iV d),(33,.v (.pointer (some ⟨it,0,none⟩)))])
   (fun _=>[(0,⟨157,[bV b,sV a n c,bV b',sV a' n' c',.v (.map (some g1)),.v (.map (some g2))]⟩),(1,⟨34,[tV [],sV none 0 0,sV none 0 0]⟩),(2002,⟨34,[tV (Ag F.c),sV T S.length O,sV none 0 0]⟩),(12003,⟨80,[iV k.1,tV k.2,tV (Ag (F.s k))]⟩)])
   (fun _ u' m'=>m'=m5/\∀ x,S[d]?=some x->¬ Bf x.1 k<0) (fun _=>kV) kV ?tail ?way
  case way =>
   intro R;by_cases a6:d<S.length
   ·refine G.lT d S.length ?_;obtain⟨x,a4⟩:∃ x,S[d]?=some x:=⟨_,A0i a6⟩;obtain⟨gs,cs,Q⟩:=E.ptr (fun e=>by
     have:S.length=0:=by simpa using congrArg List.length e
     omega)
    simp only[Value.slice.injEq]at Q;obtain⟨rfl,_,rfl⟩:=Q;refine G.a gs 0 S.length O d 3 a6<|G.f 80 gs (0+d*3) 0 0 ?_;have b1:ElP m5 gs (0+d*3) (As x):=E.el (by rw[A0n,a4];rfl);refine G.lM (some 2) gs (0+d*3+0) (.agg #[.int .i64 x.1.1,.string (mkS x.1.2)]) (b1.sub (k:=0) fun i y H=>by
     match i,H with
     |0,H=>simpa[As,Value.cells] using H
     |1,H=>simpa[As,Value.cells] using H
     |i+2,H=>simp[Value.cells]at H) ?_
    by_cases hc:Bf x.1 k<0
    ·refine G.c call125 (Ev x.1 k true (decide_eq_true hc)) ?_;rintro v6 u6 l6 rfl;refine G.i d ?_;exact G.b (ax (d+1) _ _ _ cV (l5.trans l6) ⟨oV,fun j y hj H=>by
      rcases (by omega:j<d\/j=d) with e|rfl
      ·exact Z j y e H
      rw[a4]at H;cases H;exact hc,rfl⟩ oV)
    refine G.c call125 (Ev x.1 k false (decide_eq_false hc)) ?_;rintro v6 u6 l6 rfl;exact R () _ _ _ kV cV l6 ⟨rfl,fun y H=>by rw[a4]at H;cases H;exact hc⟩
   refine G.lF d S.length ?_;exact R () _ _ _ kV cV (PH.le_refl _) ⟨rfl,fun y H=>by rw[A1k oV]at H;cases H⟩
  rintro _ u6 m6 l6 ⟨rfl,a5⟩;have ag:=E.cap;refine G.sliceTo 3 T S.length O d kV oV<|G.sliceFromG T S.length O d 3 kV ad ag<|G.buildM 80 3 40 (.agg #[.int .i64 0,.string (mkS []),.string (mkS [])]) [.agg #[.int .i64 k.1,.string (mkS k.2),.string (mkS (Ag (F.s k)))]] kV (Gt (k,F.s k)) rfl oV mV mV ?_;intro gt m7 ae;refine G.appendMV 80 3 40 (.agg #[.int .i64 0,.string (mkS []),.string (mkS [])]) m6 [.agg #[.int .i64 k.1,.string (mkS k.2),.string (mkS (Ag (F.s k)))]] ((S.drop d).map As) (.slice (some ⟨gt,0,none⟩) 1 1) (if O=d then T else T.map (·.add (d*3))) (S.length-d) (O-d) kV rfl rfl oV ae mV (fun b4=>?_) (Amh _) gV gV ?_
  ·have a6:d<S.length:=by
    rcases A16 d S.length with h|h
    ·exact h
    exact absurd (by rw[A11 h];rfl) b4
   obtain⟨gs,cs,Q⟩:=E.ptr (fun e=>by
    have:S.length=0:=by simpa using congrArg List.length e
    omega)
   simp only[Value.slice.injEq]at Q;obtain⟨rfl,_,rfl⟩:=Q;refine⟨gs,0+d*3,?_,?_⟩
   ·rw[if_neg oV];simp[Eu]
   have:=E.els.drop d;rw[<-List.map_drop]at this;exact fun j e hj i y H=>by
    obtain⟨cs,t,fr,q1,q2⟩:=this j e hj i y H;exact⟨cs,t,fr,ae.le _ _ q1,q2⟩
  intro v8 m8 V;obtain⟨a8,c8,rfl⟩:=V.ptr mV;have aw:=E.take (k:=d) (by rw[A0k];exact ad);obtain⟨mx,bm,bl,ah⟩:=At.swap (x:=⟨.slice T d O,80,3,(S.map As).take d⟩) (y:=⟨.slice (some ⟨a8,0,none⟩) _ c8,80,3,_⟩) V aw;refine G.appendM 80 3 40 (.agg #[.int .i64 0,.string (mkS []),.string (mkS [])]) mx ((S.map As).take d) _ (.slice T d O) a8 0 _ c8 kV rfl rfl oV bl V.els V.1 rfl mV gV gV ?_;intro v9 m9 av;obtain⟨mz,al,am⟩:=ah ⟨v9,80,3,_⟩ m9 av;have b2:(S.map As).take d++([.agg #[.int .i64 k.1,.string (mkS k.2),.string (mkS (Ag (F.s k)))]]++(S.drop d).map As)=(S.take d++[(k,F.s k)]++S.drop d).map As:=by
   rw[A02,A02,A37,A2m];rfl
  have a0:Af (m.upd it (.mapIter (some g1) C (Ay (D++[e])) C)) mz v9 80 3 ((S.take d++[(k,F.s k)]++S.drop d).map As):=by rw[<-b2];exact am
  obtain⟨a9,c9,rfl⟩:=a0.shape;rw[A0k]at a0⊢;have ay:(S.take d++[(k,F.s k)]++S.drop d).length=S.length+1:=gV;refine G.drop mz kV (fun g o Y=>Af.le al g o Y)<|G.b (hJ (D++[e],L++[(k,_)],S.take d++[(k,F.s k)]++S.drop d,(a9,c9)) _ _ _ cV ((((a1.trans l3).trans l4).trans l5).trans l6) ⟨hS',?_,by dsimp only;rw[ay];simp;omega,a0⟩ (by have:=hS'.len;simp at this;dsimp only;simp;omega));dsimp only;rw[A02];exact hI.put Dl h0 b3 Z a5
 case done1 =>
 intro a7;have af:Can Bf F.s S:=hI.can fun k hk=>al k fun hm=>hk (by
  obtain⟨p,hp,rfl⟩:=A0r.1 hm;exact A0r.2 ⟨p,a7 p hp,rfl⟩)
 have b6:S.length<=N:=by have:=hS.len;omega
 refine G.give _ _ _ kV hA (fun g=>?_) ?_
 ·cases Y:m g with
  |none=>exact .inl Y
  |some o=>exact .inr (by rw[aa _ g o Y];simp)
 intro u3 l3 hX;refine G.drop m kV (aa _) ?_;have bd:=K.trans l3;clear hJ hA hI ap aq ab hS a7
 revert S T O
 intro X xa xc af b6 hX;refine G.mapRange g2 a2 z 224 84 kV (ao bd (fun _ _ h=>h)) ?_;intro I b7 bw;have W:∀ o,PH.le m (m.upd I o):=fun o=>I9 o b7;refine G.l (ι:=List MapEntry×List ((Par×Par)×Value)×List ((Par×Par)×Rat)×(Option Addr×Nat)) (fun i=>[(1,.p 0 0),(2,.p 1 0),(6,.p 2002 0),(85,.v (.pointer (some ⟨I,0,none⟩)))])
  (fun i=>[(0,⟨157,[bV b,sV a n c,bV b',sV a' n' c',.v (.map (some g1)),.v (.map (some g2))]⟩),(1,⟨34,[tV [],sV none 0 0,sV none 0 0]⟩),(2002,⟨34,[tV (Ag F.c),sV xa X.length xc,sV i.2.2.2.1 i.2.2.1.length i.2.2.2.2]⟩)])
  (fun i u' m'=>Fs prV a2 l2 i.1 i.2.1/\Rz Nk F.t (i.2.1.map (·.1)) i.2.2.1/\i.2.2.1.length<=i.2.1.length/\Af (m.upd I (.mapIter (some g2) z (Ay i.1) z)) m' (.slice i.2.2.2.1 i.2.2.1.length i.2.2.2.2) 210 5 (i.2.2.1.map D6))
  (fun i=>l2.length-i.2.1.length) ([],[],[],(none,0))
  ⟨Fs.nil _ _,Rz.nil,A0s _,Af.nil _ _ _⟩ ?_
 rintro J ⟨D,L,S,⟨T,O⟩⟩ hJ u2 m2 a1 ⟨hS,hI,ap,hA⟩;simp only at hS hI ap hA hJ;have K:=bd.trans a1;have aq:m2 I=some (.mapIter (some g2) z (Ay D) z):=hA.see (Ac _ _ _);have ab:PH.le m m2:=fun g o Y=>hA.see (W _ g o Y);refine G.mapNextL Id.inj I g2 a2 z l2 D L kV kV aq (ao K ab) ak au b9 hS ?done2 ?next2
 case next2 =>
  rintro⟨k,xv⟩ e hp hkn he hek hev hS';simp only at hkn hek hev;have hx:=(bj _ hp).1;simp only at hx;obtain⟨yb,ya,yn,yc,bs,bu,bt,rfl,_⟩:=hx.opn;have U:=hA.base (b:=I) (o:=.mapIter (some g2) z (Ay (D++[e])) z) (by rw[Ac];simp);rw[Ds]at U;have ac:PH.le m (m2.upd I (.mapIter (some g2) z (Ay (D++[e])) z)):=fun g o Y=>U.see (W _ g o Y);refine G.mapEntry I g2 a2 z D e kV (Ac _ _ _) (ao K ac) ak he ?_;rw[hek,hev];have a3:=hS'.len;simp only[A03,A1y,A3q]at a3;have ai:=sF.t k;refine G.c call151 (Nj (hx.mono K) (by have:=(SB.sz ai).1;omega)) ?_;rintro v3 u3 l3 rfl;by_cases h0:F.t k=0
  ·rw[decide_eq_true (Sk.2 h0)];refine G.b (hJ (D++[e],L++[(k,_)],S,(T,O)) _ _ _ cV (a1.trans l3) ⟨hS',by dsimp only;rw[A02];exact hI.skip h0,by dsimp only;simp;omega,U⟩ (by have:=hS'.len;simp at this;dsimp only;simp;omega))
  rw[decide_eq_false (fun e=>h0 (Sk.1 e))];refine G.c call28 (Nh (hx.mono (K.trans l3)) (SB.tx ai)) ?_;rintro v4 u4 l4 rfl;refine G.nF 0 0<|G.pub 19003 224 [.int .i64 k.1.1,.string (mkS k.1.2),.int .i64 k.2.1,.string (mkS k.2.2)] kV kV ?_;intro bq c0 b5;have az:(m.upd I (.mapIter (some g2) z (Ay (D++[e])) z)) bq=none:=by
   cases hh:(m.upd I (.mapIter (some g2) z (Ay (D++[e])) z)) bq with
   |none=>rfl
   |some o=>rw[U.see hh]at b5;cases b5
  have E:=U.fresh (o:=.cells [Value.int .i64 k.1.1,.string (mkS k.1.2),.int .i64 k.2.1,.string (mkS k.2.2)].toArray 224 (0,0)) b5;obtain⟨bp,br⟩:=Akv (m:=(m2.upd I (.mapIter (some g2) z (Ay (D++[e])) z)).upd bq (.cells [Value.int .i64 k.1.1,.string (mkS k.1.2),.int .i64 k.2.1,.string (mkS k.2.2)].toArray 224 (0,0))) (Ac _ _ _);refine G.addrA 224 78 2 bq 0 0 2 kV kV kV kV oV<|G.lM (some 2) bq (0+0*2) (.agg #[.int .i64 k.1.1,.string (mkS k.1.2)]) bp<|G.addrA 224 78 2 bq 0 1 2 kV kV kV kV oV<|G.lM (some 2) bq (0+1*2) (.agg #[.int .i64 k.2.1,.string (mkS k.2.2)]) br ?_;generalize bk:(m2.upd I (.mapIter (some g2) z (Ay (D++[e])) z)).upd bq (.cells [Value.int .i64 k.1.1,.string (mkS k.1.2),.int .i64 k.2.1,.string (mkS k.2.2)].toArray 224 (0,0))=m3 at E;have b3:k∉L.map (·.1):=hkn;refine G.l (ι:=Nat) (fun n=>[(1,.p 0 0),(2,.p 1 0),(6,.p 2002 0),(17,.p 24006 0),(18,iV n),(85,.v (.pointer (some ⟨I,0,none⟩)))])
   (fun _=>[(0,⟨157,[bV b,sV a n c,bV b',sV a' n' c',.v (.map (some g1)),.v (.map (some g2))]⟩),(1,⟨34,[tV [],sV none 0 0,sV none 0 0]⟩),(2002,⟨34,[tV (Ag F.c),sV xa X.length xc,sV T S.length O]⟩),(24006,⟨210,[iV k.1.1,tV k.1.2,iV k.2.1,tV k.2.2,tV (Ag (F.t k))]⟩)])
   (fun n u' m'=>n<=S.length/\(∀ j x,j<n->S[j]?=some x->Nk x.1 k<0)/\m'=m3) (fun n=>S.length-n) 0 ⟨oV,fun j x hj=>oV,rfl⟩ ?_
  rintro J2 d ax u5 m5 l5 ⟨ad,Z,rfl⟩;have bo:=((K.trans l3).trans l4).trans l5;refine G.joinF (ι:=Unit) (fun st=>Arh prog st [.bool false]) (fun _=>[(1,.p 0 0),(2,.p 1 0),(6,.p 2002 0),(17,.p 24006 0),(18,iV d),(85,.v (.pointer (some ⟨I,0,none⟩)))])
   (fun _=>[(0,⟨157,[bV b,sV a n c,bV b',sV a' n' c',.v (.map (some g1)),.v (.map (some g2))]⟩),(1,⟨34,[tV [],sV none 0 0,sV none 0 0]⟩),(2002,⟨34,[tV (Ag F.c),sV xa X.length xc,sV T S.length O]⟩),(24006,⟨210,[iV k.1.1,tV k.1.2,iV k.2.1,tV k.2.2,tV (Ag (F.t k))]⟩)])
   (fun _ u' m'=>m'=m5/\∀ x,S[d]?=some x->¬ Nk x.1 k<0) (fun _=>kV) kV ?tail2 ?way2
  case way2 =>
   intro R;by_cases a6:d<S.length
   ·refine G.lT d S.length ?_;obtain⟨x,a4⟩:∃ x,S[d]?=some x:=⟨_,A0i a6⟩;obtain⟨gs,cs,Q⟩:=E.ptr (fun e=>by
     have:S.length=0:=by simpa using congrArg List.length e
     omega)
    simp only[Value.slice.injEq]at Q;obtain⟨rfl,_,rfl⟩:=Q;refine G.a gs 0 S.length O d 5 a6 ?_;have b1:ElP m5 gs (0+d*5) (D6 x):=E.el (by rw[A0n,a4];rfl);refine G.lM (some 5) gs (0+d*5) (D6 x) b1 ?_;by_cases hc:Nk x.1 k<0
    ·refine G.c call126 (Qe x (k,F.t k) true (decide_eq_true hc)) ?_;rintro v6 u6 l6 rfl;refine G.i d ?_;exact G.b (ax (d+1) _ _ _ cV (l5.trans l6) ⟨oV,fun j y hj H=>by
      rcases (by omega:j<d\/j=d) with e|rfl
      ·exact Z j y e H
      rw[a4]at H;cases H;exact hc,rfl⟩ oV)
    refine G.c call126 (Qe x (k,F.t k) false (decide_eq_false hc)) ?_;rintro v6 u6 l6 rfl;exact R () _ _ _ kV cV l6 ⟨rfl,fun y H=>by rw[a4]at H;cases H;exact hc⟩
   refine G.lF d S.length ?_;exact R () _ _ _ kV cV (PH.le_refl _) ⟨rfl,fun y H=>by rw[A1k oV]at H;cases H⟩
  rintro _ u6 m6 l6 ⟨rfl,a5⟩;have ag:=E.cap;refine G.sliceTo 5 T S.length O d kV oV<|G.sliceFromG T S.length O d 5 kV ad ag<|G.buildM 210 5 64 (.agg #[.int .i64 0,.string (mkS []),.int .i64 0,.string (mkS []),.string (mkS [])]) [.agg #[.int .i64 k.1.1,.string (mkS k.1.2),.int .i64 k.2.1,.string (mkS k.2.2),.string (mkS (Ag (F.t k)))]] kV (Ajw (k,F.t k)) rfl oV mV mV ?_;intro gt m7 ae;refine G.appendMV 210 5 64 (.agg #[.int .i64 0,.string (mkS []),.int .i64 0,.string (mkS []),.string (mkS [])]) m6 [.agg #[.int .i64 k.1.1,.string (mkS k.1.2),.int .i64 k.2.1,.string (mkS k.2.2),.string (mkS (Ag (F.t k)))]] ((S.drop d).map D6) (.slice (some ⟨gt,0,none⟩) 1 1) (if O=d then T else T.map (·.add (d*5))) (S.length-d) (O-d) kV rfl rfl oV ae mV (fun b4=>?_) (Apw _) gV gV ?_
  ·have a6:d<S.length:=by
    rcases A16 d S.length with h|h
    ·exact h
    exact absurd (by rw[A11 h];rfl) b4
   obtain⟨gs,cs,Q⟩:=E.ptr (fun e=>by
    have:S.length=0:=by simpa using congrArg List.length e
    omega)
   simp only[Value.slice.injEq]at Q;obtain⟨rfl,_,rfl⟩:=Q;refine⟨gs,0+d*5,?_,?_⟩
   ·rw[if_neg oV];simp[Eu]
   have:=E.els.drop d;rw[<-List.map_drop]at this;exact fun j e hj i y H=>by
    obtain⟨cs,t,fr,q1,q2⟩:=this j e hj i y H;exact⟨cs,t,fr,ae.le _ _ q1,q2⟩
  intro v8 m8 V;obtain⟨a8,c8,rfl⟩:=V.ptr mV;have aw:=E.take (k:=d) (by rw[A0k];exact ad);obtain⟨mx,bm,ba,ah⟩:=At.swap (x:=⟨.slice T d O,210,5,(S.map D6).take d⟩) (y:=⟨.slice (some ⟨a8,0,none⟩) _ c8,210,5,_⟩) V aw;refine G.appendM 210 5 64 (.agg #[.int .i64 0,.string (mkS []),.int .i64 0,.string (mkS []),.string (mkS [])]) mx ((S.map D6).take d) _ (.slice T d O) a8 0 _ c8 kV rfl rfl oV ba V.els V.1 rfl mV gV gV ?_;intro v9 m9 av;obtain⟨mz,al,am⟩:=ah ⟨v9,210,5,_⟩ m9 av;have b2:(S.map D6).take d++([.agg #[.int .i64 k.1.1,.string (mkS k.1.2),.int .i64 k.2.1,.string (mkS k.2.2),.string (mkS (Ag (F.t k)))]]++(S.drop d).map D6)=(S.take d++[(k,F.t k)]++S.drop d).map D6:=by
   rw[A02,A02,A37,A2m];rfl
  have bn:Af ((m.upd I (.mapIter (some g2) z (Ay (D++[e])) z)).upd bq (.cells [Value.int .i64 k.1.1,.string (mkS k.1.2),.int .i64 k.2.1,.string (mkS k.2.2)].toArray 224 (0,0))) mz v9 210 5 ((S.take d++[(k,F.t k)]++S.drop d).map D6):=by rw[<-b2];exact am
  have a0:=bn.del (l:=bq) (by rw[Ac];simp);rw[Acu az]at a0;obtain⟨a9,c9,rfl⟩:=a0.shape;rw[A0k]at a0⊢;have ay:(S.take d++[(k,F.t k)]++S.drop d).length=S.length+1:=gV;refine G.drop (mz.del bq) kV (fun g o Y=>Af.le al g o (Awo _ _ g o Y))<|G.b (hJ (D++[e],L++[(k,_)],S.take d++[(k,F.t k)]++S.drop d,(a9,c9)) _ _ _ cV ((((a1.trans l3).trans l4).trans l5).trans l6) ⟨hS',?_,by dsimp only;rw[ay];simp;omega,a0⟩ (by have:=hS'.len;simp at this;dsimp only;simp;omega));dsimp only;rw[A02];exact hI.put A0g h0 b3 Z a5
 case done2 =>
 intro a7;have b0:Can Nk F.t S:=hI.can fun k hk=>am k fun hm=>hk (by
  obtain⟨p,hp,rfl⟩:=A0r.1 hm;exact A0r.2 ⟨p,a7 p hp,rfl⟩)
 have be:S.length<=N:=by have:=hS.len;omega
 refine G.give _ _ _ kV hA (fun g=>?_) ?_
 ·cases Y:m g with
  |none=>exact .inl Y
  |some o=>exact .inr (by rw[W _ g o Y];simp)
 intro u4 l4 hY;exact G.drop m kV (W _)<|G.r (.tuple #[.agg #[.string (mkS (Ag F.c)),.slice xa X.length xc,.slice T S.length O],.int .i64 0]) ⟨rfl,_,rfl,X,S,xa,xc,T,O,rfl,hX.mono (a1.trans l4),hY,af,b0,b6,be⟩
end
section
variable {F:List Ao}{a i:Nat}{f:Ao}{z:Int}
def Ar2 (F:List Ao)(a:Nat)(z:Int)(i:Nat)(fe:Int)(dr ho:Bool):Prop :=
 (∃ k f,k<i/\F[k]?=some f/\f.1=a/\fe=(k:Int)/\dr=decide (f.2.2=1)/\ho=decide (f.2.1=2))\/((∀ k f,k<i->F[k]?=some f->f.1≠a)/\fe=z/\dr=true/\ho=false)
theorem Agh (q:Rat):q+0=q:=by grind
theorem Amg {m:Int}{j n:Bool}(h:Ar2 F a z i m j n)(E:F[i]?=some f)(C:f.1≠a):Ar2 F a z (i+1) m j n:=by
 rcases h with ⟨k,g,t,d,u⟩|⟨t,d⟩
 ·exact .inl ⟨k,g,oV,d,u⟩
 refine .inr ⟨fun k g I H=>?_,d⟩;rcases (by omega:k<i\/k=i) with e|rfl
 ·grind
 grind
def Aqb (e:F[i]?=some f)(d:f.1=a):Ar2 F a z (i+1) (i:Int) (decide (f.2.2=1)) (decide (f.2.1=2)) :=
 .inl ⟨i,f,oV,e,d,rfl,rfl,rfl⟩
theorem At7 {T:List (List UInt8×Nat)}{F:List Ao}{lab:Int}{a:Nat}{z:Int}{x:List UInt8×Nat}{t:List UInt8}{j:Int}{K u:Bool}(hF:Ej T F lab)(X:-1<=lab)(l2:∀ l:Nat,lab=(l:Int)->∃ n,T[l]?=some (n,2))
 (H:T[a]?=some x) (N:M4 x.2 t) (Q:((a:Int)=lab/\z = -1)\/((a:Int)≠lab/\z = -2)) (h:Ar2 F a z F.length j K u) :
 (j = -2/\H6 F lab a t=some none)\/(j≠-2/\((u=true/\H6 F lab a t=some (some ((j,t),1)))\/(u=false/\t = []/\H6 F lab a t=(if K then none else some none))\/(u=false/\t≠[]/\SmW (Lq t)/\Ag (Lq t)=t/\H6 F lab a t=some (some ((j,[]),Lq t))))):=by
 rcases h with ⟨k,f,V,C,rfl,rfl,rfl,rfl⟩|⟨P,rfl,rfl,rfl⟩
 ·obtain⟨n,W,hT,d,E⟩:=hF.ok f (A0w C);rw[Aa3 hF.nodup C E];rw[hT]at H;cases H;refine .inr ⟨oV,?_⟩;unfold Lu;rcases d with ⟨O,rfl,R⟩|⟨O,rfl,R⟩
  ·rw[O,if_neg oV];by_cases g:t = []
   ·grind
   obtain⟨I,J⟩:=Jt N g;exact .inr (.inr ⟨rfl,g,I,J,by rw[if_neg g]⟩)
  grind
 rcases Q with ⟨m,rfl⟩|⟨m,rfl⟩
 ·refine .inr ⟨oV,.inr ?_⟩;obtain⟨n,L⟩:=l2 a m.symm;rw[H]at L;cases L;have e:H6 F lab a t=Vq t:=by unfold H6;rw[if_pos m]
  rw[e];unfold Vq;by_cases g:t = []
  ·grind
  obtain⟨I,J⟩:=Jt N g;exact .inr ⟨rfl,g,I,J,by rw[if_neg g]⟩
 rcases Hc (F:=F) (w:=t) m with e|⟨i,f,C,U,_⟩
 ·grind
 grind
def Aj4 {g1 g2:Nat}(d:g1≠g2)(j m g h:Obj):(((PH.mt.upd g1 j).upd g2 m).upd g1 g).upd g2 h=(PH.mt.upd g1 g).upd g2 h:=by
 rw[Jo _ _ _ (fun e=>d e.symm),Ds,Ds]
def Ahp {u:PH}{v:Value}{T:List (List UInt8×Nat)}{R:List Bw}{lab:Int}{x:List UInt8×Nat}{t:List UInt8}(h:Ic u v T R F lab)(ok:B2 u T R F lab)(hx:T[a]?=some x)(hv:M4 x.2 t) :
 Ah prog 150 [v,.int .i64 a,.string (mkS t)] u PH.mt fun v' u' m'=>J7 m' u' v' (H6 F lab a t).cf 1:=by
 have ae:=ok.f2;have l1:=ok.l1;have t2:=ok.t2;have ad:a<T.length:=(A0o.1 hx).1;obtain⟨pa,ca,pb,cb,pe,ce,rfl,hT,hR,hF⟩:=h;refine Ah.o func150<|G.joinF (ι:=Int) (fun st=>Arh prog st [.bool false]) (fun z=>[(1,iV a),(2,tV t),(3,.p 0 0),(6,.p 1 0),(7,iV z),(8,bV true),(9,bV false)])
  (fun _=>[(0,⟨28,[sV pa T.length ca,sV pb R.length cb,sV pe F.length ce,iV lab]⟩),(1,⟨157,[bV false,sV none 0 0,bV false,sV none 0 0,.v (.map none),.v (.map none)]⟩)])
  (fun z u' m'=>u'=u/\m'=PH.mt/\(((a:Int)=lab/\z = -1)\/((a:Int)≠lab/\z = -2))) (fun _=>kV) kV ?tail ?way
 case way =>
  intro L;by_cases hl:(a:Int)=lab
  ·refine G.eT' a lab hl<|G.pastI ?_;exact L (-1) _ _ _ kV cV (PH.le_refl _) ⟨rfl,rfl,.inl ⟨hl,rfl⟩⟩
  refine G.eF' a lab hl ?_;exact L (-2) _ _ _ kV cV (PH.le_refl _) ⟨rfl,rfl,.inr ⟨hl,rfl⟩⟩
 rintro z _ _ _ ⟨rfl,rfl,hz⟩;refine G.l (ι:=Nat×Int×Bool×Bool) (fun i=>[(1,iV a),(2,tV t),(6,.p 1 0),(7,iV i.2.1),(8,bV i.2.2.1),(9,bV i.2.2.2),(20,sV pe F.length ce),(21,iV F.length),(22,iV i.1)])
  (fun _=>[(1,⟨157,[bV false,sV none 0 0,bV false,sV none 0 0,.v (.map none),.v (.map none)]⟩)])
  (fun i u' m'=>i.1<=F.length/\m'=PH.mt/\Ar2 F a z i.1 i.2.1 i.2.2.1 i.2.2.2) (fun i=>F.length-i.1) (0,z,true,false) ⟨oV,rfl,.inr ⟨fun k f hk=>by dsimp only at hk;omega,rfl,rfl,rfl⟩⟩ ?_
 rintro J ⟨i,d,dr,ho⟩ Z u2 m2 l2 ⟨hi,rfl,hI⟩;simp only at hi hI Z;by_cases a0:i<F.length
 ·refine G.lT i F.length ?_;obtain⟨f,Q⟩:∃ f,F[i]?=some f:=⟨_,A0i a0⟩;obtain⟨fb,fo,rfl,ef⟩:=Ab.at' (hF.mono l2) (j:=i) (e:=C4 f) (by simp[Q]);obtain⟨p1,X,p3⟩:=f;refine G.a fb fo F.length ce i 3 a0<|G.lU (some 3) fb (fo+i*3) (.agg #[.int .i64 p1,.int .i64 X,.int .i64 p3]) ef ?_;by_cases hp:(p1:Int)=(a:Int)
  ·refine G.eT' p1 a hp ?_;have O:=Aqb (z:=z) Q (show p1=a by omega);simp only at O;by_cases h3:p3=1
   ·refine G.eT p3 1 ?_;by_cases h2:X=2
    ·refine G.eT X 2<|G.i i ?_;rw[decide_eq_true h3,decide_eq_true h2]at O;exact G.b (Z (i+1,(i:Int),true,true) _ _ _ cV l2 ⟨dV,rfl,O⟩ dV)
    refine G.eF X 2<|G.i i ?_;rw[decide_eq_true h3,decide_eq_false h2]at O;exact G.b (Z (i+1,(i:Int),true,false) _ _ _ cV l2 ⟨dV,rfl,O⟩ dV)
   refine G.eF p3 1 ?_;by_cases h2:X=2
   ·refine G.eT X 2<|G.i i ?_;rw[decide_eq_false h3,decide_eq_true h2]at O;exact G.b (Z (i+1,(i:Int),false,true) _ _ _ cV l2 ⟨dV,rfl,O⟩ dV)
   refine G.eF X 2<|G.i i ?_;rw[decide_eq_false h3,decide_eq_false h2]at O;exact G.b (Z (i+1,(i:Int),false,false) _ _ _ cV l2 ⟨dV,rfl,O⟩ dV)
  exact G.eF' p1 a hp<|G.i i<|G.b (Z (i+1,d,dr,ho) _ _ _ cV l2 ⟨dV,rfl,Amg hI Q (show ¬ p1=a by omega)⟩ dV)
 obtain rfl:i=F.length:=oV;refine G.lF F.length F.length ?_;have n0:(⟨((0:Int):Rat),fun _=>0,fun _=>0⟩:CF)=CF.num 0:=by rw[show ((0:Int):Rat)=0 by decide +kernel];rfl
 have n1:(⟨((1:Int):Rat),fun _=>0,fun _=>0⟩:CF)=CF.num 1:=by rw[show ((1:Int):Rat)=1 by decide +kernel];rfl
 rcases At7 ok.feat l1 ok.l2 hx hv hz hI with ⟨rfl,e⟩|⟨a7,hc⟩
 ·rw[e];refine G.eT' (-2) (-2) rfl<|G.callO _ _ kV call73 (I2 (n:=1) oV oV) ?_;intro v3 u3 m3 l3 U _;obtain⟨b,E,n,c,b',C,K,H,g1,g2,rfl⟩:=Oa U;rw[Cm];exact G.r (.agg #[.bool b,.slice E n c,.bool b',.slice C K H,.map (some g1),.map (some g2)]) (U.congr n1 oV)
 refine G.eF' d (-2) a7<|G.callO _ _ kV call73 (I2 (n:=1) oV oV) ?_;intro v3 u3 m3 l3 U _;rw[Cm];rcases hc with ⟨rfl,e⟩|⟨rfl,ht,e⟩|⟨rfl,ht,Y,q2,e⟩
 ·rw[e];obtain⟨b,E,n,c,b',C,K,H,g1,g2,o1,o2,rfl,k1,m,rfl,s1,s2⟩:=U;have I:Aw (d,t) (d,t)=((d,t),(d,t)):=H7 (by rw[Dl.refl];omega);refine G.c call24 (Od (z:=1) oV oV) ?_;intro v4 u4 P N;rw[show ((1:Int):Rat)=1 by decide +kernel]at N;obtain⟨b4,a4,n4,c4,a2,a8,a3,rfl,_⟩:=N.opn;refine G.callG _ _ kV kV call147 (g:=g1) (o:=o1) (by rw[Ad _ _ m,Ac])
   (Nt (a:=(d,t)) (g2:=some g2) (y1:=b) (y2:=(E,n,c)) (y3:=b') (y4:=(C,K,H)) (s1.mono P) N O3.sb SB.zero (by rw[Agh];exact O3.sb)) ?_
  intro v5 u5 a9 V k5;refine G.c call24 (Od (z:=1) oV oV) ?_;intro v6 u6 W k6;rw[show ((1:Int):Rat)=1 by decide +kernel]at k6;obtain⟨b6,a6,n6,c6,ab,af,ac,rfl,_⟩:=k6.opn;refine G.callG _ _ kV kV call148 (g:=g2) (o:=o2) (by rw[Ad _ _ m.symm,Ac])
   (Hb (p:=(d,t)) (r:=(d,t)) (g1:=some g1) (y1:=b) (y2:=(E,n,c)) (y3:=b') (y4:=(C,K,H)) (((s2.mono P).mono V).mono W) k6 O3.sb (by rw[I];exact SB.zero) (by rw[I,Agh];exact O3.sb)) ?_
  intro v7 u7 aa l7 k7;rw[Aj4 m];rw[I]at k7;exact G.r (.agg #[.bool b,.slice E n c,.bool b',.slice C K H,.map (some g1),.map (some g2)]) ⟨b,E,n,c,b',C,K,H,g1,g2,_,_,rfl,(((k1.mono P).mono V).mono W).mono l7,m,rfl,((k5.mono W).mono l7).congr fun k=>by rw[Agh];rfl,k7.congr fun k=>by
   rw[Agh];show (if k=((d,t),(d,t)) then (1:Rat) else 0)=if k=((d,t),(d,t)) then (1:Rat)*1 else 0
   rw[show (1:Rat)*1=1 by decide +kernel]⟩
 ·obtain⟨b,E,n,c,b',C,K,H,g1,g2,rfl⟩:=Oa U;refine G.q t [] ht ?_;rw[e];cases dr with
  |true =>
   refine G.drop PH.mt kV (PH.mt_le _)<|G.callO _ _ kV call73 (I2 (n:=0) oV oV) ?_;intro v4 u4 m4 P N _;obtain⟨b,E,n,c,b',C,K,H,g1,g2,rfl⟩:=Oa N;rw[Cm];exact G.r (.agg #[.bool b,.slice E n c,.bool b',.slice C K H,.map (some g1),.map (some g2)]) (N.congr n0 oV)
  |false =>
   exact G.r (.agg #[.bool b,.slice E n c,.bool b',.slice C K H,.map (some g1),.map (some g2)]) (U.congr n1 oV)
 rw[e];obtain⟨b,E,n,c,b',C,K,H,g1,g2,o1,o2,rfl,k1,m,rfl,s1,s2⟩:=U;refine G.w t [] ht ?_;have I:Aw (d,[]) (d,[])=((d,[]),(d,[])):=H7 (by rw[Dl.refl];omega);have a1:=H9 (u:=u3) (q:=Lq t) (SB.tx Y.sb);rw[q2]at a1;refine G.c call26 a1 ?_;intro v4 u4 P N;obtain⟨b4,a4,n4,c4,a2,a8,a3,rfl,_⟩:=N.opn;refine G.callG _ _ kV kV call147 (g:=g1) (o:=o1) (by rw[Ad _ _ m,Ac])
  (Nt (a:=(d,[])) (g2:=some g2) (y1:=b) (y2:=(E,n,c)) (y3:=b') (y4:=(C,K,H)) (s1.mono P) N Y.sb SB.zero (by rw[Agh];exact Y.sb)) ?_
 intro v5 u5 a9 V k5;refine G.c call127 (D7 (N.mono V) (N.mono V) (SB.ten Y.sb) (SB.ten Y.sb)) ?_;intro v6 u6 W k6;refine G.callG _ _ kV kV call148 (g:=g2) (o:=o2) (by rw[Ad _ _ m.symm,Ac])
  (Hb (p:=(d,[])) (r:=(d,[])) (g1:=some g1) (y1:=b) (y2:=(E,n,c)) (y3:=b') (y4:=(C,K,H)) (((s2.mono P).mono V).mono W) k6 Y.sb2 (by rw[I];exact SB.zero) (by rw[I,Agh];exact Y.sb2)) ?_
 intro v7 u7 aa l7 k7;rw[Aj4 m];rw[I]at k7;exact G.r (.agg #[.bool b,.slice E n c,.bool b',.slice C K H,.map (some g1),.map (some g2)]) ⟨b,E,n,c,b',C,K,H,g1,g2,_,_,rfl,(((k1.mono P).mono V).mono W).mono l7,m,rfl,((k5.mono W).mono l7).congr fun k=>by rw[Agh];rfl,k7.congr fun k=>by rw[Agh];rfl⟩
end
section
variable {u:PH}
def J7.all {f:FuncId}{args:List Value}{F:CF}{N:Nat}(c:Ah prog f args u PH.mt fun v d g=>J7 g d v F N):Fn0 prog f args u fun v d=>Rl d v F N:=by
 refine Fn0.weak c.giveAll ?_;rintro v d ⟨j,h,e,l2,k⟩;exact k.give e l2
def Rl.up {u:PH}{v:Value}{F:CF}{N M:Nat}(h:Rl u v F N)(d:N<=M):Rl u v F M:=by
 obtain⟨b,a,n,c,b',g,H,j,g1,g2,I,J,e,m,t,z,C,E⟩:=h;exact⟨b,a,n,c,b',g,H,j,g1,g2,I,J,e,m,t,z,C.up d,E.up d⟩
def Aqr {v tv:Value}{T:List (List UInt8×Nat)}{R:List Bw}{F:List Ao}{lab:Int}{ss:List (List UInt8)}(h:Y9 u v tv T R F lab ss)(ah:ss.length<=8) :
 Fn0 prog 75 [v,tv] u fun r u'=>Rl u' r (cfT F lab ss) 255/\CFS (cfT F lab ss):=by
 have hX:=h.sch;obtain⟨⟨xa,xc,xb,xd,xe,xf,rfl,ai,ag,ae⟩,ok,Z,hT⟩:=h;obtain⟨ya,yc,rfl⟩:=Z.opn;rw[A0k]at Z⊢;have g:=Ng ok hT;have a6:=hT.len;obtain⟨L,I⟩:∃ L,L=Fe F lab ss:=⟨_,rfl⟩;have a0:cfT F lab ss=H8 (CF.num 1) L:=by rw[I];rfl
 rw[a0];rw[<-I]at g;have af:L.length=ss.length:=by rw[I];exact Hn
 refine Fn0.o func75<|G.c call73 (J7.all (I2 (n:=1) oV oV)) ?_;intro v2 u2 l2 k2;have n1:(⟨((1:Int):Rat),fun _=>0,fun _=>0⟩:CF)=CF.num 1:=by rw[show ((1:Int):Rat)=1 by decide +kernel];rfl
 rw[n1]at k2;obtain⟨b,a,n,c,b',K,n',P,g1,g2,rfl⟩:=Rk k2;refine G.l (ι:=Nat×(Bool×SlI)×(Bool×SlI)×Nat×Nat) (fun i=>[(2,.p 0 0),(4,.p 1 0),(5,.p 1001 0),(9,sV ya ss.length yc),(10,iV ss.length),(11,iV i.1)])
  (fun i=>[(0,⟨28,[sV xa T.length xc,sV xb R.length xd,sV xe F.length xf,iV lab]⟩),(1,⟨157,[bV false,sV none 0 0,bV false,sV none 0 0,.v (.map none),.v (.map none)]⟩),(1001,⟨157,[bV i.2.1.1,sV i.2.1.2.1 i.2.1.2.2.1 i.2.1.2.2.2,bV i.2.2.1.1,sV i.2.2.1.2.1 i.2.2.1.2.2.1 i.2.2.1.2.2.2,.v (.map (some i.2.2.2.1)),.v (.map (some i.2.2.2.2))]⟩)])
  (fun i u' m'=>i.1<=ss.length/\Rl u' (.agg #[.bool i.2.1.1,.slice i.2.1.2.1 i.2.1.2.2.1 i.2.1.2.2.2,.bool i.2.2.1.1,.slice i.2.2.1.2.1 i.2.2.1.2.2.1 i.2.2.1.2.2.2,.map (some i.2.2.2.1),.map (some i.2.2.2.2)]) (H8 (CF.num 1) (L.take i.1)) (2^i.1-1)/\m'=PH.mt)
  (fun i=>ss.length-i.1) (0,(b,a,n,c),(b',K,n',P),g1,g2) ⟨oV,k2,rfl⟩ ?_
 rintro J ⟨i,⟨b,a,n,c⟩,⟨b',K,n',P⟩,g1,g2⟩ hJ u3 m3 l3 ⟨hi,H,rfl⟩;simp only at hi H hJ;have m:=l2.trans l3;by_cases d:i<ss.length
 ·refine G.lT i ss.length ?_;obtain⟨bb,E,rfl,e⟩:=R2 (Z.mono m) d;refine G.a bb E ss.length yc i 1 d<|G.lU none bb (E+i*1) (.string (mkS (ss.getD i []))) e ?_;have C:ss.getD i []=ss[i]:=by simp[A0j,A0i d]
  have z:T[i]?=some T[i]:=A0i oV;have t:L[i]?=some (H6 F lab i (ss.getD i [])):=by rw[I,C];exact Ji (A0i d)
  have Y:(H6 F lab i (ss.getD i [])).Small:=g _ (A0w t);have hv:=hT.val i _ _ z (A0i d);rw[<-C]at hv;refine G.c call150 (J7.all (Ahp (hX.mono m) (ok.mono m) z hv)) ?_;intro v4 u4 l4 k4;obtain⟨b4,a4,n4,c4,a8,a7,aj,a9,ab,ac,rfl⟩:=Rk k4;have X:2^i<=2^7:=A1h oV oV;have ad:1<=2^i:=Nat.one_le_two_pow;obtain⟨U,aa⟩:=Si g i oV;have j:H8 (CF.num 1) (L.take (i+1))=(H8 (CF.num 1) (L.take i)).mul (H6 F lab i (ss.getD i [])).cf:=by
   rw[A0t,t];exact Aal _ _ _
  refine G.c call149 (J7.all (Aos (H.mono l4) k4 (Ay3 U Y.cfd oV (Azt oV) (Nat.pos_of_ne_zero mV) oV))) ?_;intro v5 u5 l5 k5;obtain⟨b5,a5,n5,c5,O,N,a3,Q,V,W,rfl⟩:=Rk k5;refine G.i i ?_;rw[<-j]at k5;exact G.b (hJ (i+1,(b5,a5,n5,c5),(O,N,a3,Q),V,W) _ _ _ cV ((l3.trans l4).trans l5) ⟨dV,k5.up (by dsimp only;rw[A1w];omega),rfl⟩ dV)
 obtain rfl:i=ss.length:=oV;refine G.lF ss.length ss.length ?_;have a2:L.take ss.length=L:=by rw[A00 oV]
 have a1:CFS (H8 (CF.num 1) L):=by
  obtain⟨q1,_⟩:=Si g L.length (A0s _);rw[A05]at q1;exact q1.cfs oV (Az9 oV)
 rw[a2]at H;have X:2^ss.length<=2^8:=A1h oV oV;exact G.r (.agg #[.bool b,.slice a n c,.bool b',.slice K n' P,.map (some g1),.map (some g2)]) ⟨rfl,H.up oV,a1⟩
end
section
variable {u:PH}
def Sl {p:Par}(h:PV p):Fn0 prog 124 [An p] u fun v _=>v=.bool true:=by
 refine Fn0.o func124<|G.hT' p.1 (-1) (by have:=h.lo;omega) ?_;by_cases d:p.2 = []
 ·exact G.q p.2 [] d<|G.r (.bool true) ⟨rfl,rfl⟩
 refine G.w p.2 [] d<|G.c call123 (R6 (h.cat.resolve_left d)) ?_;rintro j g e rfl;exact G.r (.bool true) ⟨rfl,rfl⟩
def ElP.par {b e:Nat}{x:Par×Rat}(h:ElP u b e (As x)):ElP u b (e+0) (.agg #[.int .i64 x.1.1,.string (mkS x.1.2)]):=h.sub fun i y d=>by
 match i,d with
 |0,d=>simpa[As,Value.cells] using d
 |1,d=>simpa[As,Value.cells] using d
 |i+2,d=>simp[Value.cells]at d
def Ahx {v:Value}{F:CF}{K:Nat}(h:J0 u v F K)(sF:CFS F)(vF:CFV F)(hK:K<=1000000):Fn0 prog 54 [v] u fun r _=>r=.bool true:=by
 obtain⟨T,Q,a1,U,a2,V,rfl,hT,hQ,cT,cQ,kT,kQ⟩:=h;refine Fn0.o func54<|G.c call86 (D9 (SB.tx sF.c)) ?_;rintro v1 u1 l1 rfl;refine G.l (ι:=Nat) (fun i=>[(1,.p 0 0),(12,sV a1 T.length U),(13,iV T.length),(14,iV i)])
  (fun _=>[(0,⟨34,[tV (Ag F.c),sV a1 T.length U,sV a2 Q.length V]⟩)])
  (fun i u' m'=>i<=T.length/\m'=PH.mt) (fun i=>T.length-i) 0 ⟨oV,rfl⟩ ?_
 rintro J i R u2 m2 l2 ⟨hi,rfl⟩;have P:=l1.trans l2;by_cases g:i<T.length
 ·refine G.lT i T.length ?_;obtain⟨x,I⟩:∃ x,T[i]?=some x:=⟨_,A0i g⟩;have m:=A0w I;obtain⟨d,n⟩:=cT.val _ m;obtain⟨C,E,rfl,ea⟩:=Ab.at' (hT.mono P) (j:=i) (e:=As x) (by simp[I]);have L:SB x.2:=by rw[d];exact sF.s _
  have a5:PV x.1:=vF.s x.1 (by rw[<-d];exact n);refine G.a C E T.length U i 3 g<|G.lU (some 3) C (E+i*3) (.agg #[.int .i64 x.1.1,.string (mkS x.1.2),.string (mkS (Ag x.2))]) ea<|G.c call124 (Sl a5) ?_;rintro v3 u3 N rfl;refine G.c call86 (D9 (SB.tx L)) ?_;rintro v4 u4 O rfl;refine G.w (Ag x.2) [48] (Rw n) ?_;by_cases h0:i=0
  ·subst h0;exact G.gF (0:Nat) 0<|G.p (0:Nat) 1 (0+1:Nat)<|G.b (R (0+1) _ _ _ cV ((l2.trans N).trans O) ⟨oV,rfl⟩ oV)
  refine G.gT i 0<|G.s i 1 (i-1:Nat) ?_;obtain⟨y,X⟩:∃ y,T[i-1]?=some y:=⟨_,A0i oV⟩;have z:Bf y.1 x.1<0:=by
   have hp:=cT.srt;obtain⟨h1,rfl⟩:=A0o.1 I;obtain⟨h2,rfl⟩:=A0o.1 X;have:=A3c.1 hp (i-1) i (by rw[A0k];omega) (by rw[A0k];omega) oV;rw[A3u,A3u]at this;exact this
  obtain⟨bb,ob,e1,eb⟩:=Ab.at' (hT.mono ((P.trans N).trans O)) (j:=i-1) (e:=As y) (by simp[X]);cases e1;refine G.a C E T.length U (i-1) 3 oV<|G.f 80 C (E+(i-1)*3) 0 0<|G.lU (some 2) C (E+(i-1)*3+0) (.agg #[.int .i64 y.1.1,.string (mkS y.1.2)]) eb.par<|G.c call125 (Ev y.1 x.1 true (decide_eq_true z)) ?_;rintro v5 u5 Z rfl;exact G.i i<|G.b (R (i+1) _ _ _ cV (((l2.trans N).trans O).trans Z) ⟨oV,rfl⟩ oV)
 obtain rfl:i=T.length:=oV;refine G.lF T.length T.length ?_;clear R;refine G.l (ι:=Nat) (fun i=>[(1,.p 0 0),(53,sV a2 Q.length V),(54,iV Q.length),(55,iV i)])
  (fun _=>[(0,⟨34,[tV (Ag F.c),sV a1 T.length U,sV a2 Q.length V]⟩)])
  (fun i u' m'=>i<=Q.length/\m'=PH.mt) (fun i=>Q.length-i) 0 ⟨oV,rfl⟩ ?_
 rintro J i R u3 m3 N ⟨hi,rfl⟩;have a0:=P.trans N;by_cases g:i<Q.length
 ·refine G.lT i Q.length ?_;obtain⟨x,H⟩:∃ x,Q[i]?=some x:=⟨_,A0i g⟩;have m:=A0w H;obtain⟨d,n⟩:=cQ.val _ m;obtain⟨C,E,rfl,ea⟩:=Ab.at' (hQ.mono a0) (j:=i) (e:=D6 x) (by simp[H]);have L:SB x.2:=by rw[d];exact sF.t _
  obtain⟨a3,a4,Y⟩:=vF.t x.1 (by rw[<-d];exact n);refine G.a C E Q.length V i 5 g<|G.lU (some 5) C (E+i*5) (.agg #[.int .i64 x.1.1.1,.string (mkS x.1.1.2),.int .i64 x.1.2.1,.string (mkS x.1.2.2),.string (mkS (Ag x.2))]) ea<|G.c call124 (Sl a3) ?_;rintro v3 u4 O rfl;refine G.c call124 (Sl a4) ?_;rintro v4 u5 Z rfl;refine G.c call125 (Ev x.1.2 x.1.1 false (decide_eq_false fun e=>Y ((Dl.sym _ _).1 e))) ?_;rintro v5 u6 l6 rfl;refine G.c call86 (D9 (SB.tx L)) ?_;rintro v6 u7 l7 rfl;refine G.w (Ag x.2) [48] (Rw n) ?_;by_cases h0:i=0
  ·subst h0;exact G.gF (0:Nat) 0<|G.p (0:Nat) 1 (0+1:Nat)<|G.b (R (0+1) _ _ _ cV ((((N.trans O).trans Z).trans l6).trans l7) ⟨oV,rfl⟩ oV)
  refine G.gT i 0<|G.s i 1 (i-1:Nat) ?_;obtain⟨y,W⟩:∃ y,Q[i-1]?=some y:=⟨_,A0i oV⟩;have z:Nk y.1 x.1<0:=by
   have hp:=cQ.srt;obtain⟨h1,rfl⟩:=A0o.1 H;obtain⟨h2,rfl⟩:=A0o.1 W;have:=A3c.1 hp (i-1) i (by rw[A0k];omega) (by rw[A0k];omega) oV;rw[A3u,A3u]at this;exact this
  obtain⟨bb,ob,e1,eb⟩:=Ab.at' (hQ.mono ((((a0.trans O).trans Z).trans l6).trans l7)) (j:=i-1) (e:=D6 y) (by simp[W]);cases e1;refine G.a C E Q.length V (i-1) 5 oV<|G.lU (some 5) C (E+(i-1)*5) (D6 y) eb<|G.c call126 (Qe y x true (decide_eq_true z)) ?_;rintro v5 u8 l8 rfl;exact G.i i<|G.b (R (i+1) _ _ _ cV (((((N.trans O).trans Z).trans l6).trans l7).trans l8) ⟨oV,rfl⟩ oV)
 obtain rfl:i=Q.length:=oV;exact G.lF Q.length Q.length<|G.r (.bool true) ⟨rfl,rfl⟩
end
theorem Src.h0or (s:Src)(k d:Nat)(j:PH)(g:Nat):s.M k g=none\/(j.or (s.M d)) g≠none:=by
 rcases s.h0 k d g with e|e
 ·grind
 right;intro h;cases hx:j g with
 |some o=>rw[PH.or_l hx]at h;cases h
 |none=>rw[PH.or_r hx]at h;exact e h
abbrev Cr:Type:=List (List UInt8)×Nat×(Option Addr×Nat)
def Fy (y:Cr):Value:=.agg #[.slice y.2.2.1 y.1.length y.2.2.2,.int .i64 y.2.1]
def Aea (x:Cr):Bm 2 [Fy x]:=by
 intro e d;simp at d;subst d;exact⟨rfl,fun y g=>by simp[Fy,Value.cells]at g;rcases g with rfl|rfl<;>rfl⟩
def Acr (a:Option Addr)(c:Nat)(L:List Cr):Arr:=⟨.slice a L.length c,44,2,L.map Fy⟩
def Atx {a:Option Addr}{c:Nat}{L:List Cr}{m0 m:PH}:(Acr a c L).At m0 m=Af m0 m (.slice a L.length c) 44 2 (L.map Fy):=rfl
def WOK (u:PH)(T:List (List UInt8×Nat))(L:List Cr):Prop:=∀ y∈L,Ab u (.slice y.2.2.1 y.1.length y.2.2.2) 1 (y.1.map nmV)/\Bp T y.1/\1<=y.2.1/\y.2.1<=7
def WOK.mono {u u':PH}{T:List (List UInt8×Nat)}{L:List Cr}(h:WOK u T L)(hl:PH.le u u'):WOK u' T L:=fun y hy=>⟨(h y hy).1.mono hl,(h y hy).2⟩
def Anc {u:PH}{v H:Value}{T:List (Par×Rat)}(h:Ab u v 3 (T.map As))(g:Ab u H 3 (T.map As))(Q:T.length<=1000000) :
 Fn0 prog 41 [v,H] u fun r _=>r=.bool true:=by
 obtain⟨a,c,rfl⟩:=h.opn;obtain⟨I,C,rfl⟩:=g.opn;rw[A0k]at h g⊢;refine Fn0.o func41<|G.nF T.length T.length<|G.l (ι:=Nat) (fun i=>[(0,sV a T.length c),(1,sV I T.length C),(12,iV T.length),(13,iV i)]) (fun _=>[])
  (fun i U O=>i<=T.length/\O=PH.mt) (fun i=>T.length-i) 0 ⟨oV,rfl⟩ ?_
 rintro J i N V R n ⟨P,rfl⟩;by_cases m:i<T.length
 ·refine G.lT i T.length ?_;have d:T[i]?=some T[i]:=A0i m;obtain⟨t,E,rfl,K⟩:=Ab.at' (h.mono n) (j:=i) (e:=As T[i]) (by simp[d]);obtain⟨z,F,rfl,L⟩:=Ab.at' (g.mono n) (j:=i) (e:=As T[i]) (by simp[d]);exact G.a t E T.length c i 3 oV<|G.lU (some 3) t (E+i*3) (As T[i]) K<|G.a z F T.length C i 3 oV<|G.lU (some 3) z (F+i*3) (As T[i]) L<|G.neAgg 80 #[.int .i64 T[i].1.1,.string (mkS T[i].1.2),.string (mkS (Ag T[i].2))] #[.int .i64 T[i].1.1,.string (mkS T[i].1.2),.string (mkS (Ag T[i].2))] true kV kV kV (Awq T[i])<|G.i i<|G.b (N (i+1) _ _ _ cV n ⟨oV,rfl⟩ oV)
 obtain rfl:i=T.length:=oV;exact G.lF T.length T.length<|G.r (.bool true) ⟨rfl,rfl⟩
section
variable {F:List Ao}{R:List Bw}{T:List (List UInt8×Nat)}{lab:Int}{u:PH}
def Je {α:Type}{p:List α->Prop}(h0:p [])(h1:∀ l a,p l->p (l++[a]))(l:List α):p l:=by
 have:∀ r:List α,p r.reverse:=fun r=>by
  induction r with
  |nil=>exact h0
  |cons a r ih=>rw[List.reverse_cons];exact h1 _ _ ih
 have:=this l.reverse;rwa[List.reverse_reverse]at this
noncomputable def Ax (F:List Ao)(lab:Int)(L:List Cr):CF:=L.foldl (fun C y=>C.add ((cfT F lab y.1).scale (y.2.1:Rat))) (CF.num 0)
def F9 (F:List Ao)(lab:Int)(L:List Cr)(y:Cr):Ax F lab (L++[y])=(Ax F lab L).add ((cfT F lab y.1).scale (y.2.1:Rat)):=by
 unfold Ax;rw[A6m];rfl
def Ats {w:Nat}(h:w<=7):Dn 0 7 (w:Rat):=⟨(w:Int),by simp[A1f],by simpa using h⟩
def Apf {ss:List (List UInt8)}(ok:B2 u T R F lab)(e:Bp T ss):CFD (2*T.length) (1374926400^T.length) (cfT F lab ss)/\CFV (cfT F lab ss):=by
 have d:=Ng ok e;have g:(Fe F lab ss).length=T.length:=by rw[Hn];exact e.len
 have:=Si d (Fe F lab ss).length (A0s _);rw[A05,g]at this;exact this
theorem Akz (ok:B2 u T R F lab):∀ {L:List Cr},(∀ y∈L,Bp T y.1/\y.2.1<=7)->CFD (2*T.length) (L.length*(1374926400^T.length*7)) (Ax F lab L)/\CFV (Ax F lab L):=by
 intro L;induction L using Je with
 |h0=>exact fun _=>⟨CFD.count (Dn.zero _ _),CFV.count 0⟩
 |h1 L y ih =>
  intro h;obtain⟨i1,i2⟩:=ih fun z hz=>h z (A3d _ hz);obtain⟨h1,h2⟩:=h y mV;obtain⟨c1,c2⟩:=Apf ok h1;rw[F9];refine⟨?_,i2.add (c2.scale _)⟩;have:=i1.add (c1.scale (Ats h2));rw[A03,A28,A1m,A27];exact this
end
section
variable {F:List Ao}{T:List (List UInt8×Nat)}{lab:Int}
theorem Axc {ss:List (List UInt8)}(hF:Ej T F lab)(j:Bp T ss)(d:-1<=lab)(e:∀ l:Nat,lab=(l:Int)->l<ss.length) :
 ((cfT F lab ss).c=1/\∀ p q,(cfT F lab ss).t (Aw p q)=(cfT F lab ss).s p*(cfT F lab ss).s q)\/((cfT F lab ss).c=0/\(∀ p,(cfT F lab ss).s p=0)/\∀ k,(cfT F lab ss).t k=0):=by
 cases hc:Df F lab ss with
 |false=>right;rw[Ar7 hF j d e hc];exact⟨rfl,fun _=>rfl,fun _=>rfl⟩
 |true =>
  left;have g:=Ajj hF j d e hc;refine⟨g.c,fun p q=>?_⟩;rw[g.t,if_neg (Tg p q)];by_cases h:0<Bf p q
  ·rw[Rx h];grind
  rw[H7 h]
def Ai8 (n:Nat):(0:Rat)<=(n:Rat):=by
 have:((0:Nat):Rat)<=(n:Rat):=by exact_mod_cast A1c n
 exact this
theorem Ayz (hF:Ej T F lab)(h1:-1<=lab)(h2:∀ l:Nat,lab=(l:Int)->l<T.length):∀ {L:List Cr},(∀ y∈L,Bp T y.1/\y.2.1<=7)->∃ k:Nat,(Ax F lab L).c=(k:Rat)/\k<=7*L.length:=by
 intro L;induction L using Je with
 |h0=>exact fun _=>⟨0,rfl,mV⟩
 |h1 L y ih =>
  intro h;obtain⟨k,hk,hkl⟩:=ih fun z hz=>h z (A3d _ hz);obtain⟨hy,hw⟩:=h y mV;have hlen:=hy.len;rw[F9];show ∃ k:Nat,(Ax F lab L).c+(cfT F lab y.1).c*(y.2.1:Rat)=(k:Rat)/\_;rw[hk];rw[A03,A28];rcases Axc hF hy h1 (fun l hl=>by have:=h2 l hl;omega) with ⟨e1,_⟩|⟨e1,_⟩
  ·exact⟨k+y.2.1,by rw[e1,A4f];grind,oV⟩
  ·exact⟨k,by rw[e1];grind,oV⟩
end
section
variable {a b c d:Nat}{q:Rat}
def De (a b:Nat)(q:Rat):Prop:=∃ (k:Int) (D:Nat),q*(D:Rat)=(k:Rat)/\0<D/\k.natAbs<10^a/\D<10^b
def Jf {D:Nat}(h:0<D):(D:Rat)≠0:=by
 intro e;have g:(D:Rat)=((0:Nat):Rat):=e;have:=A88.1 g;omega
def De.mono (h:De a b q)(h1:a<=c)(h2:b<=d):De c d q:=by
 obtain⟨k,D,e,h0,h3,h4⟩:=h;exact⟨k,D,e,h0,A12 h3 (A1h oV h1),A12 h4 (A1h oV h2)⟩
def L6 {x y a b:Nat}(e:x<10^a)(g:y<10^b):x*y<10^(a+b):=by
 rw[A4k];exact Nat.mul_lt_mul'' e g
theorem De.add {a b c d f:Nat}{q r:Rat}(h:De a b q)(n:De c d r)(t:a+d<=f)(u:c+b<=f):De (f+1) (b+d) (q+r):=by
 obtain⟨k,D,e,h0,z,g⟩:=h;obtain⟨l,E,m,C,F,j⟩:=n;refine⟨k*(E:Int)+l*(D:Int),D*E,?_,A5e h0 C,?_,L6 g j⟩
 ·rw[A44,A1v,A1v,<-e,<-m,A4e,A1f,A1f];grind
 have g1:(k*(E:Int)).natAbs<10^f:=by
  rw[A2t];exact A12 (L6 z (by simpa using j)) (A1h oV t)
 have g2:(l*(D:Int)).natAbs<10^f:=by
  rw[A2t];exact A12 (L6 F (by simpa using g)) (A1h oV u)
 rw[A1w];omega
theorem De.nat {a n:Nat}(h:n<10^a):De a 1 (n:Rat):=⟨(n:Int),1,by rw[A1f];show (n:Rat)*1=_;grind,oV,by simpa using h,oV⟩
theorem De.frac (h:De a b q):q.num.natAbs<10^a/\q.den<10^b:=by
 obtain⟨k,D,j,hp,m,C⟩:=h;have n:q=Rat.divInt k (D:Int):=by
  rw[A3l,A1f,<-j];have:=Jf hp;grind
 obtain⟨e,g,t⟩:=Ok (y:=k) (z:=(D:Int)) oV;rw[n];constructor
 ·rw[e,A8a];exact A2i (A24 _ _) m
 have u:((Rat.divInt k (D:Int)).den:Int)<=(D:Int):=by
  rw[g,show ((D:Int)).natAbs=D from rfl,A3i oV,<-A5c];exact Bad.2 (A24 _ _)
 omega
def De.tx (h:De a b q)(n:0<a)(e:a<=400)(t:0<b)(g:b<=400):Tx q:=by
 obtain⟨j,m⟩:=h.frac;exact⟨A0l (Dr n j) e,A0l (Dr t m) g⟩
def De.szn (h:De a b q)(j:0<a)(e:a<=400)(m:0<b)(g:b<=400):Sz q 400:=(h.tx j e m g).sz
end
end Go.Proofs.YtdgncafgglafjaaGreatDoor
