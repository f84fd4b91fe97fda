import Derived.Test.YtemmheaocgmebaaGreatDoorV14
set_option linter.defProp false
set_option linter.unusedVariables false
set_option linter.unusedSimpArgs false
set_option linter.unusedSectionVars false
set_option maxHeartbeats 16000000
namespace Go.Proofs.YtemmheaocgmebaaGreatDoor
open Go.Proofs.Tryz
open Go.RowKit Go.MapKept
section
variable {i n:Nat}{x:Par->Rat}
def Atn {m:PH}{b:Nat}(o:Obj)(h:m b=none):m.upd b o=(Pj b o).or m/\Hp (Pj b o) m:=by
 constructor
 ·funext k
  by_cases e:k=b
  ·subst e;rw[Ab,PH.or_l (Ck k o)]
  rw[Ad _ _ e,PH.or_r (Mz o e)]
 intro k;by_cases e:k=b
 ·subst e;exact .inr h
 exact .inl (Mz o e)
def Ayd {Z:zM}{i k:Nat}{y:Rat}(h:Rec n n Z)(hi:i<n)(j:k<n)(a b:Nat):en (Z.set i ((gM Z i).set k y)) a b=if i=a then (if k=b then y else en Z i b) else en Z a b:=by
 unfold en;rw[Kb (by rw[h.1];exact hi)];by_cases e:i=a
 ·rw[if_pos e,if_pos e,Aht (by rw[h.2 i hi];exact j)]
 rw[if_neg e,if_neg e]
def F6.cellG {u:PH}{a:zP}{n c:Nat}{t:zR}(h:F6 u (.slice a n c) t){j:Nat}(E:j<t.length):∃ b off f,a=some ⟨b,off,none⟩/\ElP u b (off+j*4) (fv f)/\Bg u (fv f) (gR t j):=by
 obtain⟨b,off,e,rfl,H,m⟩:=LP.at h (A01 E);rw[<-Cu E]at m;obtain⟨f,rfl⟩:=m.opF;exact⟨b,off,f,rfl,H,m⟩
section
variable {u:PH} {tv:Value} {T:zC} {R:List Br} {F:List Al} {l:Nat} {ss:zW} {P:List Par} {X:zM} {b:zR} {s c q:Rat} {w:Int} {C:CF}
variable {pa xa ra a1 a2 a3:zP} {pc xc rc c1 c2 c3:Nat}
def Ae6 (hi:i<P.length+1):gR (Io (P.length+1) X (Ko P x) false) i=Fy (P.length+1) (en X) (Fg P x) i:=by
 rw[Xv hi];exact Ah fun k e=>by rw[V1 e];rfl
def Apg (hi:i<P.length+1):gR (Io (P.length+1) X (Ko P x) true) i=Fy (P.length+1) (fun i k=>en X k i) (Fg P x) i:=by
 rw[Xv hi];exact Ah fun k e=>by rw[V1 e];rfl
def Axi {w:Rat}:1+w*Vq (P.length+1) (gR (Ko P x)) (gR (Io (P.length+1) X (Ko P x) false))=byN (P.length+1) (en X) (Fg P x) w:=by
 unfold byN Vq
 congr 2
 exact Ah fun k e=>by rw[V1 e,Ae6 e]
def Amb (ht:Hx u)(h:Mv u (.agg #[.slice a1 T.length c1,.slice a2 R.length c2,.slice a3 F.length c3,.int .i64 l]) tv T R F (l:Int) ss)(hc:Av5 F l P ss)
 (hP:Ac u (.slice pa P.length pc) 2 (P.map Ap)) (hX:C7 u (.slice xa (P.length+1) xc) (Cv X)) (hR:Cj u (.slice ra (P.length+1) rc) (b.map Ae)) (hp:Td F P q) (ef:P≠[]) (hB:Ah3 P X b s c) (hL:∃ L,Y5 X L 86) (h5:P.length<=5) (ei:w≠0) (ej:-1000000000000<=w) (ek:w<=1000000000000)
 (br:byN (P.length+1) (en X) (Fg P (cfT F (l:Int) ss).s) (w:Rat)≠0) (ah:Ah3 P (Nj (P.length+1) X (Fg P (cfT F (l:Int) ss).s) (w:Rat)) (Pq P b (cfT F (l:Int) ss).s (w:Rat) ((cfT F (l:Int) ss).s B7)) (s+(w:Rat)*(cfT F (l:Int) ss).s B7*(cfT F (l:Int) ss).s B7) (c+(w:Rat))) :
 Fn0 prog 57 [stV pa P.length pc xa xc ra rc s c q a1 T.length c1 a2 R.length c2 a3 F.length c3 (l:Int),tv,.int .i64 w] u fun r u'=>∃ sv,r=.tuple #[sv,.int .i64 0] /\
  Ma u' sv P (Nj (P.length+1) X (Fg P (cfT F (l:Int) ss).s) (w:Rat)) (Pq P b (cfT F (l:Int) ss).s (w:Rat) ((cfT F (l:Int) ss).s B7)) (s+(w:Rat)*(cfT F (l:Int) ss).s B7*(cfT F (l:Int) ss).s B7) (c+(w:Rat)) q:=by
 have cl:=Aog (w:=w) ht h hc hP hX hR hp hB hL h5 ei ej ek;have ed:=fun (u':PH) (l1:PH.le u u')=>Amh (h.mono l1);obtain⟨ee,d0,cz⟩:=Azi h.ok h.fit hc.cnt;have eg:=Abm (P:=P) h.ok.feat h.fit h.ok.l1 h.lt hc.cnt hp.par;have b6:SzL (Ko P (cfT F (l:Int) ss).s) 1:=fun x hx=>(eg x hx).sz;generalize (cfT F (l:Int) ss).s=x at *
 have ae:=hB.sq;have ai:Rec (P.length+1) (P.length+1) X:=⟨hB.n,fun i hi=>by have:=hB.n;rw[Ch oV];rw[ae.row _ (A09 oV),hB.n]⟩;have cj:Rec (P.length+1) (P.length+1) (Nj (P.length+1) X (Fg P x) (w:Rat)):=Rh _ _;have ch:∀ i k,i<P.length+1->k<P.length+1->Tx (en X i k):=fun i k hi hk=>by
  have U:i<X.length:=by rw[ai.1];exact hi
  have h2:=ai.2 i hi;rw[Ch U]at h2;have h3:k<X[i].length:=oV;unfold en;rw[Ch U,Cu h3];exact ae.tx _ (A09 U) _ (A09 h3)
 have ck:∀ i k,i<P.length+1->k<P.length+1->Tx (Vd (P.length+1) (en X) (Fg P x) (w:Rat) i k):=fun i k hi hk=>by
  rw[<-N6 (f:=Vd (P.length+1) (en X) (Fg P x) (w:Rat)) hi hk];have U:i<(Nj (P.length+1) X (Fg P x) (w:Rat)).length:=by rw[cj.1];exact hi
  have h2:=cj.2 i hi;rw[Ch U]at h2;have h3:k<(Nj (P.length+1) X (Fg P x) (w:Rat))[i].length:=oV;show Tx (gR (gM (Nj (P.length+1) X (Fg P x) (w:Rat)) i) k);rw[Ch U,Cu h3];exact ah.sq.tx _ (A09 U) _ (A09 h3)
 have K:Sz (w:Rat) 2:=⟨A4 gV,A4 mV⟩;have bp:=hB.n;have ad:=hB.bn;have bk:=fun (u':PH) (l1:PH.le u u')=>Yg (t1:=Ae s) (t2:=Ae c) (t3:=Ae q) (hP.mono l1) (show C7 u' (.slice xa X.length xc) (Cv X) by rw[bp];exact hX.mono l1) (show Cj u' (.slice ra b.length rc) (b.map Ae) by rw[ad];exact Ac.mono hR l1) ef (by intro e;rw[e]at ad;simp at ad) (fun r hr e=>by have:=ae.row r hr;rw[e]at this;simp at this;omega) oV oV (fun r hr=>by rw[ae.row r hr];omega) oV;refine Fn0.o func57<|G.c call68 cl ?_;rintro v1 u1 l1 ⟨xv,rfl,kx⟩;obtain⟨ax,cx,rfl⟩:=kx.lp.opn;have b7:=Ad6 P x;rw[b7]at kx⊢;refine G.nF 0 0<|G.c call128 (Wa (z:=w) oV oV) ?_;intro v2 u2 l2 kw;obtain⟨fw,rfl⟩:=kw.opF;have dl:=l1.trans l2;refine G.c call70 (Aeu (n:=P.length+1) (S:=1) false (hX.mono dl) ai ae.tx (kx.mono l2) b7 oV b6 oV) ?_;rintro v3 u3 l3 ⟨kr,sr⟩;obtain⟨ar,cr,rfl⟩:=kr.lp.opn;rw[F1]at kr⊢;have dm:=dl.trans l3;refine G.c call70 (Aeu (n:=P.length+1) (S:=1) true (hX.mono dm) ai ae.tx (kx.mono (l2.trans l3)) b7 oV b6 oV) ?_;rintro v4 u4 l4 ⟨kc,sc⟩;obtain⟨ac,cc,rfl⟩:=kc.lp.opn;rw[F1]at kc⊢;have ep:=dm.trans l4;refine G.c call128 (Wa (z:=1) oV oV) ?_;intro v5 u5 l5 k1;rw[show ((1:Int):Rat)=1 from rfl]at k1;obtain⟨f1,rfl⟩:=k1.opF;refine G.c call69 (As6 (n:=P.length+1) (S:=1) (S':=1+(P.length+1)*(400+1+1)) (kx.mono (((l2.trans l3).trans l4).trans l5)) (kr.mono (l4.trans l5)) b7 (F1 _ _ _ _) oV b6 sr (by
  have h6:(P.length+1)*(400+1+1)<=6*(400+1+1):=A13 _ oV;have h7:(P.length+1)*(1+(1+(P.length+1)*(400+1+1))+1)<=6*(1+(1+6*(400+1+1))+1):=A25 oV oV;omega)) ?_
 rintro v6 u6 l6 ⟨kd,sd⟩;have h6:(P.length+1)*(400+1+1)<=6*(400+1+1):=A13 _ oV;have h7:(P.length+1)*(1+(1+(P.length+1)*(400+1+1))+1)<=6*(1+(1+6*(400+1+1))+1):=A25 oV oV;replace sr:SzL _ 2413:=sr.mono oV;replace sc:SzL _ 2413:=sc.mono oV;replace sd:Sz _ 14500:=sd.mono oV;obtain⟨fd,rfl⟩:=kd.opF;have du:=Fx K sd;refine G.c call130 (Ga (kw.mono (((l3.trans l4).trans l5).trans l6)) kd (K.mono oV) (sd.mono oV)) ?_;intro v7 u7 l7 k7;obtain⟨f7,rfl⟩:=k7.opF;have dq:Sz (1:Rat) 1:=Adt (z:=1) fV;refine G.c call129 (Lq (k1.mono (l6.trans l7)) k7 (dq.mono oV) (du.mono oV)) ?_;intro v8 u8 l8 k8;have bb:=R5 dq du;rw[Axi]at k8 bb;obtain⟨f8,rfl⟩:=k8.opF;refine G.c call131 (Anr k8 bb oV) ?_;rintro v9 u9 l9 rfl;refine G.eF' (sg (byN (P.length+1) (en X) (Fg P x) (w:Rat))) 0 (fun e=>br (Aip.1 e)) ?_;have ba:=(((l5.trans l6).trans l7).trans l8).trans l9;have dp:=ep.trans ba;have bs:=bk u9 dp;rw[bp,ad]at bs;refine G.callO _ _ kV call86 bs ?_;rintro fp fl er av ⟨qa,qc,ya,yc,sa,E,I,rfl,cd,a5,a4⟩ _;rw[By];have bo:I.length=P.length+1:=by have:=congrArg List.length a5;simpa[bp] using this
 obtain⟨go,co,eo⟩:=a4.ptr 1 rfl (fun e=>by
  have:(I.map (·.1)).length=0:=by rw[show I.map (·.1) = [] from e];rfl
  rw[A03]at this;omega)
 have dz:(Value.slice ya (P.length+1) yc)=.slice (some ⟨go,0,none⟩) (P.length+1) co:=by
  have e1:(oT (.slice ya (P.length+1) yc) I).v=Value.slice ya (P.length+1) yc:=rfl;rw[e1]at eo;rw[eo];have:(oT (.slice ya (P.length+1) yc) I).es.length=P.length+1:=by show (I.map (·.1)).length=_;rw[A03,bo]
  rw[this]
 cases dz;obtain⟨gs,cs,c8⟩:=a4.ptr 0 rfl (fun e=>by
  have:(txV b).length=0:=by rw[show txV b = [] from e];rfl
  rw[Bgm]at this;omega)
 have e5:(Value.slice sa (P.length+1) E)=.slice (some ⟨gs,0,none⟩) (P.length+1) cs:=by
  have e1:(Bu (.slice sa (P.length+1) E,txV b)).v=Value.slice sa (P.length+1) E:=rfl;rw[e1]at c8;rw[c8];have:(Bu (.slice sa (P.length+1) E,txV b)).es.length=P.length+1:=by show (txV b).length=_;rw[Bgm,ad]
  rw[this]
 cases e5;refine G.pastI<|G.pub 12000 39 [.int .i64 0] kV kV ?_;intro gf fb cp;obtain⟨e0,e2⟩:=Atn (.cells [Value.int .i64 0].toArray 39 (0,0)) cp;rw[e0];refine G.giveP (ma:=Pj gf (.cells [Value.int .i64 0].toArray 39 (0,0))) (sm:=er) kV rfl e2 (fun g=>.inl rfl) ?_;intro ex af d1;have eb:ex gf=some (.cells #[.int .i64 0] 39 (0,0)):=d1 _ _ (Ck _ _);have b3:=(((l3.trans l4).trans ba).trans av).trans af;refine G.c call134 (Aqz (kw.mono b3) (k8.mono ((l9.trans av).trans af)) (K.mono oV) (bb.mono oV) br) ?_;intro fq fm aw c4;obtain⟨ff,rfl⟩:=c4.opF;have dr:=Arz K bb br;refine G.c call135 (Asr c4 (A04 dr.1 oV)) ?_;intro fr fn ay d8;obtain⟨ca,rfl⟩:=d8.opF;have ds:=Asu dr;have ab:=aw.trans ay;have dc:=kr.mono (((((l4.trans ba).trans av).trans af).trans aw).trans ay);have db:=kc.mono ((((ba.trans av).trans af).trans aw).trans ay);have df:=kx.mono ((l2.trans b3).trans ab);have dd:=kw.mono (b3.trans ab);have b4:=(((dp.trans av).trans af).trans aw).trans ay;have ce:=cd.mono ((af.trans aw).trans ay);have bw:=ab _ _ eb;have d5:=ht.mono b4;generalize hY:Nj (P.length+1) X (Fg P x) (w:Rat)=Y at *
 have bq:∀ i k,i<P.length+1->k<P.length+1->en Y i k=en X i k + -((w:Rat)/byN (P.length+1) (en X) (Fg P x) (w:Rat))*gR (Io (P.length+1) X (Ko P x) false) i*gR (Io (P.length+1) X (Ko P x) true) k:=fun i k hi hk=>by
  rw[<-hY,show en (Nj (P.length+1) X (Fg P x) (w:Rat)) i k=Vd (P.length+1) (en X) (Fg P x) (w:Rat) i k from N6 hi hk,Ae6 hi,Apg hk];rfl
 have bf:∀ i k,i<P.length+1->k<P.length+1->Tx (en Y i k):=fun i k hi hk=>by
  rw[<-hY,show en (Nj (P.length+1) X (Fg P x) (w:Rat)) i k=Vd (P.length+1) (en X) (Fg P x) (w:Rat) i k from N6 hi hk];exact ck i k hi hk
 generalize d2:Io (P.length+1) X (Ko P x) false=rs at *
 generalize cn:Io (P.length+1) X (Ko P x) true=cls at *
 have fe:rs.length=P.length+1:=by rw[<-d2];exact F1 _ _ _ _
 have fa:cls.length=P.length+1:=by rw[<-cn];exact F1 _ _ _ _
 generalize fj:-((w:Rat)/byN (P.length+1) (en X) (Fg P x) (w:Rat))=dv at *
 clear d2 cn k8 c4 kd k7 k1 bk bs cl;refine G.l (ι:=Nat×List (List Rat)×List (Value×List Value)) (fun i=>[(1,.v tv),(3,.p 0 0),(6,.p 1 0),(8,sV ax (P.length+1) cx),(11,.p 6002 0),(12,sV ar (P.length+1) cr),(13,sV ac (P.length+1) cc),(15,.p 11003 0),(16,.v (.pointer (some ⟨gf,0,none⟩))),(17,.v (.func (.func 132) #[] #[.pointer (some ⟨gf,0,none⟩)])),(18,.p 14004 0),(75,sV (some ⟨go,0,none⟩) (P.length+1) yc),(76,iV (P.length+1:Nat)),(77,iV i.1)])
  (fun _=>[(0,⟨122,[sV pa P.length pc,sV xa (P.length+1) xc,sV ra (P.length+1) rc,tV (Ae s),tV (Ae c),tV (Ae q),sV a1 T.length c1,sV a2 R.length c2,sV a3 F.length c3,iV l]⟩),
   (1,⟨48,[.v (.slice none 0 0),.v (.slice none 0 0),.v (.slice none 0 0),.v (.string (mkS [])),.v (.string (mkS [])),.v (.string (mkS []))]⟩),(6002,⟨143,fc fw⟩),
   (11003,⟨48,[.v (.slice qa P.length qc),.v (.slice (some ⟨go,0,none⟩) (P.length+1) yc),.v (.slice (some ⟨gs,0,none⟩) (P.length+1) E),.v (.string (mkS (Ae s))),.v (.string (mkS (Ae c))),.v (.string (mkS (Ae q)))]⟩),(14004,⟨143,fc ca⟩)])
  (fun i u' m'=>i.1<=P.length+1/\Rec (P.length+1) (P.length+1) i.2.1/\(∀ a e,a<P.length+1->e<P.length+1->en i.2.1 a e=if a<i.1 then en Y a e else en X a e)/\i.2.2.map (·.2)=i.2.1.map txV/\Bag m' (Bu (.slice (some ⟨gs,0,none⟩) (P.length+1) E,txV b)::oT (.slice (some ⟨go,0,none⟩) (P.length+1) yc) i.2.2::i.2.2.map Bu)) (fun i=>P.length+1-i.1)
  (0,X,I) ⟨oV,ai,fun a e _ _=>by rw[if_neg (Nat.not_lt_zero _)],a5,a4⟩ ?_
 clear a4 a5 bo;rintro J ⟨i,Z,a0⟩ hJ ey fk c5 ⟨hi,H,hZ,t,j⟩;simp only at hi H hZ t j hJ;by_cases m:i<P.length+1
 ·refine G.lT i (P.length+1:Nat) ?_;obtain⟨gi,ci,a7,e1,_⟩:=Ayw j t H m;refine G.a go 0 (P.length+1) yc i 1 m<|G.lM none go (0+i*1) (.slice (some ⟨gi,0,none⟩) (P.length+1) ci) e1<|G.l (ι:=Nat×List (List Rat)×List (Value×List Value)) (fun k=>[(1,.v tv),(3,.p 0 0),(6,.p 1 0),(8,sV ax (P.length+1) cx),(11,.p 6002 0),(12,sV ar (P.length+1) cr),(13,sV ac (P.length+1) cc),(15,.p 11003 0),(16,.v (.pointer (some ⟨gf,0,none⟩))),(17,.v (.func (.func 132) #[] #[.pointer (some ⟨gf,0,none⟩)])),(18,.p 14004 0),(19,iV i),(20,sV (some ⟨gi,0,none⟩) (P.length+1) ci),(75,sV (some ⟨go,0,none⟩) (P.length+1) yc),(76,iV (P.length+1:Nat)),(77,iV i),(83,iV (P.length+1:Nat)),(84,iV k.1)])
   (fun _=>[(0,⟨122,[sV pa P.length pc,sV xa (P.length+1) xc,sV ra (P.length+1) rc,tV (Ae s),tV (Ae c),tV (Ae q),sV a1 T.length c1,sV a2 R.length c2,sV a3 F.length c3,iV l]⟩),
    (1,⟨48,[.v (.slice none 0 0),.v (.slice none 0 0),.v (.slice none 0 0),.v (.string (mkS [])),.v (.string (mkS [])),.v (.string (mkS []))]⟩),(6002,⟨143,fc fw⟩),
    (11003,⟨48,[.v (.slice qa P.length qc),.v (.slice (some ⟨go,0,none⟩) (P.length+1) yc),.v (.slice (some ⟨gs,0,none⟩) (P.length+1) E),.v (.string (mkS (Ae s))),.v (.string (mkS (Ae c))),.v (.string (mkS (Ae q)))]⟩),(14004,⟨143,fc ca⟩)])
   (fun k u' m'=>k.1<=P.length+1/\k.2.2[i]?=some (.slice (some ⟨gi,0,none⟩) (P.length+1) ci,txV (gM k.2.1 i))/\Rec (P.length+1) (P.length+1) k.2.1/\(∀ a e,a<P.length+1->e<P.length+1->en k.2.1 a e=if a<i\/a=i/\e<k.1 then en Y a e else en X a e)/\k.2.2.map (·.2)=k.2.1.map txV/\Bag m' (Bu (.slice (some ⟨gs,0,none⟩) (P.length+1) E,txV b)::oT (.slice (some ⟨go,0,none⟩) (P.length+1) yc) k.2.2::k.2.2.map Bu)) (fun k=>P.length+1-k.1)
   (0,Z,a0) ⟨oV,a7,H,fun a e ha he=>by
    dsimp only;rw[hZ a e ha he];by_cases U:a<i
    ·rw[if_pos U,if_pos oV]
    rw[if_neg U,if_neg oV],t,j⟩ ?_
  clear a7 e1 H hZ t j;rintro J2 ⟨k,Z,a0⟩ cb ez et b8 ⟨hk,a7,H,hZ,t,j⟩;simp only at hk a7 H hZ t j cb;have a9:=c5.trans b8;by_cases V:k<P.length+1
  ·refine G.lT k (P.length+1:Nat) ?_;have ak:gR (gM Z i) k=en X i k:=by
    have U:gR (gM Z i) k=en Z i k:=rfl;rw[U,hZ i k m V,if_neg oV]
   have bu:ElP et gi (0+k*1) (.string (mkS (Ae (en X i k)))):=j.el (i+2) (Lw a7) rfl (by
    show (txV (gM Z i))[k]?=_;have cy:k<(gM Z i).length:=by rw[H.2 i m];exact V
    unfold txV;rw[A1a,A01 cy,<-Cu cy,ak];rfl)
   have cu:i<rs.length:=oV;have cw:k<cls.length:=oV;obtain⟨b1,o1,g1,rfl,e3,k3⟩:=(dc.mono a9).cellG cu;obtain⟨b2,o2,g2,rfl,e4,k4⟩:=(db.mono a9).cellG cw;have am:=sr.at cu;have d3:=sc.at cw;refine G.a gi 0 (P.length+1) ci k 1 V<|G.lM none gi (0+k*1) (.string (mkS (Ae (en X i k)))) bu<|G.a b1 o1 (P.length+1) cr i 4 m<|G.lU (some 4) b1 (o1+i*4) (fv g1) e3<|G.a b2 o2 (P.length+1) cc k 4 V<|G.lU (some 4) b2 (o2+k*4) (fv g2) e4<|G.c call130 (Ga (d8.mono a9) k3 (ds.mono oV) (am.mono oV)) ?_;intro f5 f0 az d9;obtain⟨fg,rfl⟩:=d9.opF;have aa:=Fx ds am;refine G.c call130 (Ga d9 (k4.mono az) (aa.mono oV) (d3.mono oV)) ?_;intro ft f2 Q da;obtain⟨fh,rfl⟩:=da.opF;have b5:=Fx aa d3;refine G.c call132 (Q7 (g:=gf) (q:=en X i k) (d5.mono ((a9.trans az).trans Q)) (ch i k m V) da b5 oV (by rw[<-bq i k m V];exact bf i k m V)) ?_;rintro dy dw a8 rfl;rw[<-bq i k m V];obtain⟨m0,ao,al⟩:=j.focus (i+2) (Lw a7);rw[D6]at ao;refine G.a gi 0 (P.length+1) ci k 1 V<|G.storeA 1 m0 (txV (gM Z i)) gi (P.length+1) ci k (.string (mkS (Ae (en Y i k)))) kV ao (by rw[Bgm,H.2 i m];exact V) rfl rfl ?_;intro eu bd;have es:(txV (gM Z i)).set k (.string (mkS (Ae (en Y i k))))=txV ((gM Z i).set k (en Y i k)):=by unfold txV;rw[A2g]
   rw[es]at bd;have bh:=al (Bu (.slice (some ⟨gi,0,none⟩) (P.length+1) ci,txV ((gM Z i).set k (en Y i k)))) eu bd;rw[Agw,<-Aho a7 (es':=txV ((gM Z i).set k (en Y i k)))]at bh;refine G.i k ?_;have ec:i<a0.length:=(A05.1 a7).1;have e9:=I8 H m (r:=(gM Z i).set k (en Y i k)) (by rw[A21];exact H.2 i m);refine G.b (cb (k+1,Z.set i ((gM Z i).set k (en Y i k)),a0.set i (.slice (some ⟨gi,0,none⟩) (P.length+1) ci,txV ((gM Z i).set k (en Y i k)))) _ _ _ cV (((b8.trans az).trans Q).trans a8) ⟨dV,?_,e9,fun a e ha he=>?_,?_,bh⟩ dV)
   ·dsimp only;rw[A1z,if_pos rfl,if_pos ec,Kb (by rw[H.1];exact m),if_pos rfl]
   ·dsimp only;rw[Ayd H m V];by_cases U:i=a
    ·subst U;rw[if_pos rfl];by_cases h2:k=e
     ·subst h2;rw[if_pos rfl,if_pos oV]
     rw[if_neg h2,hZ i e m he];by_cases h3:e<k
     ·rw[if_pos oV,if_pos oV]
     rw[if_neg oV,if_neg oV]
    rw[if_neg U,hZ a e ha he];by_cases h3:a<i
    ·rw[if_pos oV,if_pos oV]
    rw[if_neg oV,if_neg oV]
   dsimp only;rw[A2g,t,<-A2g]
  obtain rfl:k=P.length+1:=oV;refine G.lF (P.length+1:Nat) (P.length+1:Nat)<|G.i i<|G.b (hJ (i+1,Z,a0) _ _ _ cV a9 ⟨dV,H,fun a e ha he=>?_,t,j⟩ dV);dsimp only;rw[hZ a e ha he];by_cases U:a<i+1
  ·rw[if_pos U,if_pos oV]
  rw[if_neg U,if_neg oV]
 obtain rfl:i=P.length+1:=oV;refine G.lF (P.length+1:Nat) (P.length+1:Nat) ?_;clear hJ;have ea:Z=Y:=Aks H (by rw[<-hY];exact Rh _ _) fun a e ha he=>by rw[hZ a e ha he,if_pos ha]
 subst ea;have dj:=b4.trans c5;have aj:=ed ey dj;rw[if_neg (by
  rintro (h|h)
  ·omega
  exact ee h)]at aj
 refine G.c call136 aj ?_;rintro fs ez b8 rfl;rw[A23,d0];refine G.c call133 (Gs cz.tx) ?_;intro f5 f0 az ky;obtain⟨fy,rfl⟩:=ky.opF;have W:=(c5.trans b8).trans az;have dk:=b4.trans W;have dg:=df.mono W;have au:=dd.mono W;have cg:=ce.mono W;have an:=ht.mono dk;have bx:=W _ _ bw;have ag:Sz (x B7) 1:=cz.sz;have cm:=ah.bt;have bj:(Pq P b x (w:Rat) (x B7)).length=P.length+1:=ah.bn;have d4:∀ i,i<P.length+1->gR (Pq P b x (w:Rat) (x B7)) i=gR b i+(w:Rat)*gR (Ko P x) i*x B7:=fun i hi=>by
  unfold Pq;rw[Aep (by rw[A1a,A31 hi];rfl),V1 hi]
 generalize fi:Pq P b x (w:Rat) (x B7)=b' at *
 have bg:Z.length=P.length+1:=H.1;clear hZ H bq bf ck ch;refine G.l (ι:=Nat×List Rat) (fun i=>[(6,.p 1 0),(8,sV ax (P.length+1) cx),(11,.p 6002 0),(15,.p 11003 0),(16,.v (.pointer (some ⟨gf,0,none⟩))),(17,.v (.func (.func 132) #[] #[.pointer (some ⟨gf,0,none⟩)])),(24,.p 25002 0),(120,iV (P.length+1:Nat)),(121,iV i.1)])
  (fun _=>[(1,⟨48,[sV none 0 0,sV none 0 0,sV none 0 0,tV [],tV [],tV []]⟩),(6002,⟨143,fc fw⟩),
   (11003,⟨48,[.v (.slice qa P.length qc),.v (.slice (some ⟨go,0,none⟩) (P.length+1) yc),.v (.slice (some ⟨gs,0,none⟩) (P.length+1) E),.v (.string (mkS (Ae s))),.v (.string (mkS (Ae c))),.v (.string (mkS (Ae q)))]⟩),(25002,⟨143,fc fy⟩)])
  (fun i u' m'=>i.1<=P.length+1/\i.2.length=P.length+1/\(∀ a,a<P.length+1->gR i.2 a=if a<i.1 then gR b' a else gR b a)/\Bag m' (Bu (.slice (some ⟨gs,0,none⟩) (P.length+1) E,txV i.2)::oT (.slice (some ⟨go,0,none⟩) (P.length+1) yc) a0::a0.map Bu)) (fun i=>P.length+1-i.1)
  (0,b) ⟨oV,ad,fun a _=>by rw[if_neg (Nat.not_lt_zero _)],j⟩ ?_
 clear j;rintro J ⟨i,z⟩ hJ f2 c7 Q ⟨hi,c0,hz,j⟩;simp only at hi c0 hz j hJ;by_cases m:i<P.length+1
 ·refine G.lT i (P.length+1:Nat) ?_;have cv:i<(Ko P x).length:=oV;have cq:i<b.length:=oV;have bl:i<b'.length:=oV;have bz:i<z.length:=oV;have ak:z[i]=gR b i:=by rw[<-Cu bz,hz i m,if_neg (Nat.lt_irrefl _)]
  have bu:ElP c7 gs (0+i*1) (.string (mkS (Ae (gR b i)))):=j.el 0 rfl rfl (by
   show (txV z)[i]?=_;unfold txV;rw[A1a,A01 bz,ak];rfl)
  obtain⟨b1,o1,g1,rfl,e3,k3⟩:=(dg.mono Q).cellG cv;have am:=b6.at cv;refine G.a gs 0 (P.length+1) E i 1 m<|G.lM none gs (0+i*1) (.string (mkS (Ae (gR b i)))) bu<|G.a b1 o1 (P.length+1) cx i 4 m<|G.lU (some 4) b1 (o1+i*4) (fv g1) e3<|G.c call130 (Ga (au.mono Q) k3 (K.mono oV) (am.mono oV)) ?_;intro dy dw a8 ap;obtain⟨e6,rfl⟩:=ap.opF;have aa:=Fx K am;refine G.c call130 (Ga ap (ky.mono (Q.trans a8)) (aa.mono oV) (ag.mono oV)) ?_;intro f6 f3 b9 aq;obtain⟨e7,rfl⟩:=aq.opF;have b5:=Fx aa ag;have eh:Tx (gR b i):=by rw[Cu cq];exact hB.bt _ (A09 cq)
  have d6:Tx (gR b' i):=by rw[Cu bl];exact cm _ (A09 bl)
  refine G.c call132 (Q7 (g:=gf) (q:=gR b i) (an.mono ((Q.trans a8).trans b9)) eh aq b5 oV (by rw[<-d4 i m];exact d6)) ?_;rintro f9 f4 c6 rfl;rw[<-d4 i m];obtain⟨m0,ao,al⟩:=j.focus 0 rfl;rw[D6]at ao;refine G.a gs 0 (P.length+1) E i 1 m<|G.storeA 1 m0 (txV z) gs (P.length+1) E i (.string (mkS (Ae (gR b' i)))) kV ao (by rw[Bgm,c0];exact m) rfl rfl ?_;intro ew be;have es:(txV z).set i (.string (mkS (Ae (gR b' i))))=txV (z.set i (gR b' i)):=by unfold txV;rw[A2g]
  rw[es]at be;have bi:=al (Bu (.slice (some ⟨gs,0,none⟩) (P.length+1) E,txV (z.set i (gR b' i)))) ew be;rw[A2p]at bi;refine G.i i<|G.b (hJ (i+1,z.set i (gR b' i)) _ _ _ cV (((Q.trans a8).trans b9).trans c6) ⟨dV,by dsimp only;rw[A21];exact c0,fun a ha=>?_,bi⟩ dV);dsimp only;rw[Aht bz];by_cases U:i=a
  ·subst U;rw[if_pos rfl,if_pos oV]
  rw[if_neg U,hz a ha];by_cases h2:a<i
  ·rw[if_pos h2,if_pos oV]
  rw[if_neg h2,if_neg oV]
 obtain rfl:i=P.length+1:=oV;refine G.lF (P.length+1:Nat) (P.length+1:Nat) ?_;clear hJ;have em:z=b':=A5l oV fun a U h2=>by
  have:=hz a oV;rwa[if_pos oV,Cu U,Cu h2]at this
 subst em;refine G.c call130 (Ga (au.mono Q) (ky.mono Q) (K.mono oV) (ag.mono oV)) ?_;intro dy dw a8 ap;obtain⟨e6,rfl⟩:=ap.opF;have aa:=Fx K ag;refine G.c call130 (Ga ap (ky.mono (Q.trans a8)) (aa.mono oV) (ag.mono oV)) ?_;intro f6 f3 b9 aq;obtain⟨e7,rfl⟩:=aq.opF;have b5:=Fx aa ag;have b0:=(Q.trans a8).trans b9;refine G.c call132 (Q7 (g:=gf) (q:=s) (an.mono b0) hB.st aq b5 oV ah.st) ?_;rintro f9 f4 c6 rfl;have a6:=b0.trans c6;refine G.c call132 (Q7 (g:=gf) (q:=c) (an.mono a6) hB.ct (au.mono a6) K oV ah.ct) ?_;rintro fu fo dh rfl;refine G.giveP (ma:=c7) (sm:=PH.mt) kV (by funext g;unfold PH.or;cases c7 g<;>rfl) (fun g=>.inr rfl) (fun g=>.inl rfl) ?_
 intro dx di bm;refine G.lU none gf 0 (.int .i64 0) (Po (((a6.trans dh).trans di) _ _ bx) (G2 rfl rfl))<|G.nF 0 0 ?_;have hM:C7 dx (.slice (some ⟨go,0,none⟩) (P.length+1) yc) (Cv Z):=V9 (v:=.bool true) j t bm;obtain⟨mf,d7,_⟩:=j.focus 0 rfl;rw[D6]at d7;have e8:Cj dx (.slice (some ⟨gs,0,none⟩) (P.length+1) E) (z.map Ae):=by
  unfold Cj;rw[<-J7];exact d7.list bm
 exact G.r (.tuple #[.agg #[.slice qa P.length qc,.slice (some ⟨go,0,none⟩) (P.length+1) yc,.slice (some ⟨gs,0,none⟩) (P.length+1) E,.string (mkS (Ae (s+(w:Rat)*x B7*x B7))),.string (mkS (Ae (c+(w:Rat)))),.string (mkS (Ae q))],.int .i64 0])
  ⟨rfl,_,rfl,qa,qc,some ⟨go,0,none⟩,yc,some ⟨gs,0,none⟩,E,by rw[bg,bj],cg.mono ((a6.trans dh).trans di),by rw[bg];exact hM,by rw[bj];exact e8⟩
end
end
section
section
variable {u:PH} {tv sv:Value} {T:zC} {R:List Br} {F:List Al} {l:Nat} {ss:zW} {P:List Par} {X:zM} {b:zR} {s c q:Rat} {w:Int} {C:CF}
variable {a1 a2 a3:zP} {c1 c2 c3:Nat}
def Af7 (h:Ma u sv P X b s c q)(Q:P≠[])(J:Ah3 P X b s c)(a0:P.length<=900):zF 86 [sv] u fun r V=>Ma V r P X b s c q:=by
 obtain⟨pa,pc,xa,xc,ra,rc,rfl,h1,h2,h3⟩:=h;have a4:=J.n;have t:=J.bn;have H:=J.sq;have hc:=(Yg (t1:=Ae s) (t2:=Ae c) (t3:=Ae q) h1 h2 h3 Q (by intro e;rw[e]at t;simp at t) (fun r U e=>by have:=H.row r U;rw[e]at this;simp at this;omega) oV oV (fun r U=>by rw[H.row r U];omega) oV).giveAll;refine Fn0.weak hc ?_;rintro r V ⟨u0,m0,L,E,qa,qc,ya,yc,Y,Z,W,rfl,K,m,j⟩;obtain⟨mf,I,_⟩:=j.focus 0 rfl;rw[D6]at I;have hR:Cj V (.slice Y b.length Z) (b.map Ae):=by
  unfold Cj;rw[<-J7];exact I.list E
 exact⟨qa,qc,ya,yc,Y,Z,rfl,K.mono L,V9 (v:=zT) j m E,hR⟩
def Anb (h:Mv u (.agg #[.slice a1 T.length c1,.slice a2 R.length c2,.slice a3 F.length c3,zI l]) tv T R F (l:Int) ss)(W:G4 F (l:Int) ss=false){pa xa ra:zP}{pc xc rc:Nat}
 (V:Ma u (.agg #[.slice pa P.length pc,.slice xa (P.length+1) xc,.slice ra (P.length+1) rc,zS (Ae s),zS (Ae c),zS (Ae q)]) P X b s c q) (E:P≠[]) (U:Ah3 P X b s c) (j:P.length<=900) (H:w≠0) (I:-1000000000000<=w) (J:w<=1000000000000) :
 zF 57 [stV pa P.length pc xa xc ra rc s c q a1 T.length c1 a2 R.length c2 a3 F.length c3 (l:Int),tv,zI w] u fun r L=>∃ e,r=.tuple #[e,zO]/\Ma L e P X b s c q:=by
 have m:=Ail (pa:=pa) (n:=P.length) (pc:=pc) (xa:=xa) (xc:=xc) (ra:=ra) (rc:=rc) (s:=s) (c:=c) (q:=q) (w:=w) h W H I J;have t:=fun (L:PH) (K:PH.le u L)=>Af7 (V.mono K) E U j;refine Fn0.o func57<|G.c call68 m ?_;rintro v1 u1 K rfl;refine G.nF 0 0<|G.c call86 (t u1 K) ?_;rintro v2 u2 l2 Q;obtain⟨Y,qc,ya,yc,Z,sc,rfl,h1,h2,h3⟩:=id Q;exact G.r (.tuple #[.agg #[.slice Y P.length qc,.slice ya X.length yc,.slice Z b.length sc,zS (Ae s),zS (Ae c),zS (Ae q)],zO]) ⟨rfl,_,rfl,Q⟩
def Aqi (F:List Al)(l:Nat)(P:List Par)(ss:zW):Prop:=G4 F (l:Int) ss=false\/Av5 F l P ss
def Sg {zv:Value}(ht:Hx u)(h:Mv u zv tv T R F (l:Int) ss)(I:Aqi F l P ss)(hS:Ma u sv P X b s c q)(hN:H9 P C q X b s c)(hp:Td F P q)(Q:P≠[])(hC:Ug P C)(J:Ug P (C.add ((cfT F (l:Int) ss).scale (w:Rat))))(h5:P.length<=5)(U:w≠0)(V:-1000000000000<=w)(W:w<=1000000000000) :
 zF 15 [zv,sv,tv,zI w] u fun r Y=>∃ j t b' H E,r=.tuple #[j,zO]/\Ma Y j P t b' H E q/\H9 P (C.add ((cfT F (l:Int) ss).scale (w:Rat))) q t b' H E:=by
 have Z:=hN.okF hp hC;have K:=Z.n;have L:=Z.bn;have m:∀ (pa xa ra a1 a2 a3:zP) (pc xc rc c1 c2 c3:Nat),zv=.agg #[.slice a1 T.length c1,.slice a2 R.length c2,.slice a3 F.length c3,zI l]->sv=.agg #[.slice pa P.length pc,.slice xa (P.length+1) xc,.slice ra (P.length+1) rc,zS (Ae s),zS (Ae c),zS (Ae q)] ->
  zF 57 [stV pa P.length pc xa xc ra rc s c q a1 T.length c1 a2 R.length c2 a3 F.length c3 (l:Int),tv,zI w] u fun r Y=>∃ j t b' H E,r=.tuple #[j,zO]/\Ma Y j P t b' H E q/\H9 P (C.add ((cfT F (l:Int) ss).scale (w:Rat))) q t b' H E:=by
  rintro pa xa ra a1 a2 a3 pc xc rc c1 c2 c3 rfl rfl;rcases I with I|I
  ·refine Fn0.weak (Anb h I hS Q Z oV U V W) ?_;rintro r Y ⟨j,rfl,k⟩;refine⟨j,X,b,s,c,rfl,k,?_⟩;rw[Als (Awu h.ok h.fit I)];exact hN
  have o:=Apr h.ok h.fit I.cnt;obtain⟨h1,h2⟩:=hN.stepF hp o J;obtain⟨_,_,_,_,_,_,e,k1,k2,k3⟩:=hS;rw[K]at e k2;rw[L]at e k3;cases e;refine Fn0.weak (Amb ht h I k1 k2 k3 hp Q Z (hN.light hp hC h5) h5 U V W h1 (h2.okF hp J)) ?_;rintro r Y ⟨j,rfl,k⟩;exact⟨j,_,_,_,_,rfl,k,h2⟩
 obtain⟨⟨a1,c1,a2,c2,a3,c3,rfl,_⟩,_⟩:=id h;obtain⟨pa,pc,xa,xc,ra,rc,rfl,_⟩:=id hS;rw[K,L]at m⊢;refine Fn0.o func15<|G.c call57 (m pa xa ra a1 a2 a3 pc xc rc c1 c2 c3 rfl rfl) ?_;rintro v1 u1 l1 ⟨j,t,b',H,E,rfl,k1,k2⟩;obtain⟨qa,qc,ya,yc,sa,sc,rfl,h1,h2,h3⟩:=id k1;exact G.r (.tuple #[.agg #[.slice qa P.length qc,.slice ya t.length yc,.slice sa b'.length sc,zS (Ae H),zS (Ae E),zS (Ae q)],zO]) ⟨rfl,_,t,b',H,E,rfl,k1,k2⟩
end
end
section
variable {v v':Value}
def Ad9 {u:PH}{L m:List Par}(h:Ac u v 2 (L.map Ap))(Q:Ac u v' 2 (m.map Ap))(hl:L.length<=1000000)(a0:m.length<=1000000) :
 zF 38 [v,v'] u fun r _=>r=.bool (decide (L=m)):=by
 obtain⟨a,c,rfl⟩:=h.opn;obtain⟨W,U,rfl⟩:=Q.opn;rw[A03]at h Q⊢;rw[A03];refine Fn0.o func38 ?_;by_cases hn:L.length=m.length
 ·refine G.nF L.length m.length<|G.l (ι:=Nat) (fun i=>[(0,sV a L.length c),(1,sV W m.length U),(12,iV L.length),(13,iV i)]) (fun _=>[])
   (fun i u' V=>(i<=L.length/\L.take i=m.take i)/\V=PH.mt) (fun i=>L.length-i) 0 ⟨⟨oV,mV⟩,rfl⟩ ?_
  rintro J k hJ u' V E ⟨⟨hk,t⟩,rfl⟩;by_cases H:k<L.length
  ·refine G.lT k L.length ?_;obtain⟨p,hp⟩:∃ p,L[k]?=some p:=⟨_,A01 H⟩;obtain⟨q,K⟩:∃ q,m[k]?=some q:=⟨_,A01 oV⟩;obtain⟨ba,oa,rfl,Y⟩:=Ac.at' (h.mono E) (j:=k) (e:=Ap p) (by simp[hp]);obtain⟨bb,ob,rfl,Z⟩:=Ac.at' (Q.mono E) (j:=k) (e:=Ap q) (by simp[K]);refine G.N L.length c H Y<|G.n m.length U Z ?_;by_cases I:p=q
   ·exact G.neAgg 118 #[zI p.1,zS p.2] #[zI q.1,zS q.2] true kV kV kV (fun w=>by rw[<-decide_eq_true I];exact Bq.eq p q w)<|G.i k<|G.b (hJ (k+1) _ _ _ cV E ⟨⟨oV,by rw[A1n,A1n,t,hp,K,I]⟩,rfl⟩ oV)
   exact G.neAgg 118 #[zI p.1,zS p.2] #[zI q.1,zS q.2] false kV kV kV (fun w=>by rw[<-decide_eq_false I];exact Bq.eq p q w)<|G.r zL ⟨rfl,by rw[decide_eq_false];rintro rfl;rw[hp]at K;cases K;exact I rfl⟩
  refine G.lF k L.length ?_;have:L=m:=by rw[A1j oV,A1j oV]at t;exact t
  exact G.r zT ⟨rfl,by simp[this]⟩
 exact G.nT L.length m.length<|G.r zL ⟨rfl,by rw[decide_eq_false];rintro rfl;exact hn rfl⟩
def Amp {u:PH}{X:zM}(h:C7 u v (Cv X))(m:C7 u v' (Cv X))(hl:X.length<=1000)(Q:∀ r∈X,r.length<=1000) :
 zF 19 [v,v'] u fun r _=>r=zT:=by
 obtain⟨a,c,rfl⟩:=h.opn;obtain⟨H,E,rfl⟩:=m.opn;rw[A3]at h m⊢;refine Fn0.o func19<|G.nF X.length X.length<|G.l (ι:=Nat) (fun i=>[(0,sV a X.length c),(1,sV H X.length E),(12,iV X.length),(13,iV i)]) (fun _=>[])
  (fun i u' V=>i<=X.length/\V=PH.mt) (fun i=>X.length-i) 0 ⟨oV,rfl⟩ ?_
 rintro J i L u1 m1 t ⟨hi,rfl⟩;by_cases e:i<X.length
 ·refine G.lT i X.length ?_;obtain⟨r,j⟩:∃ r,X[i]?=some r:=⟨_,A01 e⟩;have U:=Q r (A1k j);obtain⟨b1,o1,Z,c5,rfl,I,W⟩:=(h.mono t).row (Dw j);obtain⟨b2,o2,a6,c6,rfl,K,Y⟩:=(m.mono t).row (Dw j);refine G.N X.length c e I<|G.N X.length E e K<|G.c call64 (Ag2 W Y (by rw[A03];omega) (by rw[A03];omega)) ?_;rintro v2 u2 l2 rfl;rw[decide_eq_true rfl];exact G.i i<|G.b (L (i+1) _ _ _ cV (t.trans l2) ⟨oV,rfl⟩ oV)
 exact G.lF i X.length<|G.z zT
section
variable {u:PH} {sv sv':Value} {T:zC} {R:List Br} {F:List Al} {l:Nat} {P:List Par} {X:zM} {b:zR} {s c q:Rat} {C:CF}
theorem Ah6 (h:Ma u sv P X b s c q)(h':Ma u sv' P X b s c q)(hP:P.length<=1000)(hX:X.length<=1000)(hr:∀ r∈X,r.length<=1000)(hb:b.length<=1000):zF 20 [sv,sv'] u fun r _=>r=zT:=by
 obtain⟨pa,pc,xa,xc,ra,rc,rfl,h1,h2,h3⟩:=h;obtain⟨qa,qc,ya,yc,sa,sc,rfl,k1,k2,k3⟩:=h';refine Fn0.o func20 ?_;refine G.c call38 (Ad9 h1 k1 oV oV) ?_;rintro v1 u1 l1 rfl;rw[decide_eq_true rfl];refine G.c call19 (Amp (h2.mono l1) (k2.mono l1) hX hr) ?_;rintro v2 u2 l2 rfl;have l12:=l1.trans l2;refine G.c call64 (Ag2 (Ac.mono h3 l12) (Ac.mono k3 l12) (by rw[A03];omega) (by rw[A03];omega)) ?_;rintro v3 u3 l3 rfl;rw[decide_eq_true rfl];refine G.q (Ae s) (Ae s) rfl ?_;refine G.q (Ae c) (Ae c) rfl ?_;refine G.q (Ae q) (Ae q) rfl ?_;exact G.z zT
def T9 {m:zM}{b':zR}{H t:Rat}(h:Ma u sv P X b s c q)(Q:Ma u sv' P m b' H t q)(E:H9 P C q X b s c)(j:H9 P C q m b' H t)(hp:Td F P q)(U:Ug P C):zF 20 [sv,sv'] u fun r _=>r=zT:=by
 obtain⟨I,J,K,L⟩:=E.uniq j;subst I J K L;have e:=E.okF hp U;have Y:=hp.le;have V:=e.n;have W:=e.bn;exact Ah6 h Q oV oV (fun r Z=>by rw[e.sq.row r Z];omega) oV
def Vb {p t:Nat}(hp:p<=100000)(e:t<=100000):zF 39 [zI p,zI t] u fun r _=>r=.bool (decide (t<=p/2+p%2)):=by
 refine Fn0.o func39<|G.hT p 0<|G.hT t 0<|G.quo (p:Int) 2 ((p/2:Nat):Int) kV oV oV oV oV<|G.rem (p:Int) 2 ((p%2:Nat):Int) kV oV oV oV oV<|G.p (p/2:Nat) (p%2:Nat) (p/2+p%2:Nat) ?_;by_cases h:t<=p/2+p%2
 ·exact G.kT t (p/2+p%2:Nat)<|G.r zT ⟨rfl,by rw[decide_eq_true h]⟩
 exact G.kF t (p/2+p%2:Nat)<|G.r zL ⟨rfl,by rw[decide_eq_false h]⟩
end
end
section
variable {i j:Nat}
def U9 (v p g:Int)(k:Nat)(R row:List Int):List Int:=(List.range row.length).map fun j=>if k<j then (gZ row j*p-g*gZ R j)/v else gZ row j
def Abe (v p g:Int)(k:Nat)(R row:List Int):(U9 v p g k R row).length=row.length:=by simp[U9]
def Afq {v p g:Int}{k:Nat}{R row:List Int}(h:j<row.length):gZ (U9 v p g k R row) j=if k<j then (gZ row j*p-g*gZ R j)/v else gZ row j:=by
 unfold U9;exact Abr _ h
def LdN (n k:Nat)(v:Int)(X Y:List (List Int))(i:Nat):Prop:=E8 n n Y/\∀ r,r<n->gMZ Y r=if k<r/\r<i then U9 v (enZ X k k) (enZ X r k) k (gMZ X k) (gMZ X r) else gMZ X r
def LdN.init {n k:Nat}{v:Int}{X:List (List Int)}(h:E8 n n X):LdN n k v X X (k+1):=⟨h,fun r e=>by rw[if_neg oV]⟩
def LdN.row {n k:Nat}{v:Int}{X Y:List (List Int)}(h:LdN n k v X Y i)(t:E8 n n X)(hi:i<n)(u:k<i):LdN n k v X (Y.set i (U9 v (enZ X k k) (enZ X i k) k (gMZ X k) (gMZ X i))) (i+1):=by
 refine⟨Lt h.1 hi (by rw[Abe];exact t.2 i hi),fun r C=>?_⟩;rw[Kv (by rw[h.1.1];exact hi)];by_cases e:i=r
 ·subst e;rw[if_pos rfl,if_pos ⟨u,oV⟩]
 rw[if_neg e,h.2 r C];by_cases m:k<r/\r<i
 ·rw[if_pos m,if_pos ⟨m.1,oV⟩]
 rw[if_neg m,if_neg oV]
def LdN.at {n k:Nat}{v:Int}{X Y:List (List Int)}(h:LdN n k v X Y n)(u:E8 n n X){i j:Nat}(hi:i<n)(C:j<n):enZ Y i j=if k<i/\k<j then (enZ X i j*enZ X k k-enZ X i k*enZ X k j)/v else enZ X i j:=by
 have t:=h.2 i hi;unfold enZ at t⊢;rw[t];by_cases e:k<i
 ·rw[if_pos ⟨e,hi⟩,Afq (by rw[u.2 i hi];exact C)];by_cases m:k<j
  ·rw[if_pos m,if_pos ⟨e,m⟩]
  rw[if_neg m,if_neg oV]
 rw[if_neg oV,if_neg oV]
structure Tc (n:Nat)(M:Nat->Nat->Int)(E k:Nat)(v:Int)(X:List (List Int)):Prop where
 rc:E8 n n X
 v0:0<v
 vs:nl v.natAbs<=zs E k
 sz:∀ i j,i<n->j<n->nl (enZ X i j).natAbs<=zs E k
 bar:∃ P S,Bar n M P k v S/\∀ i j,k<=i->i<n->k<=j->j<n->S i j=enZ X i j
 sch:∀ i j,k<=i->i<n->k<=j->j<n->(enZ X i j:Rat)=(v:Rat)*C6 (fun i j=>(M i j:Rat)) k i j
section
variable {n:Nat} {M:Nat->Nat->Int} {E k:Nat} {v:Int} {X Y:List (List Int)}
def Tc.init (t:E8 n n X)(h:∀ i j,i<n->j<n->enZ X i j=M i j)(u:∀ i j,i<n->j<n->nl (M i j).natAbs<=E)(m:1<=E):Tc n M E 0 1 X :=
 ⟨t,fV,A04 (nl1 (n:=1) oV) m,fun i j hi e=>by rw[h i j hi e];exact u i j hi e,⟨fun _=>0,M,Bar.init n M _,fun i j _ hi _ e=>(h i j hi e).symm⟩,
  fun i j _ hi _ e=>by rw[h i j hi e];show _=((1:Int):Rat)*(M i j:Rat);rw[show ((1:Int):Rat)=1 from rfl,Rat.one_mul]⟩
def Tc.piv (h:Tc n M E k v X)(F:∀ i k,i<n->k<n->(M i k:Rat)=(M k i:Rat))(hp:∀ x,(∃ i,i<n/\x i≠0)->0<frm n (fun i j=>(M i j:Rat)) x)(e:k<n):0<enZ X k k:=by
 have t:=h.sch k k (A08 _) e (A08 _) e;have u:=Akt F hp e;have C:(0:Rat)<(v:Rat):=by exact_mod_cast h.v0
 have m:=Bcr C u;rw[<-t]at m
 exact_mod_cast m
def Tc.fit (h:Tc n M E k v X)(e:k<n)(hi:i<n)(m:j<n):nl (enZ X i j*enZ X k k).natAbs<=2*zs E k/\nl (enZ X i k*enZ X k j).natAbs<=2*zs E k/\nl (enZ X i j*enZ X k k-enZ X i k*enZ X k j).natAbs<=2*zs E k+1/\nl ((enZ X i j*enZ X k k-enZ X i k*enZ X k j)/v).natAbs<=2*zs E k+1 :=
 Vw (h.sz k k e e) (h.sz i k hi e) (h.sz i j hi m) (h.sz k j e m)
theorem Tc.step (h:Tc n M E k v X)(Q:∀ i k,i<n->k<n->(M i k:Rat)=(M k i:Rat))(hp:∀ x,(∃ i,i<n/\x i≠0)->0<frm n (fun i j=>(M i j:Rat)) x)(m:k<n)(V:LdN n k v X Y n):Tc n M E (k+1) (enZ X k k) Y:=by
 have L:=h.piv Q hp m;obtain⟨P,S,U,F⟩:=h.bar;have C:S k k=enZ X k k:=F k k (A08 _) m (A08 _) m;have W:S k k≠0:=by rw[C];omega
 have hz:zs E (k+1)=2*zs E k+2:=rfl;have I:=fun (i j:Nat) (hi:i<n) (K:i≠k)=>U.dvdAll m W i j hi K;have H:=fun (i j:Nat) (hi:i<n) (J:j<n)=>V.at h.rc hi J;refine⟨V.1,L,A04 (h.sz k k m m) oV,fun i j hi J=>?_,⟨Kc P k k,fun i j=>if i=k then S k j else (S i j*S k k-S i k*S k j)/v,?_,fun i j h1 t h3 u=>?_⟩,fun i j h1 t h3 u=>?_⟩
 ·rw[H i j hi J];split
  ·have:=(h.fit m hi J).2.2.2;omega
  have:=h.sz i j hi J;omega
 ·rw[<-C];refine U.step m W (fun j=>by rw[if_pos rfl]) fun i hi K j=>?_;rw[if_neg K];exact Int.mul_ediv_cancel' (I i j hi K)
 ·dsimp only;rw[if_neg oV,H i j t u,if_pos ⟨oV,oV⟩,C,F i j oV t oV u,F i k oV t (A08 _) m,F k j (A08 _) m oV u]
 have Z:v*enZ Y i j=enZ X i j*enZ X k k-enZ X i k*enZ X k j:=by
  rw[H i j t u,if_pos ⟨oV,oV⟩];refine Int.mul_ediv_cancel' ?_;have:=I i j t oV;rwa[C,F i j oV t oV u,F i k oV t (A08 _) m,F k j (A08 _) m oV u]at this
 have T:(v:Rat)*(enZ Y i j:Rat)=(enZ X i j:Rat)*(enZ X k k:Rat)-(enZ X i k:Rat)*(enZ X k j:Rat):=by exact_mod_cast congrArg (fun z:Int=>(z:Rat)) Z
 have hv:(v:Rat)≠0:=by
  have:=h.v0;intro e;have:v=0:=by exact_mod_cast e
  omega
 have a0:=Akt Q hp m;have R:=O9 Q k j k u m;rw[h.sch i j oV t oV u,h.sch k k (A08 _) m (A08 _) m,h.sch i k oV t (A08 _) m,h.sch k j (A08 _) m oV u]at T;rw[h.sch k k (A08 _) m (A08 _) m];show _=_*(C6 _ k i j-C6 _ k i k/C6 _ k k k*(C6 _ k j k/C6 _ k k k)*C6 _ k k k);rw[R];generalize (enZ Y i j:Rat)=y at *
 generalize C6 (fun i j=>(M i j:Rat)) k i j=a at *
 generalize C6 (fun i j=>(M i j:Rat)) k i k=b at *
 generalize C6 (fun i j=>(M i j:Rat)) k k j=c at *
 generalize C6 (fun i j=>(M i j:Rat)) k k k=d at *
 have hd:d≠0:=by grind
 have e3:(v:Rat)*y=(v:Rat)*((v:Rat)*(a*d-b*c)):=by rw[T];grind
 have e4:y=(v:Rat)*(a*d-b*c):=by grind
 rw[e4];have e5:b/d*(c/d)*d=b*c/d:=by grind
 rw[e5];have e6:b*c/d*d=b*c:=by grind
 generalize b*c/d=w at *
 grind
end
end
def Awg {u:PH}{k:Int}{f1 f2:N3}{fv:Value}:zF 231 [zI k,nv f1,nv f2,fv] u fun r _=>r=.tuple #[]:=Fn0.o func231<|G.z (.tuple #[])
def Bag.pre:∀ {l l':List Arr} {m:PH},Bag m (l++l')->Bag m l
 |[],_,_,_=>trivial
 |_::_,_,_,⟨m0,h1,h2⟩=>⟨m0,h1,Bag.pre h2⟩
def Bag.tl {m:PH}{x:Arr}{l:List Arr}(h:Bag m (x::l)):Bag m l:=Bag.pre (l':=[x]) (Bag.perm (A5r (l₁:=[x])) h)
def Axv {W:List Int}{j t:Nat}{x:Int}(h:j<W.length):gZ (W.set j x) t=if j=t then x else gZ W t:=by
 unfold gZ;rw[A02,A1z,A02];by_cases e:j=t
 ·subst e;simp[h]
 simp[e]
def Ay6 {A B:List Int}{n:Nat}(m:A.length=n)(u:B.length=n)(h:∀ t,t<n->gZ A t=gZ B t):A=B:=by
 refine A5l oV fun i e j=>?_;rw[<-Ol e,<-Ol j];exact h i oV
def Aou {u m:PH}{go n K E:Nat}{f:N3}{L:List (Value×zV)}{X:List (List Int)}{M:Nat->Nat->Int}(hn:n<=12)(h0:0<n)(hL:Tc n M E 0 1 X)
 (hs:∀ i k,i<n->k<n->(M i k:Rat)=(M k i:Rat)) (hp:∀ x,(∃ i,i<n/\x i≠0)->0<frm n (fun i j=>(M i j:Rat)) x) (hE:∀ k,k<=n->zs E k<=1000000) (T:NAt u L X)
 (h:Bag m (oN (zG go n K) L::L.map C3)) :
 Ag prog 230 [.agg #[.bool f.b,.slice f.a f.n f.c,zG go n K],.func (.func 231) #[] #[]] u m fun r _ _=>r=zI n:=by
 refine Ag.o func230<|G.c call121 (Kf (z:=1) oV oV) ?_;intro v1 u1 l1 k1;obtain⟨f1,rfl⟩:=k1.opN;refine G.pastI<|G.pub 1003 185 [zG go n K] kV kV ?_;intro g5 bx ak;have ah:Bag (m.upd g5 (.cells [Value.slice (zA go) n K].toArray 185 (0,0))) (Kq g5 185 [zG go n K]::oN (zG go n K) L::L.map C3) :=
  ⟨m,R1 ak (fun x hx=>by simp at hx;subst hx;exact⟨rfl,rfl⟩),h⟩
 refine G.l (ι:=Nat×N3×Int×List (Value×zV)×List (List Int)) (fun i=>[(1,.v (.func (.func 231) #[] #[])),(5,.v (.pointer (zA g5))),(6,.p 1004 0),(15,iV n),(16,iV i.1)])
  (fun i=>[(1004,⟨141,Age i.2.1⟩)])
  (fun i u' m'=>i.1<=n/\Bi u' (nv i.2.1) i.2.2.1/\Tc n M E i.1 i.2.2.1 i.2.2.2.2/\NAt u' i.2.2.2.1 i.2.2.2.2/\Bag m' (Kq g5 185 [zG go n K]::oN (zG go n K) i.2.2.2.1::i.2.2.2.1.map C3)) (fun i=>n-i.1)
  (0,f1,1,L,X) ⟨A1t _,k1,hL,T.mono l1,ah⟩ ?_
 clear ah h T hL k1;rintro J ⟨k,f2,v,R,Y⟩ hJ u2 m2 l2 ⟨hk,hv,hL,T,h⟩;simp only at hk hv hL T h hJ;by_cases F:k<n
 ·refine G.lT k n<|G.pastI<|G.pub 4001 3 [zI k] kV kV ?_;intro g7 bz al;have P:Bag (m2.upd g7 (.cells [Value.int .i64 k].toArray 3 (0,0))) (Kq g7 3 [zI k]::Kq g5 185 [zG go n K]::oN (zG go n K) R::R.map C3) :=
   ⟨m2,R1 al (fun x hx=>by simp at hx;subst hx;exact⟨rfl,rfl⟩),h⟩
  clear h;generalize m2.upd g7 _=m3 at P⊢;have hX:=hL.rc;have bt:=hE k oV;obtain⟨gk,ck,ek,bk,bi,b5,am,ai⟩:=Ur P T hX F h0;obtain⟨fp,p5,p6,p7⟩:=ai k F;have c3:=hL.piv hs hp F;have a4:=hL.sz;have ap:=a4 k k F F;refine G.v none (Cg P (i:=1) (j:=0) rfl rfl)<|G.v none (Cg P (i:=0) (j:=0) rfl rfl)<|G.O n K F am<|G.v none (Cg P (i:=0) (j:=0) rfl rfl)<|G.O n ck F p7<|G.c call195 (N1 (p6) (A04 ap oV)) ?_;rintro v3 u3 l3 rfl;have bl:sgn (enZ Y k k)=1:=by unfold sgn;rw[if_neg oV,if_pos oV]
  rw[bl];refine G.kF 1 0<|G.v none (Cg P (i:=0) (j:=0) rfl rfl)<|G.c call231 (Awg (k:=(k:Int)) (f1:=fp) (f2:=f2) (fv:=.func (.func 261) #[] #[.pointer (zA g5),.pointer (zA g7)])) ?_;rintro v4 u4 l4 rfl;refine G.v none (Cg P (i:=0) (j:=0) rfl rfl)<|G.i k<|G.l (ι:=Nat×List (Value×zV)×List (List Int)) (fun i=>[(1,.v (.func (.func 231) #[] #[])),(5,.v (.pointer (zA g5))),(6,.p 1004 0),(7,.v (.pointer (zA g7))),(8,.p 5007 0),(9,iV i.1),(15,iV n),(16,iV k)])
   (fun _=>[(1004,⟨141,Age f2⟩),(5007,⟨141,Age fp⟩)])
   (fun i u' m'=>k+1<=i.1/\i.1<=n/\LdN n k v Y i.2.2 i.1/\NAt u' i.2.1 i.2.2/\Bag m' (Kq g7 3 [zI k]::Kq g5 185 [zG go n K]::oN (zG go n K) i.2.1::i.2.1.map C3)) (fun i=>n-i.1)
   (k+1,R,Y) ⟨A08 _,F,LdN.init hX,T.mono (l3.trans l4),P⟩ ?_
  clear P bk bi b5 am ai p5 p7 T;rintro J2 ⟨i,C,Z⟩ af u5 m5 l5 ⟨bg,be,hZ,T,h⟩;simp only at bg be hZ T h af;have aa:=hZ.1;have a8:=(l3.trans l4).trans l5;have bm:=hv.mono a8;have an:=p6.mono a8;refine G.v none (Cg h (i:=1) (j:=0) rfl rfl) ?_;by_cases I:i<n
  ·refine G.lT i n<|G.v none (Cg h (i:=0) (j:=0) rfl rfl)<|G.i k ?_;obtain⟨V,U,ei,ad,c0,b4,c1,bu⟩:=Ur h T aa I h0;obtain⟨gs,cs,es,aq,c4,bs,c2,b9⟩:=Ur h T aa F h0;have bj:C.length=n:=by rw[T.1,aa.1]
   have b1:gMZ Z i=gMZ Y i:=by rw[hZ.2 i I,if_neg oV]
   have b2:gMZ Z k=gMZ Y k:=by rw[hZ.2 k F,if_neg oV]
   have a9:(gMZ Y i).length=n:=hX.2 i I;have aj:=fun (j:Nat) (hj:j<n)=>hL.fit F I hj;have bd:=a4 i k I F;have b7:∀ t,t<n->nl (enZ Y i t).natAbs<=zs E k:=fun t ht=>a4 i t I ht;have b8:∀ t,t<n->nl (enZ Y k t).natAbs<=zs E k:=fun t ht=>a4 k t F ht;refine G.l (ι:=Nat×zV×List Int) (fun y=>[(1,.v (.func (.func 231) #[] #[])),(5,.v (.pointer (zA g5))),(6,.p 1004 0),(7,.v (.pointer (zA g7))),(8,.p 5007 0),(9,iV i),(10,iV y.1),(15,iV n),(16,iV k)])
    (fun _=>[(1004,⟨141,Age f2⟩),(5007,⟨141,Age fp⟩)])
    (fun y u' m'=>k+1<=y.1/\y.1<=n/\y.2.2.length=n/\(∀ t,t<n->gZ y.2.2 t=if k<t/\t<y.1 then (enZ Y i t*enZ Y k k-enZ Y i k*enZ Y k t)/v else enZ Y i t)/\AtP Bi u' y.2.1 y.2.2 /\
     Bag m' (Kq g7 3 [zI k]::Kq g5 185 [zG go n K]::oN (zG go n K) C::(C.set i (zG V n U,y.2.1)).map C3)) (fun y=>n-y.1)
    (k+1,ei,gMZ Y i) ⟨A08 _,oV,a9,fun t ht=>by rw[if_neg oV];rfl,by rw[<-b1];exact b4,by rw[Ny ad];exact h⟩ ?_
   clear h;rintro J3 ⟨j,H,W⟩ ag u6 m6 l6 ⟨bh,bf,a3,hW,a0,h⟩;simp only at bh bf a3 hW a0 h ag;have bw:H.length=n:=by rw[a0.1,a3]
   have a1:(C.set i ((Value.slice (zA V) n U),H))[i]?=some ((Value.slice (zA V) n U),H):=by rw[A1z];simp[bj,I]
   have ab:(C.set i ((Value.slice (zA V) n U),H))[k]?=some (Value.slice (zA gs) n cs,es):=by rw[A1z,if_neg oV];exact aq
   refine G.v none (Cg h (i:=1) (j:=0) rfl rfl) ?_;by_cases Q:j<n
   ·refine G.lT j n ?_;have ac:ElP m6 go (0+i*1) (Value.slice (zA V) n U):=h.el 2 (x:=oN (zG go n K) C) rfl rfl (by show (C.map (·.1))[i]?=_;rw[A1a,ad];rfl);have bb:ElP m6 go (0+k*1) (Value.slice (zA gs) n cs):=h.el 2 (x:=oN (zG go n K) C) rfl rfl (by show (C.map (·.1))[k]?=_;rw[A1a,aq];rfl);obtain⟨e,e1,e2⟩:=a0.at (j:=j) oV;obtain⟨fe,rfl⟩:=e2.opN;rw[<-Ol oV,hW j Q,if_neg oV]at e2;obtain⟨d,d1,d2⟩:=a0.at (j:=k) oV;obtain⟨fd,rfl⟩:=d2.opN;rw[<-Ol oV,hW k F,if_neg oV]at d2;obtain⟨fs,s5,s6,_⟩:=b9 j Q;have b3:enZ Z k j=enZ Y k j:=by unfold enZ;rw[b2]
    rw[b3]at s6;have he:ElP m6 V (0+j*2) (nv fe):=h.el (i+3) (x:=C3 ((Value.slice (zA V) n U),H)) (F8 a1) rfl e1;have hd:ElP m6 V (0+k*2) (nv fd):=h.el (i+3) (x:=C3 ((Value.slice (zA V) n U),H)) (F8 a1) rfl d1;have ba:ElP m6 gs (0+j*2) (nv fs):=h.el (k+3) (x:=C3 (Value.slice (zA gs) n cs,es)) (F8 ab) rfl s5;refine G.v none (Cg h (i:=1) (j:=0) rfl rfl)<|G.O n K I ac<|G.v none (Cg h (i:=1) (j:=0) rfl rfl)<|G.O n K I ac<|G.O n U Q he<|G.v none (Cg h (i:=1) (j:=0) rfl rfl)<|G.O n K I ac<|G.v none (Cg h (i:=0) (j:=0) rfl rfl)<|G.O n U F hd<|G.v none (Cg h (i:=1) (j:=0) rfl rfl)<|G.v none (Cg h (i:=0) (j:=0) rfl rfl)<|G.O n K F bb<|G.O n cs Q ba ?_;obtain⟨z1,z2,z3,z4⟩:=aj j Q;refine G.c call126 (Ea e2 (an.mono l6) (A04 (b7 j Q) oV) (A04 ap oV)) ?_;intro cb c6 a2 av;obtain⟨bp,rfl⟩:=av.opN;refine G.c call126 (Ea (d2.mono a2) (((s6.mono l6)).mono a2) (A04 bd oV) (A04 (b8 j Q) oV)) ?_;intro cc c7 a5 aw;obtain⟨bq,rfl⟩:=aw.opN;refine G.c call241 (Ac7 (av.mono a5) aw (A04 z1 oV) (A04 z2 oV)) ?_;intro cd c8 ae ax;obtain⟨br,rfl⟩:=ax.opN;have c5:=hL.v0;refine G.c call190 (M1 ax (bm.mono (((l6.trans a2).trans a5).trans ae)) (A04 z3 oV) (A04 hL.vs oV) oV) ?_;rintro ce ca b0 ⟨cg,ch,rfl,ay,az⟩;obtain⟨a7,rfl⟩:=ay.opN;obtain⟨bo,rfl⟩:=az.opN;obtain⟨m0,ar,ao⟩:=h.focus (i+3) (F8 a1);rw[Ack]at ar;refine G.a V 0 n U j 2 Q<|G.storeA 2 m0 H V n U j (nv a7) kV ar oV rfl rfl ?_;intro bn au;have a6:=ao (C3 ((Value.slice (zA V) n U),H.set j (nv a7))) bn au;rw[Afy,A6r]at a6;refine G.i j<|G.b (ag (j+1,H.set j (nv a7),W.set j ((enZ Y i j*enZ Y k k-enZ Y i k*enZ Y k j)/v)) _ _ _ cV ((((l6.trans a2).trans a5).trans ae).trans b0) ⟨dV,dV,by simpa using a3,fun t ht=>?_,?_,a6⟩ dV)
    ·dsimp only;rw[Axv oV];by_cases e:j=t
     ·subst e;rw[if_pos rfl,if_pos ⟨oV,oV⟩]
     rw[if_neg e,hW t ht];by_cases e3:k<t/\t<j
     ·rw[if_pos e3,if_pos ⟨e3.1,oV⟩]
     rw[if_neg e3,if_neg oV]
    exact (a0.mono (fun _ _ k=>k.mono (((a2.trans a5).trans ae).trans b0))).set j ay
   obtain rfl:j=n:=oV;refine G.lF j j ?_;have b6:W=U9 v (enZ Y k k) (enZ Y i k) k (gMZ Y k) (gMZ Y i):=Ay6 a3 (by rw[Abe];exact a9) fun t ht=>by
    rw[hW t ht,Afq (by rw[a9];exact ht)];by_cases e:k<t
    ·rw[if_pos ⟨e,ht⟩,if_pos e];rfl
    rw[if_neg oV,if_neg e];rfl
   subst b6;rw[<-Aq8 (es':=H) ad]at h;exact G.i i<|G.b (af (i+1,C.set i ((Value.slice (zA V) j U),H),Z.set i (U9 v (enZ Y k k) (enZ Y i k) k (gMZ Y k) (gMZ Y i))) _ _ _ cV (l5.trans l6) ⟨dV,dV,hZ.row hX I oV,(T.mono l6).set oV a0,h⟩ dV)
  obtain rfl:i=n:=oV;exact G.lF i i<|G.i k<|G.b (hJ (k+1,fp,enZ Y k k,C,Z) _ _ _ cV (l2.trans a8) ⟨dV,an,hL.step hs hp F hZ,T,h.tl⟩ dV)
 obtain rfl:k=n:=oV;exact G.lF k k<|G.v none (Cg h (i:=0) (j:=0) rfl rfl)<|G.r (zI k) rfl
section
variable {A:zM}{u:PH}{v:Value}
theorem Amv {n:Nat}{S A:Nat->Nat->Rat}{d:Rat}(h:∀ i k,i<n->k<n->S i k=A i k*d)(x:Nat->Rat):frm n S x=d*frm n A x:=by
 unfold frm;rw[<-B4];refine Ah fun i hi=>?_;have e:Bb n (fun k=>S i k*x k)=d*Bb n fun k=>A i k*x k:=by
  rw[<-B4];exact Ah fun k j=>by rw[h i k hi j];grind
 rw[e];grind
structure PdM (A:zM):Prop where
 sq:Sq A
 n0:0<A.length
 n6:A.length<=6
 sy:Avc A
 lt:∃ L,Y5 A L 86
 pd:∀ x,(∃ i,i<A.length/\x i≠0)->0<frm A.length (en A) x
def Avc.en {A:zM}(h:Avc A)(t:Sq A){i k:Nat}(hi:i<A.length)(e:k<A.length):en A i k=en A k i:=by
 have j:k<A[i].length:=by rw[t.len hi];exact e
 have m:i<A[k].length:=by rw[t.len e];exact hi
 unfold Go.Proofs.YtemmheaocgmebaaGreatDoor.en;rw[Ch hi,Ch e,Cu j,Cu m];exact h i k hi e j m
def Avr (h:C7 u v (Cv A))(I:PdM A):zF 180 [v] u fun r _=>r=zI A.length:=by
 obtain⟨L,U⟩:=I.lt;have F:=I.sq;have T:=F.le;have h0:=I.n0;have W:=F.tx;have a0:∀ r∈A,r.length<=12:=fun r Z=>by rw[F.row r Z];exact T
 refine Fn0.o func180<|G.callO _ _ kV call120 (Akc h W oV (fun r Z=>by have:=a0 r Z;omega) U.den U.pos U.nl) ?_;rintro v6 u6 m6 l6 ⟨D,fD,a6,c6,H,J,V,P,rfl,a1,Q,m⟩ _;rw[By];have t:H.length=A.length:=by rw[Q.1];simp
 obtain⟨go,co,eo⟩:=m.ptr 0 rfl (by intro e;simp only[oN,A6c]at e;rw[e]at t;simp at t;omega);simp only[oN,A03,t,Value.slice.injEq,true_and]at eo;obtain⟨rfl,rfl⟩:=eo;have R:∀ i,i<A.length->gMZ (A.map (Bp D)) i=Bp D (gM A i):=fun i hi=>by rw[Xj (by simpa using hi),A3v,Ch hi]
 have E:=fun (i k:Nat) (hi:i<A.length) (C:k<A.length)=>Ak4 (i:=i) (k:=k) F P hi C;have Y:Tc A.length (Oq D A) 86 0 1 (A.map (Bp D)):=by
  refine Tc.init ⟨mV,fun i hi=>?_⟩ (fun i j hi hj=>?_) (fun i j hi hj=>?_) oV
  ·rw[R i hi];unfold Bp;rw[A03,Ch hi,F.len hi]
  ·unfold enZ Oq;rw[R i hi]
  have X:j<(gM A i).length:=by rw[Ch hi,F.len hi];exact hj
  unfold Oq;rw[Wf X];exact Yp ((U.dig D V J).2 _ (Abw hi) _ (Xr X) (P _ (Abw hi) _ (Xr X)))
 have K:(0:Rat)<(D:Rat):=by exact_mod_cast J
 refine G.A call230 (Aou (f:=fD) T h0 Y (fun i k hi C=>by rw[<-E i k hi C,<-E k i C hi,I.sy.en F hi C]) (fun x hx=>by
  rw[Amv (A:=en A) (d:=(D:Rat)) (fun i k hi C=>(E i k hi C).symm)];exact Bcr K (I.pd x hx)) (fun k C=>A04 (Aqf 86 (show k<=12 by omega)) fV) Q m) ?_
 rintro v7 u7 m7 l7 rfl _;rw[By];exact G.drop PH.mt kV (fun g o ho=>by cases ho)<|G.z (zI A.length)
def Amx (F:Hx u)(h:C7 u v (Cv A))(e:PdM A):zF 179 [v] u fun r _=>r=zO:=by
 obtain⟨L,j⟩:=e.lt;have m:=e.sq;have C:=e.n6;refine Fn0.o func179<|G.c call186 (Adf h m) ?_;rintro Q I t rfl;refine G.nF 0 0<|G.c call229 (Aiy (h.mono t) m e.sy) ?_;rintro R J l2 rfl;refine G.c call119 (Aie (N:=6) (K:=86) (F.mono (t.trans l2)) (h.mono (t.trans l2)) m.tx C (fun r E=>by rw[m.row r E];exact C) oV oV oV j.den j.pos j.nl j.dig) ?_;rintro T P H rfl;exact G.z zO
def Ab0 (t:Hx u)(h:C7 u v (Cv A))(j:PdM A):zF 102 [v] u fun r _=>r=.tuple #[zT,zO]:=by
 have m:=fun (e:PH) (l:PH.le u e)=>Amx (t.mono l) (h.mono l) j;have hp:=fun (e:PH) (l:PH.le u e)=>Avr (h.mono l) j;obtain⟨a,c,rfl⟩:=h.opn;rw[A3]at h m hp⊢;refine Fn0.o func102<|G.c call179 (m _ (PH.le_refl _)) ?_;rintro H E C rfl;refine G.nF 0 0<|G.c call180 (hp _ C) ?_;rintro I F l2 rfl;exact G.eT A.length A.length<|G.z (.tuple #[zT,zO])
end
section
variable {C:CF}{P:List Par}{X:zM}{q:Rat}
def At5 {u:PH}{v:Value}(E:Ac u v 2 (P.map Ap))(U:Hb Bk P)(hl:P.length<=1000000) :
 zF 99 [v] u fun r _=>r=zT:=by
 obtain⟨pa,pc,rfl⟩:=E.opn;rw[A03]at E⊢;refine Fn0.o func99<|G.l (ι:=Nat) (fun i=>[(0,sV pa P.length pc),(3,iV i)]) (fun _=>[])
  (fun i u' W=>1<=i/\W=PH.mt) (fun i=>P.length-i) 1 ⟨oV,rfl⟩ ?_
 rintro J i T u2 m2 l2 ⟨hi,rfl⟩;by_cases h:i<P.length
 ·refine G.lT i P.length ?_;have t:=E.mono l2;have F:P[i]?=some P[i]:=A01 h;have H:P[i-1]?=some (P[i-1]'oV):=A01 oV;have I:Bk (P[i-1]'oV) P[i]<0:=A3n.1 U (i-1) i oV h oV;obtain⟨Z,oa,K,Q⟩:=Ac.at' t (j:=i) (e:=Ap P[i]) (by simp[F]);obtain⟨L,Y,m,R⟩:=Ac.at' t (j:=i-1) (e:=Ap (P[i-1]'oV)) (by simp[H]);rw[K]at m;cases m;subst K;refine G.s i 1 (i-1:Nat)<|G.n P.length pc R<|G.N P.length pc h Q<|G.c call127 (Re _ _ true (decide_eq_true I)) ?_;rintro v3 u3 V rfl;exact G.i i<|G.b (T (i+1) _ _ _ cV (l2.trans V) ⟨oV,rfl⟩ oV)
 exact G.lF i P.length<|G.z zT
def H6.frmX (h:H6 P C q X)(m:0<q)(j:0<C.c)(hp:∀ z,0<=Dh z P C)(e:P.Nodup)(x:Nat->Rat)(t:∃ i,i<P.length+1/\x i≠0):0<frm (P.length+1) (en X) x :=
 Avk (Tg Mn h.inv) (fun y u=>Axs m j hp e y u) t
def H9.pdm {F:List Al}{b:zR}{s c:Rat}(h:H9 P C q X b s c)(hp:Td F P q)(j:Ug P C)(H:P.length<=5):PdM X:=by
 have m:=h.okF hp j;have J:=m.n;refine⟨m.sq,oV,oV,fun i k hi I u E=>?_,h.light hp j H,fun x t=>?_⟩
 ·have e:=Ak9 Mn h.inv.inv i k oV oV;unfold en at e;rw[Ch hi,Ch I,Cu u,Cu E]at e;exact e
 rw[J]at t⊢;exact h.inv.frmX hp.pen.pos j.pos j.psd (hp.srt.nodup Et) x t
def Anl {u:PH}{Z Y:Value}{T:zC}{R:List Br}{F:List Al}{l:Nat}{P:List Par}{X:zM}{b:zR}{s c q:Rat}{C:CF}
 (ht:Hx u) (W:H5 u Z T R F (l:Int)) (ok:Bl u T R F (l:Int)) (J:Ma u Y P X b s c q) (I:H9 P C q X b s c) (hp:Td F P q) (H:Ug P C) (h5:P.length<=5) :
 zF 43 [Z,Y] u fun r _=>r=zT:=by
 have h:=I.okF hp H;have e:=h.n;have j:=h.bn;have K:=Adn W ok;obtain⟨a1,c1,a2,c2,a3,c3,rfl,_⟩:=id W;obtain⟨pa,pc,xa,xc,ra,rc,rfl,hP,E,V⟩:=id J;rw[e]at E J;rw[j]at V J;rw[e,j];refine Fn0.o func43<|G.c call98 K ?_;rintro v1 u1 m rfl;refine G.nF 0 0<|G.c call99 (At5 (hP.mono m) hp.srt oV) ?_;rintro v2 u2 l2 rfl;refine G.c call100 (Xy (pa:=pa) (n:=P.length) (pc:=pc) (xa:=xa) (xc:=xc) (ra:=ra) (rc:=rc) (s:=s) (c:=c) (q:=q) (a1:=a1) (n1:=T.length) (c1:=c1) (a2:=a2) (n2:=R.length) (c2:=c2) (a3:=a3) (n3:=F.length) (c3:=c3) (lab:=(l:Int)) (E.mono (m.trans l2)) e (fun r Q=>by rw[h.sq.row r Q,e]) oV) ?_;rintro v3 u3 U rfl;refine G.c call101 (Uw (pa:=pa) (n:=P.length) (pc:=pc) (xa:=xa) (xc:=xc) (ra:=ra) (rc:=rc) (s:=s) (c:=c) (q:=q) (a1:=a1) (n1:=T.length) (c1:=c1) (a2:=a2) (n2:=R.length) (c2:=c2) (a3:=a3) (n3:=F.length) (c3:=c3) (lab:=(l:Int)) (E.mono ((m.trans l2).trans U)) (V.mono ((m.trans l2).trans U)) e (fun r Q=>by rw[h.sq.row r Q,e]) j h.sq.tx h.bt h.st h.ct hp.pen.tx oV) ?_;rintro v4 u4 l4 rfl;have t:=((m.trans l2).trans U).trans l4;have L:=Ab0 (ht.mono t) (E.mono t) (I.pdm hp H h5);refine G.c call102 L ?_;rintro v5 u5 l5 rfl;have a0:sgn c.num=1:=C5 (R4 (by rw[I.ct];exact H.pos));have a4:sgn q.num=1:=C5 (R4 hp.pen.pos);refine G.eT 0 0<|G.c call103 (S7 h.ct) ?_;rintro v6 u6 l6 rfl;refine G.gT (sgn c.num) 0<|G.c call103 (S7 hp.pen.tx) ?_;rintro v7 u7 l7 rfl;exact G.gT (sgn q.num) 0<|G.z zT
end
section
variable {g:Nat}{u:PH}
def Vi:zC:=[([120],2),([121],2)]
def Zt (g:Nat):List Br:=[([114],[0,1],(some ⟨g,0,none⟩,2))]
def Jc:List Al:=[(0,1,0)]
def Azf (h:Ac u (zG g 2 2) 1 (Ai [0,1])):Bl u Vi (Zt g) Jc 1 where
 att:=⟨Sc jV,fun a j=>by simp[Vi]at j;rcases j with rfl|rfl<;>decide⟩
 rel:=⟨Sc (by show (([[114]]:zW).all Hn&&decide ([[114]]:zW).Nodup)=true;decide +kernel),fun r e=>by simp[Zt]at e;subst e;simp,fun r e a j=>by simp[Zt]at e;subst e;simp at j;show a<2;omega,fun r e=>by simp[Zt]at e;subst e;simp,fun r e k x y t m=>by
  simp[Zt]at e;subst e
  match k,t,m with
  |0,t,m=>simp at t m;omega
  |k+1,t,m=>simp at m,fun a j=>⟨_,A12.2 rfl,by
  have:a<2:=j;simp;omega⟩,fun r e=>by simp[Zt]at e;subst e;exact h⟩
 feat:=⟨fun f C=>by
  simp[Jc]at C;subst C;exact⟨[120],2,rfl,.inl ⟨rfl,rfl,fV⟩,fV⟩,fV⟩
 t1:=fV
 t2:=fV
 r1:=by show 0<1;omega
 r2:=by show 1<=6;omega
 f2:=fV
 l1:=fV
 l2:=fun l E=>by
  have:l=1:=oV
  subst this;exact⟨[121],rfl⟩
def Ajf:Bw Vi [[49],[50]]:=⟨rfl,fun i x t e h=>by
 match i,e,h with
 |0,e,h=>cases e;cases h;exact .inr (.inr (.inr ⟨rfl,1,I7,jV⟩))
 |1,e,h=>cases e;cases h;exact .inr (.inr (.inr ⟨rfl,2,Au1,jV⟩))
 |i+2,e,h=>simp[Vi]at e⟩
def Abn:Bw Vi [[48],[52]]:=⟨rfl,fun i x t e h=>by
 match i,e,h with
 |0,e,h=>cases e;cases h;exact .inr (.inr (.inr ⟨rfl,0,⟨jV,jV⟩,jV⟩))
 |1,e,h=>cases e;cases h;exact .inr (.inr (.inr ⟨rfl,4,⟨jV,jV⟩,jV⟩))
 |i+2,e,h=>simp[Vi]at e⟩
def Ad2:List Par:=[((0:Int),[])]
def Ai2 (C:CF):Nn Jc C Ad2:=⟨A6f _ _,fun p=>by
 constructor
 ·intro h;have:p=(0,[]):=by simpa[Ad2] using h
  subst this;exact .inl ⟨0,(0,1,0),rfl,rfl,rfl⟩
 rintro (⟨i,f,rfl,hf,_⟩|⟨_,i,f,_,hf,h2⟩)
 ·have:i<1:=(A05.1 hf).1;have:i=0:=oV;subst this;exact A12.2 rfl
 have:i<1:=(A05.1 hf).1;have:i=0:=oV;subst this;cases hf;simp at h2⟩
def Ws:Fd 1:=⟨jV,⟨30,jV,fV⟩,I7.tx⟩
def Qr (g:Nat):List Dm:=[([[49],[50]],1,(some ⟨g,0,none⟩,2))]
def Ml (g h:Nat):List Dm:=[([[49],[50]],1,(some ⟨g,0,none⟩,2)),([[48],[52]],1,(some ⟨h,0,none⟩,2))]
def Apl (g h e:Nat):Cf Jc 1 (Ml g h)=(Cf Jc 1 (Qr e)).add ((cfT Jc 1 [[48],[52]]).scale ((1:Int):Rat)):=rfl
def Ays:Av5 Jc 1 Ad2 [[48],[52]]:=⟨jV,jV⟩
def Azq (ok:Bl u Vi (Zt g) Jc 1)(h:Nat):0<(Cf Jc 1 (Qr h)).c:=by
 have o:=Apr ok Ajf jV;have e:Cf Jc 1 (Qr h)=(CF.num 0).add ((cfT Jc 1 [[49],[50]]).scale ((1:Nat):Rat)):=rfl;rw[e];show 0<0+(cfT Jc 1 [[49],[50]]).c*((1:Nat):Rat);rw[o.c];decide +kernel
theorem Azp (ok:Bl u Vi (Zt g) Jc 1)(e h:Nat):0<(Cf Jc 1 (Ml e h)).c:=by
 have o:=Apr ok Abn jV;have j:=Azq ok e;rw[Apl e h e];show 0<(Cf Jc 1 (Qr e)).c+(cfT Jc 1 [[48],[52]]).c*((1:Int):Rat);rw[o.c];have:(0:Rat)<1*((1:Int):Rat):=jV
 grind
end
def Ld {u:PH}{v:Value}{T:zC}{R:List Br}{F:List Al}{lab:Int}{a:zP}{c:Nat}{L:List Dm}(hX:H5 u v T R F lab)(ok:Bl u T R F lab)(I:T.length<=8)(hL:Ac u (.slice a L.length c) 2 (L.map F3))(hW:WOK u T L)(hl:L.length<=12) :
 zF 11 [v,.slice a L.length c] u fun r Q=>Azl Q r (Cf F lab L) (255*L.length):=by
 have a0:=fun (Q:PH) (l:PH.le u Q)=>T2 (hX.mono l) (ok.mono l);obtain⟨xa,xc,xb,xd,xe,xf,rfl,aj,ai,ah⟩:=id hX;have ak:=Awp I;have K:∀ n,∀ y∈L.take n,Bw T y.1/\y.2.1<=7:=fun n y hy=>by
  obtain⟨_,q1,_,q2⟩:=hW y (A27 hy);exact⟨q1,q2⟩
 have h:∀ n,CFS (Cf F lab (L.take n)):=fun n=>(Aee ok I (K n) (by rw[A1e];omega)).1;refine Fn0.o func11<|G.c call45 (a0 u (PH.le_refl _)) ?_;rintro v1 u1 l1 rfl;refine G.nF 0 0<|G.gF L.length 2000<|G.callO _ _ kV call46 (Jm (n:=0) oV oV) ?_;intro v2 u2 m2 l2 k2 _;rw[By];have n0:(⟨((0:Int):Rat),fun _=>0,fun _=>0⟩:CF)=CF.num 0:=by rw[show ((0:Int):Rat)=0 by decide +kernel];rfl
 rw[n0]at k2;obtain⟨b,a2,n,c2,b',a',n',c',g1,g2,rfl⟩:=Oe k2;refine G.l (ι:=Nat×(Bool×SlI)×(Bool×SlI)×Nat×Nat) (fun i=>[(2,.p 0 0),(4,.p 1 0),(7,.p 6001 0),(22,sV a L.length c),(23,iV L.length),(24,iV i.1)])
  (fun i=>[(0,⟨30,[sV xa T.length xc,sV xb R.length xd,sV xe F.length xf,iV lab]⟩),(1,⟨38,[tV [],sN,sN]⟩),(6001,⟨108,[bV i.2.1.1,sV i.2.1.2.1 i.2.1.2.2.1 i.2.1.2.2.2,bV i.2.2.1.1,sV i.2.2.1.2.1 i.2.2.1.2.2.1 i.2.2.1.2.2.2,.v (.map (some i.2.2.2.1)),.v (.map (some i.2.2.2.2))]⟩)])
  (fun i Q m'=>i.1<=L.length/\Kk m' Q (.agg #[.bool i.2.1.1,.slice i.2.1.2.1 i.2.1.2.2.1 i.2.1.2.2.2,.bool i.2.2.1.1,.slice i.2.2.1.2.1 i.2.2.1.2.2.1 i.2.2.1.2.2.2,.map (some i.2.2.2.1),.map (some i.2.2.2.2)]) (Cf F lab (L.take i.1)) (255*i.1))
  (fun i=>L.length-i.1) (0,(b,a2,n,c2),(b',a',n',c'),g1,g2) ⟨oV,k2⟩ ?_
 rintro J ⟨i,⟨b,a2,n,c2⟩,⟨b',a',n',c'⟩,g1,g2⟩ hJ u3 m3 l3 ⟨hi,U⟩;simp only at hi U hJ;have E:=(l1.trans l2).trans l3;by_cases P:i<L.length
 ·refine G.lT i L.length ?_;obtain⟨y,t⟩:∃ y,L[i]?=some y:=⟨_,A01 P⟩;obtain⟨hS,hT,a3,C⟩:=hW y (A1k t);obtain⟨ba,oa,rfl,ea⟩:=Ac.at' (hL.mono E) (j:=i) (e:=F3 y) (by simp[t]);obtain⟨ss,w,ya,yc⟩:=y;simp only at hS hT a3 C;have a1:L.take (i+1)=L.take i++[(ss,w,ya,yc)]:=by rw[A1n,t];rfl
  have hP:Mv u (.agg #[.slice xa T.length xc,.slice xb R.length xd,.slice xe F.length xf,zI lab]) (.slice ya ss.length yc) T R F lab ss:=⟨hX,ok,hS,hT⟩;have a9:=hT.len;obtain⟨d1,d2⟩:=Apv ok hT;have sK:CFS ((cfT F lab ss).scale (w:Rat)):=(d1.scale (Auv C)).cfs oV oV;have m:Cf F lab (L.take (i+1))=(Cf F lab (L.take i)).add ((cfT F lab ss).scale (w:Rat)):=by rw[a1,Eb]
  refine G.N L.length c P ea<|G.c call47 (Anz (hP.mono E)) ?_;rintro v4 u4 l4 rfl;refine G.nF 0 0<|G.lF w (-1000000000000)<|G.gF w 1000000000000<|G.c call49 (Arh (hP.mono (E.trans l4)) oV) ?_;rintro v5 u5 l5 ⟨k5,sF⟩;obtain⟨b5,a5,n5,c5,ac,aa,al,ad,af,ag,rfl⟩:=Sw k5;refine G.c call22 (P6 (z:=(w:Int)) oV oV) ?_;intro v6 u6 l6 k6;rw[A2r]at k6;obtain⟨b6,a6,n6,c6,ab,am,ae,rfl,_⟩:=k6.opn;have a4:SB (w:Rat):=(Auv C).small oV oV;refine G.callA _ _ kV kV call48 (By m3).symm (Ef m3)
   (Ar1 (((U.grow l4).grow l5).grow l6) (k5.mono l6) k6 a4 (h i) sF sK (by rw[<-m];exact h (i+1))) ?_
  intro v7 u7 m7 l7 H _;rw[<-m]at H;rw[By];obtain⟨b7,a7,n7,c7,W,V,a8,X,Y,Z,rfl⟩:=Oe H;exact G.i i<|G.b (hJ (i+1,(b7,a7,n7,c7),(W,V,a8,X),Y,Z) _ _ _ cV ((((l3.trans l4).trans l5).trans l6).trans l7) ⟨dV,H.congr rfl dV⟩ dV)
 obtain rfl:i=L.length:=oV;refine G.lF L.length L.length ?_;have hc:=h L.length;rw[A15]at U hc;refine G.callK _ _ kV call50 (Aod U.i hc oV) ?_;rintro v7 u7 l7 ⟨r,rfl,H⟩;obtain⟨e1,f1,h1,e2,f2,h2,rfl⟩:=H.opn;exact G.drop PH.mt kV (PH.mt_le _)<|G.r (.tuple #[.agg #[zS (Ae (Cf F lab L).c),.slice e1 f1 h1,.slice e2 f2 h2],zO]) ⟨rfl,_,rfl,H⟩
def Ahv {u:PH}(ht:Hx u):zF 8 [] u fun r _=>r=zT:=by
 refine Fn0.o func8<|G.buildU 96 2 24 (.agg #[zE,zO]) [.agg #[zS [120],zI (2:Nat)],.agg #[zS [121],zI (2:Nat)]] kV (fun x J=>by
  simp only[A1g,A11,or_false]at J;rcases J with rfl|rfl<;>exact⟨rfl,A1o.1 rfl⟩) rfl oV mV mV ?_
 intro g1 u1 l1 e1;refine G.B 3 1 8 zO [zI (0:Nat),zI (1:Nat)] (Av [0,1]) ?_;intro g2 u2 l2 e2;refine G.buildU 98 2 40 (.agg #[zE,zN]) [.agg #[zS [114],zG g2 2 2]] kV (fun x J=>by
  simp only[A1g,A11,or_false]at J;subst J;exact⟨rfl,A1o.1 rfl⟩) rfl oV mV mV ?_
 intro g3 u3 l3 e3;refine G.buildU 100 3 24 (.agg #[zO,zO,zO]) [.agg #[zI (0:Nat),zI (1:Nat),zI (0:Nat)]] kV (fun x J=>by
  simp only[A1g,A11,or_false]at J;subst J;exact⟨rfl,A1o.1 rfl⟩) rfl oV mV mV ?_
 intro g4 u4 l4 e4;have hX:H5 u4 (.agg #[zG g1 2 2,zG g3 1 1,zG g4 1 1,zI 1]) Vi (Zt g2) Jc ((1:Nat):Int) :=
  ⟨_,_,_,_,_,_,rfl,e1.listP.mono ((l2.trans l3).trans l4),e3.listP.mono l4,e4.listP⟩
 have j:Bl u4 Vi (Zt g2) Jc ((1:Nat):Int):=Azf (e2.listP.mono (l3.trans l4));have ar:=ht.mono (((l1.trans l2).trans l3).trans l4);clear e1 e2 e3 e4;refine G.B 9 1 16 zE [zS [49],zS [50]] (G6 [[49],[50]]) ?_;intro U u5 l5 e5;refine G.buildU 53 2 32 (.agg #[zN,zO]) [.agg #[zG U 2 2,zI 1]] kV (fun x J=>by
  simp only[A1g,A11,or_false]at J;subst J;exact⟨rfl,A1o.1 rfl⟩) rfl oV mV mV ?_
 intro g6 u6 l6 e6;have hW:WOK u6 Vi (Qr U):=fun y hy=>by
  have:y=([[49],[50]],1,(some ⟨U,0,none⟩,2)):=by simpa[Qr] using hy
  subst this;exact⟨e5.listP.mono l6,Ajf,A08 1,by show 1<=7;omega⟩
 have a8:=l5.trans l6;refine G.c call11 (Ld (hX.mono a8) (j.mono a8) fV (show Ac u6 (zG g6 (Qr U).length 1) 2 ((Qr U).map F3) from e6.listP) hW (by simp[Qr])) ?_;rintro v7 u7 l7 ⟨x7,rfl,k7⟩;have a9:=a8.trans l7;obtain⟨k,a3⟩:=Ajm (P:=Ad2) (hX.mono a9) (j.mono a9) fV hW.tup (by simp[Qr]) k7 (by simp[Qr]) (Ai2 _) fV oV;have aa:=hW.tup;obtain⟨a1,n1,c1,a2,n2,c2,rfl⟩:=k7.opn;refine G.B 9 1 16 zE [zS [49],zS [50]] (G6 [[49],[50]]) ?_;intro V u8 l8 e8;refine G.B 9 1 16 zE [zS [48],zS [52]] (G6 [[48],[52]]) ?_;intro W u9 l9 e9;refine G.buildU 53 2 32 (.agg #[zN,zO]) [.agg #[zG V 2 2,zI 1],.agg #[zG W 2 2,zI 1]] kV (fun x J=>by
  simp only[A1g,A11,or_false]at J;rcases J with rfl|rfl<;>exact⟨rfl,A1o.1 rfl⟩) rfl oV mV mV ?_
 intro aq an a6 ao;have a4:WOK an Vi (Ml V W):=fun y hy=>by
  simp only[Ml,A1g,A11,or_false]at hy;rcases hy with rfl|rfl
  ·exact⟨e8.listP.mono (l9.trans a6),Ajf,A08 1,by show 1<=7;omega⟩
  exact⟨e9.listP.mono a6,Abn,A08 1,by show 1<=7;omega⟩
 have a0:=(l8.trans l9).trans a6;have T:=a9.trans a0;refine G.c call11 (Ld (hX.mono T) (j.mono T) fV (show Ac an (zG aq (Ml V W).length 2) 2 ((Ml V W).map F3) from ao.listP) a4 (by simp[Ml])) ?_;rintro bm bd ai ⟨bu,rfl,a5⟩;have m:=T.trans ai;obtain⟨k',L⟩:=Ajm (P:=Ad2) (hX.mono m) (j.mono m) fV a4.tup (by simp[Ml]) a5 (by simp[Ml]) (Ai2 _) fV oV;have ab:=a4.tup;obtain⟨b1,m1,d1,b2,m2,d2,rfl⟩:=a5.opn;have hC:=Vx (P:=Ad2) j aa (by simp[Qr]) (Azq j U);have K:=Vx (P:=Ad2) j ab (by simp[Ml]) (Azp j V W);have hp:Td Jc Ad2 1:=Al6 (Ai2 (CF.num 0)) Ws fV;have ac:=L0 j j.l1 (Iz j) aa;have Y:=L0 j j.l1 (Iz j) ab;have H:Cf Jc ((1:Nat):Int) (Ml V W)=(Cf Jc ((1:Nat):Int) (Qr U)).add ((cfT Jc ((1:Nat):Int) [[48],[52]]).scale ((1:Int):Rat)):=Apl V W U;have b7:(Qr U).length=1:=rfl;have b8:(Ml V W).length=2:=rfl;generalize Cf Jc ((1:Nat):Int) (Qr U)=C at a3 hC H ac k7;generalize Cf Jc ((1:Nat):Int) (Ml V W)=C' at L K H Y a5;have am:=a0.trans ai;have I:=ar.mono m;have ad:=Aaz I (a3.mono am) Ws ac oV hC.psd;rw[Sv]at ad;refine G.c call13 ad ?_;rintro bn be aj au;rcases au with ⟨e,h,_⟩|⟨_,_,sv,X,b,s,c,rfl,kS,kN⟩
 ·exfalso;rcases h with ⟨h,_⟩|⟨_,_,h⟩
  ·have:=a3.mom.c;rw[h]at this;have h2:=hC.pos;rw[this]at h2;exact absurd h2 jV
  exact absurd h fV
 obtain⟨pa,pc,xa,xc,ra,rc,rfl,_⟩:=id kS;refine G.B 9 1 16 zE [zS [48],zS [52]] (G6 [[48],[52]]) ?_;intro b6 bf a7 ap;have E:=aj.trans a7;have Z:=m.trans E;have af:=Sg (w:=1) (I.mono E) (ss:=[[48],[52]]) ⟨hX.mono Z,j.mono Z,ap.listP,Abn⟩ (.inr Ays) (kS.mono a7) kN hp fV hC (by rw[<-H];exact K) fV oV oV oV;rw[<-H]at af;refine G.c call15 af ?_;rintro bo bg ak ⟨ba,X2,b4,s2,b5,rfl,ag,aw⟩;obtain⟨qa,qc,ya,yc,sa,sc,rfl,_⟩:=id ag;have Q:=E.trans ak;have ae:=Aaz (I.mono Q) (L.mono Q) Ws Y oV K.psd;rw[Sv]at ae;refine G.c call13 ae ?_;rintro bp bh al av;rcases av with ⟨e,h,_⟩|⟨_,_,bb,X3,b3,s3,c3,rfl,ah,ax⟩
 ·exfalso;rcases h with ⟨h,_⟩|⟨_,_,h⟩
  ·have:=L.mom.c;rw[h]at this;have h2:=K.pos;rw[this]at h2;exact absurd h2 jV
  exact absurd h fV
 obtain⟨za,zc,wa,wc,va,vc,rfl,_⟩:=id ah;refine G.eT' 0 0 rfl<|G.eT' 0 0 rfl<|G.eT' 0 0 rfl<|G.c call20 (T9 (ag.mono al) ah aw ax hp K) ?_;rintro bq bi ay rfl;refine G.c call39 (Vb (p:=3) (t:=2) oV oV) ?_;rintro br bj az rfl;refine G.c call39 (Vb (p:=3) (t:=3) oV oV) ?_;rintro bs bk b0 rfl;have R:=((((a7.trans ak).trans al).trans ay).trans az).trans b0;have F:=aj.trans R;refine G.c call43 (Anl (I.mono F) (hX.mono (m.trans F)) (j.mono (m.trans F)) (kS.mono R) kN hp hC fV) ?_;rintro bt bl b9 rfl;exact G.z zT
structure Atg (u:PH)(T:zC)(R:List Br)(F:List Al)(lab:Int)(L:List Dm)(xv lv:Value):Prop where
 sch:H5 u xv T R F lab
 ok:Bl u T R F lab
 t8:T.length<=8
 lab0:0<=lab
 f0:F≠[]
 f4:F.length<=4
 rows:Ac u lv 2 (L.map F3)
 wok:WOK u T L
 w9:W9 T L
 l6:L.length<=6
def Aul {u:PH}{s:Src}{ts:List Int}{k:Nat}(h:J0 u s ts)(Z:k<=s.n) :
 Ag prog 10 [s.ptr] u (s.M k) fun r u' m'=>∃ (T:zC) (R:List Br) (F:List Al) (lab:Int) (L:List Dm) (Q P:Value) (K:Nat),r=.tuple #[Q,P]/\Atg u' T R F lab L Q P/\K<=s.n/\m'=s.M K:=by
 letI:Pu:=⟨true⟩
 refine Ag.o func10<|G.callP _ _ kV rfl call44 (By _).symm (Ef _) (Ace 4 oV oV h Z) ?_;rintro v1 u1 m1 l1 ⟨T,R,F,lab,k1,H,ok,E,e,j,I,rfl,m⟩ _;rw[By];obtain⟨xa,xc,xb,xd,xe,xf,rfl,X,W,V⟩:=id H;refine G.callP _ _ kV rfl call35 (By _).symm (Ef _) (Ajh (most:=6) (h.mono l1) I H ok oV) ?_;rintro v2 u2 m2 l2 ⟨L,k2,t,C,Y,U,J,rfl⟩ _;rw[By];obtain⟨la,lc,rfl⟩:=t.opn;rw[A03]at t⊢;exact G.r (.tuple #[.agg #[.slice xa T.length xc,.slice xb R.length xd,.slice xe F.length xf,zI lab],.slice la L.length lc])
  ⟨T,R,F,lab,L,_,_,k2,rfl,⟨H.mono l2,ok.mono l2,E,e,j,m,t,Y,U,C⟩,J,rfl⟩
section
def A0s {u:PH}{j:Value}{T:zC}{F:List Al}{lab:Int}{C:CF}{K:Nat}(m:No u j C K)(hF:Da T F lab):∃ P,Nn F C P:=by
 obtain⟨A,Q,a1,c1,a2,c2,rfl,H,I,h,E,J,U⟩:=m;exact⟨He F A F.length,Tu h.srt _,fun p=>Aed h fun f t=>by
  obtain⟨n,k,_,e,_⟩:=hF.ok f t;rcases e with ⟨e,_⟩|⟨e,_⟩
  ·exact .inl e
  exact .inr e⟩
section
variable {u:PH} {T:zC} {R:List Br} {F:List Al} {lab:Int} {L L':List Dm} {P:List Par}
def Ala {l:Nat}(ok:Bl u T R F (l:Int))(hT:∀ y∈L,Bw T y.1/\1<=y.2.1)(e:Nn F (Cf F (l:Int) L) P){y:Dm}(m:y∈L):Aqi F l P y.1:=by
 cases h:G4 F (l:Int) y.1 with
 |false=>exact .inl h
 |true=>exact .inr ⟨h,fun x j=>Aln ok hT m h e.2 j⟩
theorem Apu (ok:Bl u T R F lab)(hT:∀ y∈L++L',Bw T y.1/\y.2.1<=7)(e:(L++L').length<=13)(m:0<(Cf F lab L).c):Ug P (Cf F lab (L++L')):=by
 refine Vx ok hT e ?_;rw[Api];obtain⟨k,h,_⟩:=Arb ok.feat ok.l1 (Iz ok) (L:=L') fun y j=>hT y (A6v _ j);show 0<(Cf F lab L).c+(Cf F lab L').c;rw[h];have:(0:Rat)<=(k:Rat):=by exact_mod_cast A1t k
 grind
end
end
section
variable {R:List Br}{T:zC}{u:PH}
def SmW.z12 {q:Rat}(h:SmW q):∃ z:Int,q*12=z/\z.natAbs<=18540:=by
 refine⟨q.num*((12/q.den:Nat):Int),(Aem h.den).symm,?_⟩;rw[A26,A1s];exact A25 h.num (A3u _ _)
section
variable {P:List Par} {C H:CF} {q s c:Rat} {X:zM} {b:zR} {N:Nat} {x:Nat->Rat} {F:List Al} {lab:Int}
def Bed {x:Par->Rat}:Fg P x 0=1:=rfl
theorem H6.levDe (h:H6 P C q X)(W:In N C)(hN:N<=33000000000)(hq:Fd q)(Y:P.Nodup)(hc:0<C.c)(J:∀ z,0<=Dh z P C)(a0:P.length<=11)(hx:∀ i,i<P.length+1->SmW (x i)):De 172 157 (Aye (P.length+1) (en X) x):=by
 obtain⟨L,h0,hL,Z⟩:=h.dens W hN hq Y hc J;have hf:=Al4 (n:=P.length+1) oV;have hp:(10:Nat)^(12*(P.length+1)+10)<=10^154:=A10 oV oV;generalize N5 (P.length+1)*(10^12)^(P.length+1)=B at hL hf Z;have e:∀ i,∃ z:Int,i<P.length+1->x i*12=z/\z.natAbs<=18540:=fun i=>by
  by_cases hi:i<P.length+1
  ·obtain⟨z,E,I⟩:=(hx i hi).z12;exact⟨z,fun _=>⟨E,I⟩⟩
  exact⟨0,fun h=>absurd h hi⟩
 obtain⟨Q,e⟩:∃ Q:Nat->Int,∀ i,i<P.length+1->x i*12=Q i/\(Q i).natAbs<=18540:=⟨fun i=>(e i).choose,fun i=>(e i).choose_spec⟩;have j:∀ i k,∃ z:Int,i<P.length+1->k<P.length+1->en X i k*(L:Rat)=z/\z.natAbs<=4320*B:=fun i k=>by
  by_cases hi:i<P.length+1/\k<P.length+1
  ·obtain⟨z,E,I⟩:=Z i k hi.1 hi.2;exact⟨z,fun _ _=>⟨E,I⟩⟩
  exact⟨0,fun h h'=>absurd ⟨h,h'⟩ hi⟩
 obtain⟨U,j⟩:∃ U:Nat->Nat->Int,∀ i k,i<P.length+1->k<P.length+1->en X i k*(L:Rat)=U i k/\(U i k).natAbs<=4320*B:=⟨fun i k=>(j i k).choose,fun i k=>(j i k).choose_spec⟩;have K:∀ i,i<P.length+1->∃ z:Int,Fy (P.length+1) (en X) x i*((L:Rat)*12)=z/\z.natAbs<=(P.length+1)*(4320*B*18540):=fun i hi=>by
  obtain⟨z,E,I⟩:=Bdv (n:=P.length+1) (f:=fun k=>U i k*Q k) (M:=4320*B*18540) fun k m=>by
   rw[A26];exact A25 (j i k hi m).2 (e k m).2
  refine⟨z,?_,I⟩;unfold Fy;rw[<-Jp,<-E];exact Ah fun k m=>by
   rw[A3c,<-(j i k hi m).1,<-(e k m).1];grind
 have t:∀ i,∃ z:Int,i<P.length+1->Fy (P.length+1) (en X) x i*((L:Rat)*12)=z/\z.natAbs<=(P.length+1)*(4320*B*18540):=fun i=>by
  by_cases hi:i<P.length+1
  ·obtain⟨z,E,I⟩:=K i hi;exact⟨z,fun _=>⟨E,I⟩⟩
  exact⟨0,fun h=>absurd h hi⟩
 obtain⟨V,t⟩:∃ V:Nat->Int,∀ i,i<P.length+1->Fy (P.length+1) (en X) x i*((L:Rat)*12)=V i/\(V i).natAbs<=(P.length+1)*(4320*B*18540):=⟨fun i=>(t i).choose,fun i=>(t i).choose_spec⟩;obtain⟨z,E,I⟩:=Bdv (n:=P.length+1) (f:=fun k=>Q k*V k) (M:=18540*((P.length+1)*(4320*B*18540))) fun k m=>by
  rw[A26];exact A25 (e k m).2 (t k m).2
 have h3:Aye (P.length+1) (en X) x*((L:Rat)*144)=z:=by
  unfold Aye Vq;rw[<-Jp,<-E];exact Ah fun k m=>by
   rw[A3c,<-(t k m).1,<-(e k m).1];grind
 have h4:(P.length+1)*(18540*((P.length+1)*(4320*B*18540)))<=12*(18540*(12*(4320*B*18540))):=A25 oV (A2h _ (A13 _ oV));generalize hT:(10:Nat)^154=T at hp;have e1:(10:Nat)^172=10^18*T:=by rw[<-hT,show 172=18+154 by rfl,A4k]
 have e2:(10:Nat)^157=1000*T:=by rw[<-hT,show 157=3+154 by rfl,A4k]
 refine⟨z,L*144,?_,oV,by rw[e1];omega,by rw[e2];omega⟩;rw[<-h3,A7e];rfl
def H9.levTx (h:H9 P C q X b s c)(hp:Td F P q)(e:Ug P C)(t:∀ i,i<P.length+1->SmW (x i)):Tx (Aye (P.length+1) (en X) x):=by
 obtain⟨N,m,j⟩:=e.cd;exact (h.inv.levDe j m hp.pen (hp.srt.nodup Et) e.pos e.psd hp.le t).tx oV oV oV oV
def H9.levPos (h:H9 P C q X b s c)(hp:Td F P q)(e:Ug P C){y:Par->Rat}:0<Aye (P.length+1) (en X) (Fg P y) :=
 Avk (Tg Mn h.inv.inv) (fun x j=>Axs hp.pen.pos e.pos e.psd (hp.srt.nodup Et) x j) ⟨0,oV,by rw[Bed];decide +kernel⟩
def H9.levLess {m:zM}{b':zR}{U E:Rat}(h:H9 P C q X b s c)(hp:Td F P q)(L:Ug P C)(o:Qi H)(t:Ug P (C.add (H.scale 1)))(J:H9 P (C.add (H.scale 1)) q m b' U E):Aye (P.length+1) (en m) (Fg P H.s)<Aye (P.length+1) (en X) (Fg P H.s):=by
 obtain⟨_,K⟩:=h.stepF hp o t;obtain⟨e,_⟩:=J.uniq K;have I:Aye (P.length+1) (en m) (Fg P H.s)=Aye (P.length+1) (Vd (P.length+1) (en X) (Fg P H.s) 1) (Fg P H.s):=by
  rw[e];unfold Aye Vq Fy;exact Ah fun i hi=>by rw[Ah fun j Q=>by rw[show en (Nj (P.length+1) X (Fg P H.s) 1) i j=_ from N6 hi Q]]
 rw[I];exact Bd8 (Ak9 Mn h.inv.inv) (h.levPos hp L)
noncomputable def X7 (F:List Al)(lab:Int)(P:List Par)(X:zM)(ss:zW):Rat:=if G4 F lab ss=true then Aye (P.length+1) (en X) (Fg P (cfT F lab ss).s) else 0
noncomputable def wtR (F:List Al)(lab:Int)(y:Dm):Rat:=if G4 F lab y.1=true then (y.2.1:Rat) else 0
theorem Bd5 (ok:Bl u T R F lab)(e f:Option Par):∀ {L:List Dm},(∀ y∈L,Bw T y.1)->As (Cf F lab L) e f=B9 (fun y=>wtR F lab y*(Zg (cfT F lab y.1).s e*Zg (cfT F lab y.1).s f)) L:=by
 intro L;induction L using Ig with
 |h0=>intro _;cases e<;>cases f<;>rfl
 |h1 L y ih =>
  intro hT;rw[Eb,T1,Ang,ih fun z j=>hT z (A24 _ j)]
  congr 1
  unfold wtR;cases h:G4 F lab y.1 with
  |true=>rw[if_pos rfl,(Apr ok (hT y mV) h).cell,Rat.mul_comm]
  |false=>rw[if_neg mV,(Awu ok (hT y mV) h).cell];grind
theorem Bd1 {L:List Dm}(ok:Bl u T R F lab)(hT:∀ y∈L,Bw T y.1)(h:H9 P (Cf F lab L) q X b s c)(hp:Td F P q)(j:Ug P (Cf F lab L)):B9 (fun y=>X7 F lab P X y.1*(y.2.1:Rat)) L<=((P.length+1:Nat):Rat):=by
 have t:=hp.pen.pos;have:=Bei (Mn (P:=P) (C:=Cf F lab L) (q:=q)) h.inv.inv (fun x I=>Axs t j.pos j.psd (hp.srt.nodup Et) x I) L (wtR F lab) (fun y=>Fg P (cfT F lab y.1).s) (fun i=>if 0<i then q else 0) (fun i=>by
  split
  ·exact Bat t
  exact Bcq) fun i m hi E=>by
  rw[N8 hi E,Bd5 ok _ _ hT]
  congr 1
  unfold idN;by_cases e:i=m
  ·subst e;by_cases h0:0<i
   ·rw[if_pos ⟨rfl,h0⟩,if_pos h0,if_pos rfl];grind
   rw[if_neg (fun h=>h0 h.2),if_neg h0];grind
  rw[if_neg (fun h=>e h.1),if_neg e];grind
 rw[Dt (g:=fun y=>wtR F lab y*Aye (P.length+1) (en X) (Fg P (cfT F lab y.1).s)) fun y _=>by
  unfold X7 wtR;split
  ·exact Rat.mul_comm ..
  grind]
 exact this
end
end
section
def Bef {T:zC}{F:List Al}{lab:Int}{ss:zW}{P:List Par}(hF:Da T F lab)(t:Bw T ss)(h:-1<=lab)(j:∀ l:Nat,lab=(l:Int)->l<ss.length)(m:G4 F lab ss=true)(hp:∀ p∈P,0<=p.1):∀ i,i<P.length+1->SmW (Fg P (cfT F lab ss).s i):=fun i hi=>by
 have e:i<(Ko P (cfT F lab ss).s).length:=by rw[Ad6];exact hi
 rw[<-V1 hi,Cu e];exact Abm hF t h j m hp _ (A09 e)
section
variable {u:PH} {tv sv zv:Value} {T:zC} {R:List Br} {F:List Al} {l:Nat} {ss:zW} {P:List Par} {X:zM} {b:zR} {s c q:Rat} {C:CF}
def Aqi.lev_tx (e:Aqi F l P ss)(ok:Bl u T R F (l:Int))(t:Bw T ss)(h:∀ l':Nat,(l:Int)=(l':Int)->l' < ss.length)(m:H9 P C q X b s c)(hp:Td F P q)(j:Ug P C):Tx (X7 F (l:Int) P X ss):=by
 unfold X7;rcases e with e|e
 ·rw[if_neg (by rw[e];simp)];exact Afe.tx
 rw[if_pos e.cnt];exact m.levTx hp j (Bef ok.feat t ok.l1 h e.cnt hp.par)
def Bdw (ht:Hx u)(h:Mv u zv tv T R F (l:Int) ss)(j:Aqi F l P ss)(hS:Ma u sv P X b s c q)(W:H9 P C q X b s c)(hp:Td F P q)(V:Ug P C)(h5:P.length<=5) :
 zF 23 [zv,sv,tv] u fun r _=>r=.tuple #[zS (Ae (X7 F (l:Int) P X ss)),zO]:=by
 have m:=W.okF hp V;have H:=m.n;have I:=m.bn;have L:=m.sq;have Z:Rec (P.length+1) (P.length+1) X:=⟨m.n,fun i hi=>by have:=m.n;rw[Ch oV];rw[L.row _ (A09 oV),m.n]⟩;have a5:=j.lev_tx h.ok h.fit h.lt W hp V;have K:=h.ok;have J:=h.fit;have a0:=h.lt;obtain⟨⟨a1,c1,a2,c2,a3,c3,rfl,_⟩,_⟩:=id h;obtain⟨pa,pc,xa,xc,ra,rc,rfl,hP,Y,hR⟩:=id hS;rw[H]at Y;rw[I]at hR;rw[H,I];rcases j with j|j
 ·have t:=Ail (pa:=pa) (n:=P.length) (pc:=pc) (xa:=xa) (xc:=xc) (ra:=ra) (rc:=rc) (s:=s) (c:=c) (q:=q) (w:=1) h j oV oV oV;refine Fn0.o func23<|G.c call68 t ?_;rintro v1 u1 l1 rfl;exact G.nF 0 0<|G.r (.tuple #[zS [48],zO]) ⟨rfl,by unfold X7;rw[if_neg (by rw[j];simp),Fz]⟩
 have t:=Aog (w:=1) ht h j hP Y hR hp m (W.light hp V h5) h5 oV oV oV;have a4:=Abm (P:=P) K.feat J K.l1 a0 j.cnt hp.par;have Q:SzL (Ko P (cfT F (l:Int) ss).s) 1:=fun x hx=>(a4 x hx).sz;have E:=Ad6 P (cfT F (l:Int) ss).s;have h6:(P.length+1)*(400+1+1)<=6*(400+1+1):=A13 _ oV;have h7:(P.length+1)*(1+(1+(P.length+1)*(400+1+1))+1)<=6*(1+(1+6*(400+1+1))+1):=A25 oV oV;refine Fn0.o func23<|G.c call68 t ?_;rintro v1 u1 l1 ⟨xv,rfl,U⟩;obtain⟨ax,cx,rfl⟩:=U.lp.opn;rw[E]at U⊢;refine G.nF 0 0<|G.c call70 (Aeu (n:=P.length+1) (S:=1) false (Y.mono l1) Z L.tx U E oV Q oV) ?_;rintro v2 u2 l2 ⟨kr,sr⟩;obtain⟨ar,cr,rfl⟩:=kr.lp.opn;rw[F1]at kr⊢;refine G.c call69 (As6 (n:=P.length+1) (S:=1) (S':=1+(P.length+1)*(400+1+1)) (U.mono l2) kr E (F1 _ _ _ _) oV Q sr oV) ?_;rintro v3 u3 l3 ⟨kd,sd⟩;have e:Vq (P.length+1) (gR (Ko P (cfT F (l:Int) ss).s)) (gR (Io (P.length+1) X (Ko P (cfT F (l:Int) ss).s) false))=X7 F (l:Int) P X ss:=by
  unfold X7 Aye Vq;rw[if_pos j.cnt];exact Ah fun k j=>by rw[V1 j,Ae6 j]
 rw[e]at kd;obtain⟨fd,rfl⟩:=kd.opF;refine G.c call71 (Uf (ht.mono ((l1.trans l2).trans l3)) kd a5) ?_;rintro v4 u4 l4 rfl;exact G.z (.tuple #[zS (Ae (X7 F (l:Int) P X ss)),zO])
end
end
def X8 {m u:PH}{n c:Nat}{a:zP}{e:List (Value×zV)}{X:zM}(h:Bag m (oQ (.slice a n c) e::e.map Ej))(E:QAt u e X)(I:PH.le m u):Aa8 u (.slice a n c) X:=by
 have h0:Ac u (.slice a n c) 1 (e.map (·.1)):=h.list I 0 (x:=oQ (.slice a n c) e) rfl;refine⟨e.map (·.1),h0,by simp[E.1],fun j r J=>?_⟩;obtain⟨C,H⟩:=A05.1 J;have F:j<e.length:=by rw[E.1];exact C
 have t:e[j]?=some e[j]:=A01 F;refine⟨e[j].1,by rw[A1a,t];rfl,?_⟩;refine⟨e[j].2,h.list I (j+1) (x:=Ej e[j]) (by simp[t]),?_⟩;have:=E.2 j _ t;rw[Ch C,H]at this;exact this
section
def Bel {u m:PH}{g n c i j:Nat}{rows:List (Value×zV)}{A:zM}(h:Bag m (oQ (zG g n c) rows::rows.map Ej))(R:QAt u rows A)(P:Rec n n A)(hi:i<n)(U:j<n) :
 ∃ H K f F,rows[i]?=some (zG H n K,F)/\F[j]?=some (qv f)/\F.length=n/\ElP m g (0+i*1) (zG H n K)/\QP u (qv f) (en A i j)/\ElP m H (0+j*4) (qv f):=by
 have V:rows.length=n:=by rw[R.1,P.1]
 have t:rows[i]?=some rows[i]:=A01 oV;have C:=R.2 i _ t;obtain⟨⟨W,F⟩,T⟩:∃ x,rows[i]=x:=⟨_,rfl⟩;rw[T]at t C;simp only at C;have E:F.length=n:=by rw[C.1,P.2 i hi]
 have I:(oQ (zG g n c) rows::rows.map Ej)[i+1]?=some (Ej (W,F)):=by rw[A7r,A1a,t];rfl
 obtain⟨H,K,e⟩:=h.ptr _ I (by intro e;simp only[Ej]at e;rw[e]at E;simp at E;omega);simp only[Ej]at e;rw[E]at e;subst e;have J:j<(gM A i).length:=by rw[P.2 i hi];exact U
 obtain⟨e,Q,L⟩:=C.at J;obtain⟨f,rfl⟩:=L.opQ;rw[<-Cu J]at L;exact⟨H,K,f,F,t,Q,E,h.el 0 (x:=oQ _ rows) rfl rfl (Bc5 t),L,h.el _ (x:=Ej _) I rfl Q⟩
def Bdk {x y:PH}(h:Hp x y):x.or y=y.or x:=by
 funext g
 rcases h g with e|e
 ·rw[PH.or_r e];cases hy:y g with
  |none=>rw[PH.or_r hy,e]
  |some o=>rw[PH.or_l hy]
 rw[PH.or_r e];cases hx:x g with
 |none=>rw[PH.or_r hx,e]
 |some o=>rw[PH.or_l hx]
def Bdg {x y:PH}(h:Hp x y):Hp y x:=fun g=>(h g).symm
section
variable {u m:PH} {g n c S:Nat} {xv:Value} {rows:List (Value×zV)} {X:zM} {x:zR}
def Bdy (U:Bag m (oQ (zG g n c) rows::rows.map Ej))(hQ:QAt u rows X)(hX:Rec n n X)(hx:Cj u xv (x.map Ae))(hl:x.length=n)(hT:∀ q∈x,Tx q)(hn:n<=100)(hS:∀ i k,i<n->k<n->Sz (en X i k) S)(a9:n*(400+S+1)<=100000000) :
 Ag prog 79 [zG g n c,xv] u m fun v u' m'=>m'=m/\QsP u' v (Io n X x false)/\SzL (Io n X x false) (1+n*(400+S+1)):=by
 obtain⟨xa,xc,rfl⟩:=Ac.opn hx;have a6:(Cc (x.map Ae)).length=n:=by rw[Cb,A03,hl]
 rw[a6]at hx⊢;refine Ag.o func79<|G.l (ι:=Nat×zV×(zP×Nat)) (fun i=>[(0,sV (zA g) n c),(1,sV xa n xc),(5,sV i.2.2.1 i.1 i.2.2.2),(10,iV n),(11,iV i.1)]) (fun _=>[])
  (fun i u' m'=>i.1<=n/\AtP QP u' i.2.1 ((Io n X x false).take i.1)/\SzL ((Io n X x false).take i.1) (1+n*(400+S+1))/\Af m m' (.slice i.2.2.1 i.1 i.2.2.2) 69 4 i.2.1) (fun i=>n-i.1) (0,[],(none,0))
  ⟨A1t _,by dsimp only;rw[A53];exact AtP.nil,(fun q L=>by simp at L),Af.nil _ _ _⟩ ?_
 rintro J ⟨i,es,⟨oa,oc⟩⟩ hJ u1 m1 l1 ⟨hi,C,I,Q⟩;simp only at hi C I Q hJ;have K:es.length=i:=by rw[C.1,A1e,F1];omega
 by_cases E:i<n
 ·refine G.lT i n<|G.c call22 (P6 (z:=0) oV oV) ?_;intro v2 u2 l2 k2;rw[show ((0:Int):Rat)=0 from by decide]at k2;obtain⟨f2,rfl⟩:=k2.opQ;refine G.l (ι:=Nat×Q4) (fun k=>[(0,sV (zA g) n c),(1,sV xa n xc),(5,sV oa i oc),(10,iV n),(11,iV i),(6,iV i),(7,.p 5001 0),(16,iV n),(17,iV k.1)]) (fun k=>[(5001,⟨69,qc k.2⟩)])
   (fun k u' m'=>k.1<=n/\QP u' (qv k.2) (Bb k.1 fun t=>Alj X false i t*gR x t)/\Sz (Bb k.1 fun t=>Alj X false i t*gR x t) (1+k.1*(400+S+1))/\m'=m1) (fun k=>n-k.1) (0,f2)
   ⟨A1t _,k2,Q3.mono oV,rfl⟩ ?_
  rintro J2 ⟨k,f⟩ R u3 m3 l3 ⟨hk,hf,h,rfl⟩;simp only at hk hf h R;have a0:=(l1.trans l2).trans l3;by_cases F:k<n
  ·refine G.lT k n ?_;obtain⟨gi,ci,fa,ei,ad,ac,a7,a1,ka,a2⟩:=Bel U (hQ.mono a0) hX E F;have W:=Ad3 Q;have H:k<x.length:=oV;have a5:x[k]?=some x[k]:=A01 H;obtain⟨bx,ox,rfl,ex⟩:=Ac.at' (Ac.mono hx a0) (j:=k) (e:=zS (Ae x[k])) (by simp[Cc,a5]);have s1:=hS i k E F;have Z:=hT _ (A09 H);have s2:Sz (gR x k) 400:=by rw[Cu H];exact Z.sz
   have sm:=Fx s1 s2;have aa:k*(400+S+1)<=n*(400+S+1):=A13 _ hk;have ab:400+S+1<=n*(400+S+1):=Nat.le_mul_of_pos_left _ oV;refine G.O n c E (a1.mono W)<|G.O n ci F (a2.mono W)<|G.N n xc F ex<|G.c call27 (G8 Z) ?_;intro v4 u4 l4 k4;rw[<-Cu H]at k4;obtain⟨f4,rfl⟩:=k4.opQ;refine G.c call28 (Gh (ka.mono l4) k4 (s1.mono oV) (s2.mono oV)) ?_;intro v5 u5 l5 k5;obtain⟨f5,rfl⟩:=k5.opQ;refine G.c call26 (Pd (hf.mono (l4.trans l5)) k5 (h.mono oV) (sm.mono oV)) ?_;intro v6 u6 l6 k6;obtain⟨f6,rfl⟩:=k6.opQ;refine G.i k<|G.b (R (k+1,f6) _ _ _ cV (((l3.trans l4).trans l5).trans l6) ⟨dV,by dsimp only;rw[Ds];exact k6,?_,rfl⟩ dV);dsimp only;rw[Ds];refine (R5 h sm).mono ?_;have:(k+1)*(400+S+1)=k*(400+S+1)+(400+S+1):=Nat.succ_mul _ _;generalize k*(400+S+1)=z at *
   omega
  obtain rfl:k=n:=oV;refine G.lF k k<|G.B 69 4 64 zQ [qv f] (Akh f) ?_;intro g7 u7 l7 e7;refine G.append 69 4 64 zQ m es [qv f] (.slice oa i oc) g7 0 1 1 kV rfl rfl oV (by rw[<-K]at Q⊢;exact Q) e7 (Akh f) rfl oV oV oV ?_;intro v8 m8 P;obtain⟨a8,c8,rfl⟩:=P.shape;have e8:(es++[qv f]).length=i+1:=by simp[K]
  rw[e8]at P⊢;refine G.i i ?_;have Y:(Io k X x false).take (i+1)=(Io k X x false).take i++[Bb k fun t=>Alj X false i t*gR x t]:=by
   have V:i<(Io k X x false).length:=by rw[F1];exact E
   rw[A1n,A01 V,<-Cu V,Xv E];rfl
  refine G.b (hJ (i+1,es++[qv f],(a8,c8)) _ _ _ cV (((l1.trans l2).trans l3).trans l7) ⟨dV,?_,?_,P⟩ dV)
  ·dsimp only;rw[Y];exact (C.mono (fun _ _ k=>k.mono ((l2.trans l3).trans l7))).snoc (hf.mono l7)
  dsimp only;rw[Y];intro q L;rcases A1h.1 L with L|L
  ·exact I q L
  simp only[A12]at L;subst L;exact h
 obtain rfl:i=n:=oV;refine G.lF i i ?_;rw[A1j (by rw[F1];omega)]at C I;obtain⟨sm,rfl,T,a3⟩:=Q.split;refine G.giveP (ma:=sm) (sm:=m) kV (Bdk T) (Bdg T) (fun g=>by
  cases hm:m g with
  |none=>exact .inl hm
  |some o=>exact .inr mV) ?_
 intro u9 l9 a4;exact G.r (.slice oa i oc) ⟨rfl,⟨es,a3.list a4,C.1,fun j q hj=>by
  obtain⟨e,h1,h2⟩:=C.2 j q hj;exact⟨e,h1,h2.mono l9⟩⟩,I⟩
def Bdt (U:Bag m (oQ (zG g n c) rows::rows.map Ej))(hQ:QAt u rows X)(hX:Rec n n X)(hx:Cj u xv (x.map Ae))(hl:x.length=n)(hT:∀ q∈x,Tx q)(hn:n<=100)(hS:∀ i k,i<n->k<n->Sz (en X i k) S)(a9:n*(400+S+1)<=100000000) :
 Ag prog 80 [zG g n c,xv] u m fun v u' m'=>m'=m/\QsP u' v (Io n X x true)/\SzL (Io n X x true) (1+n*(400+S+1)):=by
 obtain⟨xa,xc,rfl⟩:=Ac.opn hx;have a6:(Cc (x.map Ae)).length=n:=by rw[Cb,A03,hl]
 rw[a6]at hx⊢;refine Ag.o func80<|G.l (ι:=Nat×zV×(zP×Nat)) (fun i=>[(0,sV (zA g) n c),(1,sV xa n xc),(5,sV i.2.2.1 i.1 i.2.2.2),(10,iV n),(11,iV i.1)]) (fun _=>[])
  (fun i u' m'=>i.1<=n/\AtP QP u' i.2.1 ((Io n X x true).take i.1)/\SzL ((Io n X x true).take i.1) (1+n*(400+S+1))/\Af m m' (.slice i.2.2.1 i.1 i.2.2.2) 69 4 i.2.1) (fun i=>n-i.1) (0,[],(none,0))
  ⟨A1t _,by dsimp only;rw[A53];exact AtP.nil,(fun q L=>by simp at L),Af.nil _ _ _⟩ ?_
 rintro J ⟨i,es,⟨oa,oc⟩⟩ hJ u1 m1 l1 ⟨hi,C,I,Q⟩;simp only at hi C I Q hJ;have K:es.length=i:=by rw[C.1,A1e,F1];omega
 by_cases E:i<n
 ·refine G.lT i n<|G.c call22 (P6 (z:=0) oV oV) ?_;intro v2 u2 l2 k2;rw[show ((0:Int):Rat)=0 from by decide]at k2;obtain⟨f2,rfl⟩:=k2.opQ;refine G.l (ι:=Nat×Q4) (fun k=>[(0,sV (zA g) n c),(1,sV xa n xc),(5,sV oa i oc),(10,iV n),(11,iV i),(6,iV i),(7,.p 5001 0),(16,iV n),(17,iV k.1)]) (fun k=>[(5001,⟨69,qc k.2⟩)])
   (fun k u' m'=>k.1<=n/\QP u' (qv k.2) (Bb k.1 fun t=>Alj X true i t*gR x t)/\Sz (Bb k.1 fun t=>Alj X true i t*gR x t) (1+k.1*(400+S+1))/\m'=m1) (fun k=>n-k.1) (0,f2)
   ⟨A1t _,k2,Q3.mono oV,rfl⟩ ?_
  rintro J2 ⟨k,f⟩ R u3 m3 l3 ⟨hk,hf,h,rfl⟩;simp only at hk hf h R;have a0:=(l1.trans l2).trans l3;by_cases F:k<n
  ·refine G.lT k n ?_;obtain⟨gi,ci,fa,ei,ad,ac,a7,a1,ka,a2⟩:=Bel U (hQ.mono a0) hX F E;have W:=Ad3 Q;have H:k<x.length:=oV;have a5:x[k]?=some x[k]:=A01 H;obtain⟨bx,ox,rfl,ex⟩:=Ac.at' (Ac.mono hx a0) (j:=k) (e:=zS (Ae x[k])) (by simp[Cc,a5]);have s1:=hS k i F E;have Z:=hT _ (A09 H);have s2:Sz (gR x k) 400:=by rw[Cu H];exact Z.sz
   have sm:=Fx s1 s2;have aa:k*(400+S+1)<=n*(400+S+1):=A13 _ hk;have ab:400+S+1<=n*(400+S+1):=Nat.le_mul_of_pos_left _ oV;refine G.O n c F (a1.mono W)<|G.O n ci E (a2.mono W)<|G.N n xc F ex<|G.c call27 (G8 Z) ?_;intro v4 u4 l4 k4;rw[<-Cu H]at k4;obtain⟨f4,rfl⟩:=k4.opQ;refine G.c call28 (Gh (ka.mono l4) k4 (s1.mono oV) (s2.mono oV)) ?_;intro v5 u5 l5 k5;obtain⟨f5,rfl⟩:=k5.opQ;refine G.c call26 (Pd (hf.mono (l4.trans l5)) k5 (h.mono oV) (sm.mono oV)) ?_;intro v6 u6 l6 k6;obtain⟨f6,rfl⟩:=k6.opQ;refine G.i k<|G.b (R (k+1,f6) _ _ _ cV (((l3.trans l4).trans l5).trans l6) ⟨dV,by dsimp only;rw[Ds];exact k6,?_,rfl⟩ dV);dsimp only;rw[Ds];refine (R5 h sm).mono ?_;have:(k+1)*(400+S+1)=k*(400+S+1)+(400+S+1):=Nat.succ_mul _ _;generalize k*(400+S+1)=z at *
   omega
  obtain rfl:k=n:=oV;refine G.lF k k<|G.B 69 4 64 zQ [qv f] (Akh f) ?_;intro g7 u7 l7 e7;refine G.append 69 4 64 zQ m es [qv f] (.slice oa i oc) g7 0 1 1 kV rfl rfl oV (by rw[<-K]at Q⊢;exact Q) e7 (Akh f) rfl oV oV oV ?_;intro v8 m8 P;obtain⟨a8,c8,rfl⟩:=P.shape;have e8:(es++[qv f]).length=i+1:=by simp[K]
  rw[e8]at P⊢;refine G.i i ?_;have Y:(Io k X x true).take (i+1)=(Io k X x true).take i++[Bb k fun t=>Alj X true i t*gR x t]:=by
   have V:i<(Io k X x true).length:=by rw[F1];exact E
   rw[A1n,A01 V,<-Cu V,Xv E];rfl
  refine G.b (hJ (i+1,es++[qv f],(a8,c8)) _ _ _ cV (((l1.trans l2).trans l3).trans l7) ⟨dV,?_,?_,P⟩ dV)
  ·dsimp only;rw[Y];exact (C.mono (fun _ _ k=>k.mono ((l2.trans l3).trans l7))).snoc (hf.mono l7)
  dsimp only;rw[Y];intro q L;rcases A1h.1 L with L|L
  ·exact I q L
  simp only[A12]at L;subst L;exact h
 obtain rfl:i=n:=oV;refine G.lF i i ?_;rw[A1j (by rw[F1];omega)]at C I;obtain⟨sm,rfl,T,a3⟩:=Q.split;refine G.giveP (ma:=sm) (sm:=m) kV (Bdk T) (Bdg T) (fun g=>by
  cases hm:m g with
  |none=>exact .inl hm
  |some o=>exact .inr mV) ?_
 intro u9 l9 a4;exact G.r (.slice oa i oc) ⟨rfl,⟨es,a3.list a4,C.1,fun j q hj=>by
  obtain⟨e,h1,h2⟩:=C.2 j q hj;exact⟨e,h1,h2.mono l9⟩⟩,I⟩
end
end
section
variable {A:zM}{K L n q:Nat}
def Ber {q d L:Nat}(h:q ∣ L)(e:d ∣ L):q*(d/Nat.gcd q d) ∣ L:=by
 rw[<-Nat.mul_div_assoc _ (Ba0 _ _)];exact Ba7 h e
def leL (e:Y5 A L K)(h:q ∣ L):0<q/\q<=L:=⟨Nat.pos_of_dvd_of_pos h e.pos,A48 e.pos h⟩
def nlL (e:Y5 A L K)(h:q<=L):nl q<=100000000000:=A04 (C4 h) (A04 e.nl oV)
def Bdf (h:Lib.nDigits n<=K):nl n<=K:=A4 (A2s (Lib.lt_pow_nDigits n) (A04 (A10 oV h) (Nat.pow_le_pow_left oV K)))
def Bdz (e:Y5 A L K)(j:0<K){r:zR}(t:r∈A){x:Rat}(u:x∈r):(∀ D,D ∣ L->0<D->Lib.nDigits (x.num*((D/x.den:Nat):Int)).natAbs<=K)/\nl x.num.natAbs<=K:=by
 have m:=e.den r t x u;have C:=(e.dig L (Nat.dvd_refl _) e.pos).2 r t x u m;have h:(x.num*((L/x.den:Nat):Int)).natAbs<10^K:=A2s (Lib.lt_pow_nDigits _) (A10 oV C);rw[A26,A1s]at h;refine⟨fun D H I=>Cz j ?_,?_⟩
 ·rw[A26,A1s];exact A22 (A2h _ (Nat.div_le_div_right (A48 e.pos H))) h
 have E:0<L/x.den:=Nat.div_pos (A48 e.pos m) x.den_pos;have F:x.num.natAbs<=x.num.natAbs*(L/x.den):=Nat.le_mul_of_pos_right _ E;exact Bdf (Cz j (A22 F h) )
def Bd0 {u:PH}{v:Value}{n w L K:Nat}(h:C7 u v (Cv A))(hA:A.length<=12)(hr:∀ r∈A,r.length=w)(hw:w<=12)(hT:∀ r∈A,∀ q∈r,Tx q)(C:Y5 A L K)(hK:0<K)(ak:K<=600)(am:n*K<=600)(hn:n<=12):zF 138 [v,zI n] u fun v' _=>v'=zL:=by
 obtain⟨a,c,rfl⟩:=h.opn;rw[A3]at h⊢;refine Fn0.o func138<|G.c call67 (Ac6 (n:=1) oV oV) ?_;intro v1 u1 l1 k1;obtain⟨f1,rfl⟩:=k1.opB;refine G.l (ι:=Nat×B3×Nat) (fun i=>[(0,sV a A.length c),(1,iV n),(5,.p 1001 0),(18,iV A.length),(19,iV i.1)]) (fun i=>[(1001,⟨67,bc i.2.1⟩)])
  (fun i u' m'=>i.1<=A.length/\i.2.2 ∣ L/\Do u' (bv i.2.1) (i.2.2:Int)/\m'=PH.mt) (fun i=>A.length-i.1) (0,f1,1) ⟨A1t _,Ba6 _,k1,rfl⟩ ?_
 rintro J ⟨i,f,q⟩ hJ u2 m2 l2 ⟨hi,P,R,rfl⟩;simp only at hi P R hJ;by_cases m:i<A.length
 ·refine G.lT i A.length ?_;obtain⟨b1,o1,a1,c1,rfl,W,e2⟩:=(h.mono (l1.trans l2)).row (Dw (A01 m));rw[A03,hr _ (A09 m)]at W e2;refine G.N A.length c m W<|G.l (ι:=Nat×B3×Nat) (fun k=>[(0,sV (some ⟨b1,o1,none⟩) A.length c),(1,iV n),(5,.p 1001 0),(18,iV A.length),(19,iV i),(6,iV i),(26,iV w),(27,iV k.1)]) (fun k=>[(1001,⟨67,bc k.2.1⟩)])
   (fun k u' m'=>k.1<=w/\k.2.2 ∣ L/\Do u' (bv k.2.1) (k.2.2:Int)/\m'=PH.mt) (fun k=>w-k.1) (0,f,q) ⟨A1t _,P,R,rfl⟩ ?_
  clear R P;rintro J2 ⟨k,f,q⟩ Q u3 m3 V ⟨hk,P,R,rfl⟩;simp only at hk P R Q;by_cases I:k<w
  ·refine G.lT k w ?_;have F:k<A[i].length:=by rw[hr _ (A09 m)];exact I
   have Z:Tx A[i][k]:=hT _ (A09 m) _ (A09 F);obtain⟨b2,o2,rfl,e3⟩:=Ac.at' (Ac.mono e2 V) (j:=k) (e:=zS (Ae A[i][k])) (by simp[Cc,A01 F]);refine G.N A.length c m (W.mono V)<|G.N w c1 I e3<|G.c call27 (G8 Z) ?_;intro v4 u4 U k4;obtain⟨b4,a4,n4,c4,ag,an,ai,rfl,_,_,a8⟩:=k4.opn;have hd:=C.den _ (A09 m) _ (A09 F);generalize A[i][k]=x at *
   obtain⟨aa,E⟩:=leL C hd;obtain⟨T,t⟩:=leL C P;have al:0<Nat.gcd q x.den:=Nat.gcd_pos_of_pos_left _ T;refine G.c call145 (Abo (R.mono U) a8 (nlL C t) (nlL C E)) ?_;intro v5 u5 l5 k5;simp only[A1s]at k5;obtain⟨f5,rfl⟩:=k5.opB;have a3:Nat.gcd q x.den<=q:=Nat.gcd_le_left _ T;refine G.c call147 (Q5 (a8.mono l5) k5 (nlL C E) (nlL C (A04 a3 t)) oV) ?_;rintro v6 u6 l6 ⟨x6,y6,rfl,k6,a0⟩;obtain⟨f6,rfl⟩:=k6.opB;obtain⟨a9,rfl⟩:=a0.opB;have e6:((x.den:Int)).tdiv ((Nat.gcd q x.den:Nat):Int)=((x.den/Nat.gcd q x.den:Nat):Int):=by
    rw[A32 oV];rfl
   rw[e6]at k6;have H:=Ber P hd;have X:x.den/Nat.gcd q x.den<=x.den:=A3u _ _;refine G.c call74 (Gg (R.mono (((U.trans l5).trans l6))) k6 (A04 (nlL C t) oV) (A04 (nlL C (A04 X E)) oV)) ?_;intro v7 u7 l7 k7;obtain⟨f7,rfl⟩:=k7.opB;rw[<-A4d]at k7;generalize q*(x.den/Nat.gcd q x.den)=r at *
   obtain⟨ad,a7⟩:=leL C H;refine G.c call206 (Q0 k7 (nlL C a7)) ?_;rintro v8 u8 l8 rfl;have Y:Lib.nDigits (r:Int).natAbs<=K:=(C.dig r H ad).1;generalize Lib.nDigits (r:Int).natAbs=D at *
   have ac:n*D<=n*K:=A2h _ Y;exact G.mul (n:Int) (D:Int) ((n*D:Nat):Int) kV (by rw[A4d]) oV oV<|G.gF (n*D:Nat) 600<|G.i k<|G.b (Q (k+1,f7,r) _ _ _ cV (((((V.trans U).trans l5).trans l6).trans l7).trans l8) ⟨dV,H,k7.mono l8,rfl⟩ dV)
  exact G.lF k w<|G.i i<|G.b (hJ (i+1,f,q) _ _ _ cV (l2.trans V) ⟨dV,P,R,rfl⟩ dV)
 refine G.lF i A.length ?_;clear hJ m hi;refine G.l (ι:=Nat) (fun i=>[(0,sV a A.length c),(1,iV n),(5,.p 1001 0),(58,iV A.length),(59,iV i)]) (fun i=>[(1001,⟨67,bc f⟩)])
  (fun i u' m'=>i<=A.length/\m'=PH.mt) (fun i=>A.length-i) 0 ⟨A1t _,rfl⟩ ?_
 rintro J i hJ u3 m3 V ⟨hi,rfl⟩;by_cases m:i<A.length
 ·refine G.lT i A.length ?_;obtain⟨b1,o1,a1,c1,rfl,W,e2⟩:=(h.mono ((l1.trans l2).trans V)).row (Dw (A01 m));rw[A03,hr _ (A09 m)]at W e2;refine G.N A.length c m W<|G.l (ι:=Nat) (fun k=>[(0,sV (some ⟨b1,o1,none⟩) A.length c),(1,iV n),(5,.p 1001 0),(58,iV A.length),(59,iV i),(11,iV i),(66,iV w),(67,iV k)]) (fun k=>[(1001,⟨67,bc f⟩)])
   (fun k u' m'=>k<=w/\m'=PH.mt) (fun k=>w-k) 0 ⟨A1t _,rfl⟩ ?_
  rintro J2 k Q u4 m4 U ⟨hk,rfl⟩;by_cases I:k<w
  ·refine G.lT k w ?_;have F:k<A[i].length:=by rw[hr _ (A09 m)];exact I
   have Z:Tx A[i][k]:=hT _ (A09 m) _ (A09 F);obtain⟨b2,o2,rfl,e3⟩:=Ac.at' (Ac.mono e2 U) (j:=k) (e:=zS (Ae A[i][k])) (by simp[Cc,A01 F]);refine G.N A.length c m (W.mono U)<|G.N w c1 I e3<|G.c call27 (G8 Z) ?_;intro v5 u5 l5 k5;obtain⟨b5,a5,n5,c5,ah,ao,aj,rfl,_,af,ae⟩:=k5.opn;have hd:=C.den _ (A09 m) _ (A09 F);have a6:=Bdz C hK (A09 m) (A09 F);generalize A[i][k]=x at *
   obtain⟨aa,E⟩:=leL C hd;obtain⟨T,t⟩:=leL C P;have ab:=R.mono ((V.trans U).trans l5);refine G.c call147 (Q5 ab ae (nlL C t) (nlL C E) oV) ?_;rintro v6 u6 l6 ⟨x6,y6,rfl,k6,a0⟩;obtain⟨f6,rfl⟩:=k6.opB;obtain⟨a9,rfl⟩:=a0.opB;have e6:((q:Int)).tdiv (x.den:Int)=((q/x.den:Nat):Int):=by
    rw[A32 oV];rfl
   rw[e6]at k6;have X:q/x.den<=q:=A3u _ _;refine G.c call74 (Gg (af.mono l6) k6 (A04 a6.2 oV) (A04 (nlL C (A04 X t)) oV)) ?_;intro v7 u7 l7 k7;obtain⟨f7,rfl⟩:=k7.opB;have a2:=a6.1 q P T;refine G.c call206 (Q0 k7 (A04 (Bdf a2) oV)) ?_;rintro v8 u8 l8 rfl;have Y:Lib.nDigits (x.num*((q/x.den:Nat):Int)).natAbs<=K:=a2;generalize Lib.nDigits (x.num*((q/x.den:Nat):Int)).natAbs=D at *
   have ac:n*D<=n*K:=A2h _ Y;exact G.mul (n:Int) (D:Int) ((n*D:Nat):Int) kV (by rw[A4d]) oV oV<|G.gF (n*D:Nat) 600<|G.i k<|G.b (Q (k+1) _ _ _ cV ((((U.trans l5).trans l6).trans l7).trans l8) ⟨oV,rfl⟩ oV)
  exact G.lF k w<|G.i i<|G.b (hJ (i+1) _ _ _ cV (V.trans U) ⟨oV,rfl⟩ oV)
 exact G.lF i A.length<|G.gF n 600<|G.z zL
end
def Bds {u:PH}{v pv tv:Value}{T:List (List UInt8×Nat)}{R:List Br}{F:List Al}{lab:Int}{ss:List (List UInt8)}{P:List Par}(h:Mv u v tv T R F lab ss)(hP:Ac u pv 2 (P.map Ap))(hs:Hb Bk P)(a2:∀ x∈Dx F ss F.length,x.1∈P)(hl:P.length<=10000) :
 Fn0 prog 153 [v,pv,tv] u fun r u'=>∃ lv,r=.tuple #[lv,.int .i64 0]/\Ac u' lv 1 ((F5 P (Dx F ss F.length)).map nmV):=by
 have Z:=Bdp h;have a5:=Nb F ss F.length (A08 _);have ad:=Bdl F ss F.length;have ac:=h.ok.f2;obtain⟨⟨xa,xc,xb,xd,xe,xf,rfl,_⟩,_,hS,_⟩:=h;obtain⟨ya,yc,rfl⟩:=hS.opn;have W:=hs.nodup Et;obtain⟨pa,pc,rfl⟩:=hP.opn;rw[A03]at hP hS Z⊢;rw[A03];refine Fn0.o func153<|G.c call213 Z ?_;rintro v1 u1 l1 ⟨lv,rfl,hM⟩;generalize Dx F ss F.length=M at *
 obtain⟨a,c,rfl⟩:=hM.opn;rw[A03]at hM⊢;refine G.nF 0 0<|G.c call171 (Bd7 (hP.mono l1) hs oV) ?_;rintro v2 u2 l2 rfl;have a9:=l1.trans l2;refine G.buildM 34 1 16 (.string (mkS [])) [.string (mkS [49])] kV (Gc [[49]]) rfl oV mV mV ?_;intro g5 m5 U;have K:∀ i,(Value.string (mkS [49])::List.replicate i (Value.string (mkS [48]))).length=i+1:=fun i=>mV
 refine G.l (ι:=Nat×(Nat×Nat)) (fun i=>[(1,sV pa P.length pc),(8,sV a M.length c),(10,sV (some ⟨i.2.1,0,none⟩) (i.1+1) i.2.2),(28,iV P.length),(29,iV i.1)]) (fun _=>[])
  (fun i u' m'=>i.1<=P.length/\Af PH.mt m' (.slice (some ⟨i.2.1,0,none⟩) (i.1+1) i.2.2) 34 1 (.string (mkS [49])::List.replicate i.1 (.string (mkS [48])))) (fun i=>P.length-i.1) (0,g5,1) ⟨A1t _,U⟩ ?_
 clear U;rintro J2 ⟨i,g,Q⟩ I u6 m6 l6 ⟨hi,m⟩;simp only at hi m I;have aa:=a9.trans l6;by_cases J:i<P.length
 ·refine G.lT i P.length<|G.B 34 1 16 (.string (mkS [])) [.string (mkS [48])] (Gc [[48]]) ?_;intro g7 u7 l7 e7;refine G.append 34 1 16 (.string (mkS [])) PH.mt _ [.string (mkS [48])] (.slice (some ⟨g,0,none⟩) (i+1) Q) g7 0 1 1 kV rfl rfl oV m e7 (Gc [[48]]) rfl oV (by rw[K];omega) (by rw[K];omega) ?_;intro v8 m8 t;rw[Bdq]at t;obtain⟨g8,c8,rfl⟩:=t.ptr mV;rw[K]at t⊢;exact G.i i<|G.b (I (i+1,g8,c8) _ _ _ cV (l6.trans l7) ⟨dV,t⟩ dV)
 obtain rfl:i=P.length:=oV
 refine G.lF P.length P.length ?_;have a1:(F5 P []).map nmV=Value.string (mkS [49])::List.replicate P.length (Value.string (mkS [48])):=by
  rw[Ar9,A2u,A8z];rfl
 rw[<-a1]at m;clear I;refine G.l (ι:=Nat) (fun i=>[(1,sV pa P.length pc),(10,sV (some ⟨g,0,none⟩) (P.length+1) Q),(35,sV a M.length c),(36,iV M.length),(37,iV i)]) (fun _=>[])
  (fun i u' m'=>i<=M.length/\Af PH.mt m' (.slice (some ⟨g,0,none⟩) (P.length+1) Q) 34 1 ((F5 P (M.take i)).map nmV)) (fun i=>M.length-i) 0 ⟨A1t _,m⟩ ?_
 clear m;rintro J3 i a0 u9 m9 l9 ⟨hi,m⟩;have ab:=aa.trans l9;by_cases J:i<M.length
 ·refine G.lT i M.length ?_;obtain⟨x,C⟩:∃ x,M[i]?=some x:=⟨_,A01 J⟩;have a6:=A1k C;have a4:=Bd3 C;obtain⟨k,hk,a3⟩:=A2y (a2 x a6);have H:P[k]?=some x.1:=by rw[A01 hk,a3]
  have X:x.1∉(M.take i).map (·.1):=by
   intro hm;obtain⟨y,hy,a7⟩:=A1b.1 hm;obtain⟨j,hj,rfl⟩:=A2y hy;rw[A1e]at hj;have:=Yu a5 (i:=j) (j:=i) (x:=x.1) (by rw[A1a,A01 oV];simp only[A4c];rw[<-a7,A7w]) (by rw[A1a,C];rfl);omega
  have Y:=Amm (L:=M.take i) H W X;obtain⟨ba,oa,rfl,ea⟩:=Ac.at' (hM.mono (l2.trans (l6.trans l9))) (j:=i) (e:=Bt x) (by simp[C]);refine G.a ba oa M.length c i 3 J<|G.lU (some 3) ba (oa+i*3) (.agg #[.int .i64 x.1.1,.string (mkS x.1.2),.string (mkS (Ae x.2))]) ea<|G.c call214 (Bdo (p:=x.1) (hP.mono ab) H W oV) ?_;rintro ai ag a8 rfl;refine G.lF k 0<|G.i k<|G.a g 0 (P.length+1) Q (k+1) 1 oV<|G.storeA 1 PH.mt _ g (P.length+1) Q (k+1) (.string (mkS (Ae x.2))) kV m (by rw[A03,Ae2];omega) rfl rfl ?_;intro af E;rw[show Value.string (mkS (Ae x.2))=nmV (Ae x.2) from rfl,<-A2g,Y,<-a4]at E;exact G.i i<|G.b (a0 (i+1) _ _ _ cV (l9.trans a8) ⟨oV,E⟩ oV)
 obtain rfl:i=M.length:=oV
 refine G.lF M.length M.length ?_;rw[A15]at m;refine G.give PH.mt _ _ kV m (fun _=>.inl rfl) ?_;intro ah ae V;exact G.r (.tuple #[.slice (some ⟨g,0,none⟩) (P.length+1) Q,.int .i64 0]) ⟨rfl,_,rfl,V⟩
end Go.Proofs.YtemmheaocgmebaaGreatDoor
