/- Parts of one proof, joined by a program. -/
import Derived.Test.YtijchbjkdllolaaGreatDoorP12
set_option linter.defProp false
set_option linter.unusedVariables false
set_option linter.unusedSimpArgs false
set_option linter.unusedSectionVars false
set_option maxHeartbeats 16000000
namespace Go.Proofs.YtijchbjkdllolaaGreatDoor
open Go.Proofs.Tryz
open Go.RowKit Go.MapKept
def A8i:=@List.mem_of_mem_erase
def A03:=@List.erase_cons_head
def A3p:=@List.erase_cons_tail
def A87:=@Option.toList_some
section
variable {A:List (List Rat)}{X Y:List (List Int)}{b:List Rat}{k n:Nat}{m u:PH}
def Art {v:Value}(h:J9 u v (K6 A))(e:Sq A):Fn0 prog 135 [v] u fun g _=>g=.int .i64 0:=by
 obtain⟨a,c,rfl⟩:=h.opn;refine Fn0.o func135<|G.c call195 (Ash h e) ?_;rintro C t j rfl;exact G.eT' 0 0 rfl<|G.nF A.length A.length<|G.r (.int .i64 0) ⟨rfl,rfl⟩
structure Th (q:Rat):Prop where
 tx:Tx q
 den:q.den ∣ 4320
 num:q.num.natAbs<=1000000000000
def Aud (h:n<10000000000000000):Lib.nDigits n<=16:=D9 (k:=16) oV oV
def Aek (hT:∀ r∈A,∀ q∈r,Th q):Axj A 4320 16 where
 den:=fun r h q g=>(hT r h q g).den
 pos:=oV
 nl:=Ayv (nlM oV) oV
 dig:=fun D C h0=>by
  have e:D<=4320:=A3f oV C;refine⟨Aud oV,fun r h q g E=>Aud ?_⟩;rw[A15,Az6];have j:=(hT r h q g).num;have t:D/q.den<=4320:=Ayv (A16 _ _) e;have:=A1u j t;omega
def Aws (h:∀ q∈b,Th q):∀ r∈b.map (fun q=>[q]),∀ q∈r,Th q:=fun r g q e=>by
 obtain⟨x,j,rfl⟩:=Ayx.1 g;simp at e;subst e;exact h q j
def Ah6 :K6 (b.map fun q=>[q])=(b.map Ae).map fun t=>[t]:=by simp[K6]
def Asw {D D':Nat}(L:Sq A)(I:b.length=A.length)(hT:∀ r∈A,∀ q∈r,Th q)(g:∀ q∈b,Th q)(F:D ∣ 4320)(e:D' ∣ 4320):SzZ (J7 A b D D') 2:=fun i j=>by
 have key:∀ (q:Rat) (E:Nat),Th q->E ∣ 4320->nl (q.num*((E/q.den:Nat):Int)).natAbs<=2:=fun q E K H=>by
  refine nlM ?_;rw[A15,Az6];have C:E/q.den<=4320:=Ayv (A16 _ _) (A3f oV H);have:=A1u K.num C;omega
 have z:nl (0:Int).natAbs<=2:=Ayv (nl1 (n:=0) oV) oV;by_cases hi:i<A.length
 ·have t:(gM A i).length=A.length:=by rw[Jx hi];exact L.len hi
  unfold enZ;rw[Rx hi];by_cases J:j<A.length
  ·rw[Apr (by simp[Bn,t,J]),Adj oV];exact key _ D (hT _ (Ao1 hi) _ (Ab7 oV)) F
  by_cases h:j=A.length
  ·rw[Ah3 (by simp[Bn,t,h])];exact key _ D' (g _ (Ab7 oV)) e
  rw[Aai (by simp[Bn,t];omega)];exact z
 unfold enZ;have:gMZ (J7 A b D D') i = []:=by unfold gMZ;rw[Ays,Azo (by simp[J7];omega)];rfl
 rw[this];exact z
def Aou {n w E:Nat}:∀ (f c:Nat) (s:BZ),SzZ s.X (zs E c)->nl s.v.natAbs<=zs E c->Gs n w s.X->s.P.length<=n->SzZ (Iq n f c s).X (zs E (c+f))/\nl (Iq n f c s).v.natAbs<=zs E (c+f)
 |0,c,s,h1,h2,_,_=>⟨h1,h2⟩
 |f+1,c,s,h1,h2,h3,h4=>by
  obtain⟨e,g,h,j,_⟩:=Aik (c:=c) h1 h2 h3 h4;have t:zs E (c+1)=2*zs E c+2:=rfl;have:=Aou (E:=E) f (c+1) (Is n c s) (e.mono oV) (Ayv g oV) h j;unfold Iq;rw[show c+(f+1)=c+1+f by omega];exact this
def Axf (h:n<=12):zs 2 n<=1000000000:=Ayv (Aub 2 h) fV
def Atp {l:List Arr}(h:Bag m l):Bag m (Wz (.slice none 0 0) []::Wz (.slice none 0 0) []::l):=⟨m,Af.nil _ _ _,m,Af.nil _ _ _,h⟩
def Wq (Y X:List (List Int))(k:Nat):List (List Int):=Y.take k++X.drop k
def Aql (h:Y.length=X.length)(e:k<X.length):(Wq Y X k).set k (gMZ Y k)=Wq Y X (k+1):=by
 unfold Wq;rw[A2j _ _ gV];simp only[Ay1];rw[show k-min k Y.length=0 by omega,A3l e,A0p,Vk oV,Azm,Pq oV];rfl
def Asm (h:Y.length=X.length)(e:k<X.length):gMZ (Wq Y X k) k=gMZ X k:=by
 unfold Wq gMZ;rw[Ays,Azy gV,Ays];simp only[Ay1];rw[show k-min k Y.length=0 by omega,A2z];rfl
def Ane (h:Y.length=k)(e:X.length=k):Wq Y X k=Y:=by
 unfold Wq;rw[Ay6 oV,Az1 oV,Azl]
def Al9 {n c:Nat}{a:Option Addr}{e:List (Value×List Value)}(g:Bag m (oN (.slice a n c) e::e.map Dv))(h:NAt u e X)(j:PH.le m u):L0 u (.slice a n c) X:=Adz (Atp g) h j
def Aw7 {u:PH}{v bv:Value}{A:List (List Rat)}{b:List Rat}(ht:Js u)(h:J9 u v (K6 A))(hb:Dc u bv (b.map Ae))(hs:Sq A)(ae:b.length=A.length)(h0:0<A.length)(hT:∀ r∈A,∀ q∈r,Th q)(aw:∀ q∈b,Th q)
 (hk:∀ y:Nat->Rat,(∀ i,i<A.length->Ey A.length (fun j=>en A i j*y j)=0)->∀ j,j<A.length->y j=0) (c4:∀ y:Nat->Rat,Al4 A.length (V2 A b) y->∀ i,i<A.length->Tx (y i)) :
 Fn0 prog 68 [v,bv] u fun r u'=>∃ qs lv,r=.tuple #[lv,.int .i64 0]/\qs.length=A.length/\Al4 A.length (V2 A b) (gR qs)/\Dc u' lv (qs.map Ae):=by
 obtain⟨a0,c0,rfl⟩:=h.opn;rw[C9]at h⊢;obtain⟨a1,c1,rfl⟩:=Ac.opn hb;have di:(D6 (b.map Ae)).length=A.length:=by simp[D6,ae]
 rw[di]at hb⊢;have a2:=hs.le;have bm:∀ r∈A,∀ q∈r,Tx q:=fun r U q hq=>(hT r U q hq).tx;have Q:=Aek hT;have ap:=Aws aw;have R:=Aek ap;have bp:∀ r∈b.map (fun q=>[q]),r.length<=12:=fun r U=>by obtain⟨x,_,rfl⟩:=Ayx.1 U;simp
 have c3:∀ r∈A,r.length<=12:=fun r U=>by rw[hs.row r U];exact a2
 have dh:(b.map (fun q=>[q])).length=A.length:=by rw[Ayt,ae]
 refine Fn0.o func68<|G.c call135 (Art h hs) ?_;rintro v1 u1 l1 rfl;refine G.nF 0 0<|G.nF A.length A.length<|G.c call136 (Ac5 (Ac.mono hb l1) (fun q hq=>(aw q hq).tx) oV) ?_;rintro v2 u2 l2 rfl;have b3:=l1.trans l2;refine G.c call137 (Anr (N:=12) (K:=16) (ht.mono b3) (h.mono b3) bm a2 c3 oV oV oV Q.den Q.pos Q.nl Q.dig) ?_;rintro v3 u3 l3 rfl;have cl:=b3.trans l3;refine G.c call138 (Aid (Ac.mono hb cl) (by rw[Ayt];omega)) ?_;intro v4 u4 l4 k4;rw[<-Ah6]at k4;have cm:=cl.trans l4;refine G.c call137 (Anr (N:=12) (K:=16) (ht.mono cm) k4 (fun r U q hq=>(ap r U q hq).tx) oV bp oV oV oV R.den R.pos R.nl R.dig) ?_;rintro v5 u5 l5 rfl;have cn:=cm.trans l5;refine G.callO _ _ kV call139 (Aru (h.mono cn) bm oV (fun r U=>by have:=c3 r U;omega) Q.den Q.pos Q.nl) ?_;rintro v6 u6 m6 l6 ⟨D,fD,a6,c6,V,d8,bg,d9,rfl,da,au,T⟩ _;rw[Bw];have cp:=cn.trans l6;refine G.c call138 (Aid (Ac.mono hb cp) (by rw[Ayt];omega)) ?_;intro v7 u7 l7 k7;rw[<-Ah6]at k7;have ds:=cp.trans l7;refine G.c call139 (Ai4 k7 (fun r U q hq=>(ap r U q hq).tx) oV (fun r U=>by have:=bp r U;omega) R.den R.pos R.nl) ?_;rintro v8 u8 l8 ⟨D',be,ai,bh,eb,ea,b9,ec,ao,e8,aa,rfl,bi,bl⟩;have cq:=ds.trans l8;have al:Amv A b D D':=⟨d8,be,d9,fun q hq=>bh [q] (Ayx.2 ⟨q,hq,rfl⟩) q mV⟩;obtain⟨_,_,e0⟩:=LP.opn bl;rw[Ayt,dh]at e0;simp only[Value.slice.injEq]at e0;obtain⟨rfl,rfl,rfl⟩:=e0;have ee:Gs A.length A.length (A.map (Bn D)):=⟨mV,fun i hi=>by rw[Pq (by simpa using hi),A1f,Bn,Ayt];exact hs.len hi⟩;have av:=Aol (b:=b) (D:=D) (D':=D') hs;have W:V.length=A.length:=by rw[au.1];simp
 obtain⟨go,co,eo⟩:=T.ptr 0 rfl (by intro e;simp only[oN,A8s]at e;rw[e]at W;simp at W;omega);simp only[oN,Ayt,W,Value.slice.injEq,true_and]at eo;obtain⟨rfl,rfl⟩:=eo;refine G.l (ι:=Nat×List (Value×List Value)) (fun i=>[(0,sV a0 A.length c0),(7,.p 10005 0),(8,.p 10006 0),(44,iV A.length),(45,iV i.1)])
  (fun i=>[(10005,⟨209,[bV fD.b,sV fD.a fD.n fD.c,sV (some ⟨go,0,none⟩) A.length c6]⟩),(10006,⟨209,[bV eb,sV ea b9 ec,sV ao A.length aa]⟩)])
  (fun i u' m'=>i.1<=A.length/\NAt u' i.2 (Wq (J7 A b D D') (A.map (Bn D)) i.1)/\Bag m' (oN (.slice (some ⟨go,0,none⟩) A.length c6) i.2::i.2.map Dv)) (fun i=>A.length-i.1) (0,V)
  ⟨Azh _,(show NAt u8 V (Wq (J7 A b D D') (A.map (Bn D)) 0) by unfold Wq;simpa using au.mono (l7.trans l8)),T⟩ ?_
 clear T au W;rintro J ⟨i,C⟩ hJ u9 m9 l9 ⟨hi,hQ,I⟩;simp only at hi hQ I hJ;have cb:(J7 A b D D').length=(A.map (Bn D)).length:=by simp[J7]
 have e1:C.length=A.length:=by rw[hQ.1];unfold Wq;simp[J7];omega
 have ef:=cq.trans l9;by_cases F:i<A.length
 ·refine G.lT i A.length ?_;have a8:C[i]?=some C[i]:=Ayr oV;have a7:=hQ.2 i _ a8;rw[Asm cb (by simpa using F),Pq (by simpa using F),A1f]at a7;obtain⟨⟨vi,H⟩,he⟩:∃ x,C[i]=x:=⟨_,rfl⟩;rw[he]at a8 a7;simp only at a7;have Z:H.length=A.length:=by rw[a7.1,Bn,Ayt];exact hs.len F
  obtain⟨gi,ci,e⟩:=I.ptr (i+1) (x:=Dv (vi,H)) (by simp[a8]) (by intro e;simp only[Dv]at e;rw[e]at Z;simp at Z;omega);simp only[Dv]at e;rw[Z]at e;subst e;have dl:ElP m9 go (0+i*1) (.slice (some ⟨gi,0,none⟩) A.length ci):=I.el 0 (x:=oN (.slice (some ⟨go,0,none⟩) A.length c6) C) rfl rfl (by show (C.map (·.1))[i]?=_;rw[Ayy,a8];rfl);have bo:i<b.length:=oV
  have dd:L0 u9 (.slice ao A.length aa) ((b.map fun q=>[q]).map (Bn D')):=L0.mono bl l9;have dj:((b.map fun q=>[q]).map (Bn D'))[i]?=some [(gR b i).num*((D' / (gR b i).den:Nat):Int)]:=by
   rw[Ayy,Ayy,Ayr bo,M3 bo];rfl
  obtain⟨b5,cr,e4,rfl,d5,ba⟩:=LP.at dd dj;obtain⟨e2,cx,rfl⟩:=LP.opn ba;obtain⟨b6,cs,e5,rfl,d6,ab⟩:=LP.at ba (j:=0) (x:=(gR b i).num*((D' / (gR b i).den:Nat):Int)) rfl;obtain⟨t,rfl⟩:=ab.opN;refine G.a go 0 A.length c6 i 1 F<|G.lM none go (0+i*1) _ dl<|G.a b5 cr A.length aa i 1 F<|G.lU none b5 (cr+i*1) _ d5<|G.a b6 cs 1 cx 0 2 oV<|G.lU (some 2) b6 (cs+0*2) (nv t) d6<|G.B 116 2 32 (.agg #[.bool false,.slice none 0 0]) [nv t] (ab.ok) ?_;intro d3 dx a9 d0;obtain⟨m0,c8,bx⟩:=I.focus (i+1) (x:=Dv (.slice (some ⟨gi,0,none⟩) A.length ci,H)) (by simp[a8]);rw[Ajc]at c8;refine G.append 116 2 32 (.agg #[.bool false,.slice none 0 0]) m0 H [nv t] (.slice (some ⟨gi,0,none⟩) A.length ci) d3 0 1 1 kV rfl rfl oV c8 d0 (ab.ok) rfl oV oV oV ?_;intro dz du ah;have bn:=bx (Dv (dz,H++[nv t])) du ah;obtain⟨m1,c9,ax⟩:=bn.focus 0 rfl;rw[Ael]at c9;obtain⟨L,O,rfl⟩:=ah.shape;refine G.a go 0 A.length c6 i 1 F<|G.storeA 1 m1 _ go A.length c6 i (.slice L (H++[nv t]).length O) kV c9 gV rfl rfl ?_;intro dv ca;have aj:=ax (oN (.slice (some ⟨go,0,none⟩) A.length c6) (C.set i (.slice L (H++[nv t]).length O,H++[nv t]))) dv (by rw[Ael,A1d];exact ca);rw[show ((oN (.slice (some ⟨go,0,none⟩) A.length c6) C::C.map Dv).set (i+1) (Dv (.slice L (H++[nv t]).length O,H++[nv t]))).set 0 (oN (.slice (some ⟨go,0,none⟩) A.length c6) (C.set i (.slice L (H++[nv t]).length O,H++[nv t]))) =
   oN (.slice (some ⟨go,0,none⟩) A.length c6) (C.set i (.slice L (H++[nv t]).length O,H++[nv t]))::(C.set i (.slice L (H++[nv t]).length O,H++[nv t])).map Dv by rw[A0i,A0p,A1d]]at aj
  refine G.i i<|G.b (hJ (i+1,C.set i (.slice L (H++[nv t]).length O,H++[nv t])) _ _ _ cV (l9.trans a9) ⟨dV,?_,aj⟩ dV);dsimp only;rw[<-Aql cb (by simpa using F),Rx F];have dk:gM A i=A[i]:=Jx F;rw[dk];exact (hQ.mono a9).set oV ((a7.mono fun _ _ k=>k.mono a9).snoc (ab.mono a9))
 obtain rfl:i=A.length:=oV
 refine G.lF A.length A.length ?_;clear hJ;rw[Ane (by simp[J7]) mV]at hQ;refine G.giveP (ma:=m9) (sm:=PH.mt) kV (by funext g;unfold PH.or;cases m9 g<;>rfl) (fun g=>.inr rfl) (fun g=>.inl rfl) ?_
 intro ej af bq;have bk:=Al9 I (hQ.mono af) bq;have c5:=Asw (D:=D) (D':=D') hs ae hT aw bg ai;refine G.c call140 (Atg bk av oV oV h0 oV c5 oV (Axf a2)) ?_;rintro eu ek b0 ⟨b4,an,pa,pc,fv,rfl,hS,hV⟩;obtain⟨dc,ad,c7,df⟩:=(Aft av).resolve_right fun h=>Axn hs al hk h.1;obtain⟨cd,ay⟩:=Aou (n:=A.length) (w:=A.length+1) (E:=2) A.length 0 ⟨J7 A b D D',[],1,false⟩ c5 (Ayv (nl1 (n:=1) oV) (by show 1<=2;omega)) av (Azh _);rw[A0h]at cd ay;clear a2;have a2:=hs.le;generalize Iq A.length A.length 0 ⟨J7 A b D D',[],1,false⟩=s at *
 refine G.lF' s.P.length A.length (by rw[dc];omega) ?_;have c2:=Atb hs ae al c7 df;have bz:(qsZ A.length s.X s.v D D').length=A.length:=by simp[qsZ]
 have am:=Axf a2;have bu:nl (D:Int).natAbs<=2:=nlM (by have:=A3f oV bg;omega);have ak:nl (D':Int).natAbs<=2:=nlM (by have:=A3f oV ai;omega);have ar:=(((da.mono l7).mono l8).mono l9).mono (af.trans b0);have ac:=(bi.mono l9).mono (af.trans b0);refine G.l (ι:=Nat×List Value×(Option Addr×Nat)) (fun i=>[(0,sV a0 A.length c0),(7,.p 10005 0),(8,.p 10006 0),(10,.p 16005 0),(11,sV i.2.2.1 i.1 i.2.2.2),(79,sV b4 A.length an),(80,iV A.length),(81,iV i.1)])
  (fun i=>[(10005,⟨209,[bV fD.b,sV fD.a fD.n fD.c,sV (some ⟨go,0,none⟩) A.length c6]⟩),(10006,⟨209,[bV eb,sV ea b9 ec,sV ao A.length aa]⟩),
   (16005,⟨213,[.v (.slice b4 A.length an),.v (.slice pa s.P.length pc),.v (.bool fv.b),.v (.slice fv.a fv.n fv.c),.v (.bool s.odd)]⟩)])
  (fun i u' m'=>i.1<=A.length/\AtP Ax u' i.2.1 ((qsZ A.length s.X s.v D D').take i.1)/\Af PH.mt m' (.slice i.2.2.1 i.1 i.2.2.2) 118 4 i.2.1) (fun i=>A.length-i.1) (0,[],(none,0))
  ⟨Azh _,AtP.nil,Af.nil _ _ _⟩ ?_
 rintro J ⟨i,es,⟨oa,oc⟩⟩ hJ em eg a3 ⟨hi,hF,a4⟩;simp only at hi hF a4 hJ;have Z:=hF.1;rw[Ay1]at Z;by_cases F:i<A.length
 ·refine G.lT i A.length ?_;have dp:i<s.X.length:=by rw[ad.1];exact F
  have dr:s.X[i]?=some s.X[i]:=Ayr dp;have dq:s.X[i].length=A.length+1:=by have:=ad.2 i F;rwa[Pq (by rw[ad.1];exact F)]at this
  obtain⟨b7,ct,e6,rfl,bd,t⟩:=LP.at (L0.mono hS a3) dr;obtain⟨e3,cy,rfl⟩:=LP.opn t;rw[dq]at t bd;obtain⟨b8,cu,e7,rfl,d7,bb⟩:=LP.at t (j:=A.length) (x:=enZ s.X i A.length) (by
   unfold enZ;rw[Pq (by rw[ad.1];exact F),Z7 oV];exact Ayr oV)
  obtain⟨d2,rfl⟩:=bb.opN;refine G.a b7 ct A.length an i 1 F<|G.lU none b7 (ct+i*1) _ bd<|G.a b8 cu (A.length+1) cy A.length 2 oV<|G.lU (some 2) b8 (cu+A.length*2) (nv d2) d7 ?_;have cc:=cd i A.length;have bf:=ar.mono a3;have aq:=ac.mono a3;refine G.c call117 (Fq bb bf (Ayv cc oV) (Ayv bu oV)) ?_;intro ex ep ag cg;obtain⟨e9,rfl⟩:=cg.opN;refine G.c call117 (Fq ((hV.mono a3).mono ag) (aq.mono ag) (Ayv ay oV) (Ayv ak oV)) ?_;intro ey er b1 ch;obtain⟨ed,rfl⟩:=ch.opN;have br:nl (enZ s.X i A.length*(D:Int)).natAbs<=2*1000000000:=B5 (Ayv cc am) (Ayv bu oV);have bt:nl (s.v*(D':Int)).natAbs<=2*1000000000:=B5 (Ayv ay am) (Ayv ak oV);have ce:s.v*(D':Int)≠0:=A9x c7 oV;refine G.c call116 (Xl (cg.mono b1) ch (Ayv br oV) (Ayv bt oV) ce) ?_;intro cv dy ck az;have bw:Ba 4 [cv]:=(AtP.nil.snoc az:AtP Ax dy [cv] [_]).ok4;obtain⟨x1,x2,x3,x4,x5,x6,x7,x8,rfl⟩:=az.opn;refine G.B 118 4 64 (.agg #[.bool false,.slice none 0 0,.bool false,.slice none 0 0]) [.agg #[.bool x1,.slice x2 x3 x4,.bool x5,.slice x6 x7 x8]] bw ?_;intro d4 et b2 d1;refine G.append 118 4 64 (.agg #[.bool false,.slice none 0 0,.bool false,.slice none 0 0]) PH.mt es [.agg #[.bool x1,.slice x2 x3 x4,.bool x5,.slice x6 x7 x8]] (.slice oa i oc) d4 0 1 1 kV rfl rfl oV a4 d1 bw rfl oV oV oV ?_;intro ez eh a5;obtain⟨cw,cz,rfl⟩:=a5.shape;have el:(es++[Value.agg #[.bool x1,.slice x2 x3 x4,.bool x5,.slice x6 x7 x8]]).length=i+1:=by rw[Ay3,Z,bz];simp;omega
  rw[el]at a5⊢;refine G.i i<|G.b (hJ (i+1,es++[Value.agg #[.bool x1,.slice x2 x3 x4,.bool x5,.slice x6 x7 x8]],(cw,cz)) _ _ _ cV ((((a3.trans ag).trans b1).trans ck).trans b2) ⟨dV,?_,a5⟩ dV);dsimp only;have dm:(qsZ A.length s.X s.v D D')[i]?=some (Rat.divInt (enZ s.X i A.length*(D:Int)) (s.v*(D':Int))):=by
   rw[<-Ap0 F,M3 oV];exact Ayr oV
  rw[Aze,dm];exact (hF.mono fun _ _ k=>k.mono (((ag.trans b1).trans ck).trans b2)).snoc (az.mono b2)
 obtain rfl:i=A.length:=oV
 refine G.lF A.length A.length ?_;rw[Ay6 oV]at hF;refine G.give PH.mt es _ kV a4 (fun _=>.inl rfl) ?_;intro dw cj bj;have db:It dw (.slice oa A.length oc) (qsZ A.length s.X s.v D D'):=⟨es,bj,hF.mono fun _ _ k=>k.mono cj⟩;have dg:∀ q∈qsZ A.length s.X s.v D D',Tx q:=fun q hq=>by
  obtain⟨j,hj,rfl⟩:=A01.1 hq;rw[<-M3 hj];exact c4 _ c2 j oV
 refine G.c call76 (Vh (((ht.mono cq).mono l9).mono (((af.trans b0).trans a3).trans cj)) db dg oV) ?_;rintro ew dx a9 ⟨r,rfl,U⟩;exact G.r (.tuple #[r,.int .i64 0]) ⟨rfl,_,r,rfl,bz,c2,U⟩
end
section
variable [Cc] [Cm]
section
variable {P:Program} {id:Nat} {ops:Array Oper} {dr:Bool} {Fin:S->PH->PH->Prop} {c:Cx} {Q:Exit->Act->World->Prop}
def O7 (P:Program)(id:Nat)(ops:Array Oper)(post:List Nat)(Fin:S->PH->PH->Prop):Nat->List Nat->S->PH->PH->Prop
 |0,_,s,u,m=>Ob P id ops true Fin post s u m
 |n+1,A,s,u,m=>∀ a∈A,(∀ b∈A,b≠a->bef ops ops.size a b=false)->Ob P id ops true (O7 P id ops post Fin n (A.erase a)) [a] s u m
def Ob.wpAnyT {s0:S}(U:M6 s0)(hE:(List.range ops.size).all (Hs ops)=true)(hF:∀ s u m ρ a w,Fin s u m->Rel c s u m ρ a w->Q .normal a w){j A0:List Nat}(a0:∀ y∈j,∀ a∈A0,bef ops ops.size y a=true)(a4:∀ a∈A0,∀ y∈j,dir ops a y=false) :
 ∀ (n k:Nat) (A H:List Nat) (F:Array Bool) {s:S} {u m:PH} {ρ:Nat->Nat} {a:Act} {w:World},A.length=k->(∀ x∈A,x∈A0)->A.Pairwise (fun x y=>dir ops x y=false)->H.length+(k+j.length)=n->H9 ops F (H++(A++j)) ->
  (H++j).Pairwise (fun x y=>Ed ops s0 x y=true)->(∀ x∈H,∀ y∈A,Ed ops s0 x y=true)->Fi ops s0 s->Ob P id ops true (O7 P id ops j Fin k A) H s u m->Rel c s u m ρ a w->Go.wpAny P .any ops Q n F a w:=by
 intro n;induction n with
 |zero =>
  intro k A H F s u m ρ a w hk L R W g V N J hO hr;obtain rfl:k=0:=oV;obtain rfl:=A0a hk;exact g.any U hE hF (by simp only[Ay3,A1t];omega) V J (Ob.append hO) hr
 |succ n ih =>
  intro k A H F s u m ρ a w hk L R W g V N J hO hr;cases A with
  |nil =>
   simp at hk;subst hk;exact g.any U hE hF gV V J (Ob.append hO) hr
  |cons b A' =>
   obtain⟨k,rfl⟩:∃ k',k=k'+1:=⟨k-1,by simp at hk;omega⟩;refine⟨fun X=>?_,fun i hi=>?_⟩
   ·exfalso;cases H with
    |nil =>
     have:=H9.first (t:=b) (T:=A'++j) g hE fun x C=>by
      rcases Ay5.1 C with C|C
      ·exact A0m R C
      exact a4 b (L b mV) x C
     rw[X]at this;cases this
    |cons t T' =>
     have:=H9.first (t:=t) (T:=T'++(b::A'++j)) g hE fun x C=>by
      rcases Ay5.1 C with C|C
      ·exact Bbc (A0m V (by simp[C]))
      rcases Ay5.1 C with C|C
      ·exact Bbc (N t mV x C)
      exact Bbc (A0m V (by simp[C]))
     rw[X]at this;cases this
   obtain⟨h1,h2,o,ho,I⟩:=Oj.1 hi;have K:=(g.mem i h1).1 h2;rcases Ay5.1 K with K|K
   ·obtain⟨A1,B1,rfl⟩:=A3i K;have E:H9 ops F (A1++i::(B1++(b::A'++j))):=by
     rw[Azm]at g;exact g
    have a2:(A1++i::(B1++j)).Pairwise (fun x y=>Ed ops s0 x y=true):=by
     rw[Azm]at V;exact V
    have a1:=E.swaps (A:=A1) (s0:=s0) (fun x C=>by simp[C]) ho I fun x C=>(A1e.1 a2).2.2 x C i mV;have Y:=Ob.bubble U A1 a1 hr.lv J hO;refine wpOp_mono (fun a' w' ⟨s',u',m',ρ',r1,ra,r2⟩=>?_) (Y.step (Q:=Q) hr);refine ih (k+1) (b::A') (A1++B1) _ hk L R (by simp at W⊢;omega) (by rw[Azm];exact E.next ho I) ?_ (fun x C y hy=>N x (by simp at C⊢;rcases C with h|h<;>simp[h]) y hy) (J.trans ra) r2 r1
    rw[Azm];exact a2.sublist (A2h (A2p i _) A1)
   rcases Ay5.1 K with K|K
   ·have a5:(H++(b::A'++j)).Perm (H++i::((b::A').erase i++j)):=by
     refine List.Perm.append_left H ?_;rw[<-A11];exact (List.perm_cons_erase K).append_right j
    have E:=g.perm a5;have a1:=E.swaps (A:=H) (s0:=s0) (fun x C=>by simp[C]) ho I fun x C=>N x C i K;have Z:∀ b'∈b::A',b'≠i->bef ops ops.size i b'=false:=fun b' a3 a6=>by
     cases e:bef ops ops.size i b' with
     |false=>rfl
     |true=>exact (g.no (x:=b') (by simp at a3⊢;rcases a3 with h|h<;>simp[h]) (Fd g.cl ops.size i (fun o' O=>by rw[ho]at O;obtain rfl:=A0j O;exact I) e)).elim
    have Y:=Ob.bubble (B:=[]) U H a1 hr.lv J (Ob.append (l2:=[i]) (hO.fin fun s u m h=>h i K Z));refine wpOp_mono (fun a' w' ⟨s',u',m',ρ',r1,ra,r2⟩=>?_) (Y.step (Q:=Q) hr);rw[Azl]at r2;exact ih k ((b::A').erase i) H _ (by rw[List.length_erase_of_mem K];simp at hk⊢;omega) (fun x C=>L x (A8i C)) (R.sublist List.erase_sublist) oV (E.next ho I) V (fun x C y hy=>N x C y (A8i hy)) (J.trans ra) r2 r1
   exfalso;exact g.no (x:=b) mV (Fd g.cl ops.size i (fun o' O=>by rw[ho]at O;obtain rfl:=A0j O;exact I) (a0 i K b (L b mV)))
def Aji (ops:Array Oper):List Nat->Bool
 |[]=>true
 |x::l=>l.all (fun y=>!dir ops x y)&&Aji ops l
def Xv:∀ {l:List Nat},Aji ops l=true->l.Pairwise (fun x y=>dir ops x y=false)
 |[],_=>.nil
 |x::l,h=>by
  unfold Aji at h;rw[Azb,Azg]at h;exact .cons (fun y e=>by simpa using h.1 y e) (Xv h.2)
def Ai9 (ops:Array Oper)(s:S)(pre A post:List Nat):Bool :=
 Nat.beq (pre.length+(A.length+post.length)) ops.size&&(List.range ops.size).all (fun i=>(pre++(A++post)).contains i)&&(pre++(A++post)).all (fun i=>Nat.blt i ops.size)&&decide ((pre++(A++post)).Nodup)&&Mw ops s (pre++post) &&
  pre.all (fun x=>A.all fun y=>Ed ops s x y)&&Aji ops A&&(List.range ops.size).all (Hs ops)&&post.all (fun y=>A.all fun a=>bef ops ops.size y a)&&A.all (fun a=>post.all fun y=>!dir ops a y)
end
section
variable {P:Program} {fn:Func} {Post:By}
def Sym.reg_tree (W:P.follows .mixedOrders=true){id:Nat}{ops:Array Oper}{g A e:List Nat}{s:S}(F:Ai9 ops s g A e=true){k:List KI}{u m:PH}
 (h:Ob P id ops true (O7 P id ops e (Fw P fn Post k) A.length A) g s u m):Fw P fn Post (.code (.region id ops true)::k) s u m:=by
 intro c ρ a w J t;simp only[Fy,Exit.then];unfold Ai9 at F;simp only[Azb]at F;obtain⟨⟨⟨⟨⟨⟨⟨⟨⟨C,K⟩,L⟩,E⟩,R⟩,N⟩,T⟩,U⟩,O⟩,j⟩:=F;have C:=Azp C;rw[Azg]at K L N O j;have E:=of_decide_eq_true E;refine wp_region_any W ?_;refine Ob.wpAnyT (c:=c) (A0:=A) t.lv U (fun s u m ρ a w V t=>V c ρ a w J t) (fun y n a H=>by have:=O y n;rw[Azg]at this;exact this a H) (fun a H y n=>by have:=j a H;rw[Azg]at this;simpa using this y n) _ A.length A g _ rfl (fun _ h=>h) (Xv T) C
  ⟨mV,fun i hi=>?_,fun i hi=>A5t▸L i hi,E,fun i hi=>?_⟩ (Ef R) (fun x X y n=>by have:=N x X;rw[Azg]at this;exact this y n) (Fi.refl _ _) h t.drew
 ·have:=K i (by simpa using hi);rw[A6l]at this;simp only[Azn,A5r,hi,if_true,A07];exact⟨fun _=>this,fun _=>trivial⟩
 exfalso;simp only[Azn]at hi;by_cases I:i<ops.size
 ·simp[I]at hi
 rw[A1w gV]at hi;simp at hi
def S.put4 (s:S)(d1 d2 d3 d4:Nat)(x1 x2 x3 x4:SV):S:=(((s.put (some d1) x1).put (some d2) x2).put (some d3) x3).put (some d4) x4
def I2 (s:S)(d1 d2 d3 d4:Nat)(x1 x2 x3 x4:SV)(t:Nat):(s.put4 d1 d2 d3 d4 x1 x2 x3 x4).tm t=if t=d4 then x4 else if t=d3 then x3 else if t=d2 then x2 else if t=d1 then x1 else s.tm t:=by
 unfold S.put4;have key:∀ (s:S) (d:Nat) (x:SV),(s.put (some d) x).tm t=if t=d then x else s.tm t:=fun s d x=>by
  by_cases e:t=d
  ·subst e;rw[A4,if_pos rfl]
  rw[Ck _ _ _ e,if_neg e]
 rw[key,key,key,key]
def Akh (s:S)(d1 d2 d3 d4:Nat):s=s.put4 d1 d2 d3 d4 (s.tm d1) (s.tm d2) (s.tm d3) (s.tm d4):=by
 refine S.ext' rfl (funext fun t=>?_) rfl;rw[I2];split
 ·rename_i e;rw[e]
 split
 ·rename_i e;rw[e]
 split
 ·rename_i e;rw[e]
 split
 ·rename_i e;rw[e]
 rfl
section
variable {s:S} {d1 d2 d3 d4:Nat} {x1 x2 x3 x4 y:SV} (h:d1≠d2/\d1≠d3/\d1≠d4/\d2≠d3/\d2≠d4/\d3≠d4)
include h
def Avo:(s.put4 d1 d2 d3 d4 x1 x2 x3 x4).put (some d1) y=s.put4 d1 d2 d3 d4 y x2 x3 x4:=by
 refine S.ext' rfl (funext fun t=>?_) rfl;rw[I2];by_cases e:t=d1
 ·subst e;rw[A4,if_neg h.2.2.1,if_neg h.2.1,if_neg h.1,if_pos rfl]
 rw[Ck _ _ _ e,I2,if_neg e,if_neg e]
def Aul:(s.put4 d1 d2 d3 d4 x1 x2 x3 x4).put (some d2) y=s.put4 d1 d2 d3 d4 x1 y x3 x4:=by
 refine S.ext' rfl (funext fun t=>?_) rfl;rw[I2];by_cases e:t=d2
 ·subst e;rw[A4,if_neg h.2.2.2.2.1,if_neg h.2.2.2.1,if_pos rfl]
 rw[Ck _ _ _ e,I2,if_neg e,if_neg e]
def Aus:(s.put4 d1 d2 d3 d4 x1 x2 x3 x4).put (some d3) y=s.put4 d1 d2 d3 d4 x1 x2 y x4:=by
 refine S.ext' rfl (funext fun t=>?_) rfl;rw[I2];by_cases e:t=d3
 ·subst e;rw[A4,if_neg h.2.2.2.2.2,if_pos rfl]
 rw[Ck _ _ _ e,I2,if_neg e,if_neg e]
def Aw3:(s.put4 d1 d2 d3 d4 x1 x2 x3 x4).put (some d4) y=s.put4 d1 d2 d3 d4 x1 x2 x3 y:=by
 refine S.ext' rfl (funext fun t=>?_) rfl;rw[I2];by_cases e:t=d4
 ·subst e;rw[A4,if_pos rfl]
 rw[Ck _ _ _ e,I2,if_neg e,if_neg e]
end
def Ob.layM {P:Program}[A5 P]{id:Nat}{ops:Array Oper}{Fin:S->PH->PH->Prop}{a d:Nat}{kk:List KI}{s:S}{u m:PH}(e:TypeId)(sz bt:Nat)(z:Value)(es:List Value)
 (h:Aj P (.reg id ops true [a]::kk,s)=.buildS (some (e,sz,bt,z)) es.length (es.zipIdx.map fun p=>(p.2,p.1))) (hd:(ops[a]?).bind (·.dst)=some d) (I:Ba sz es) (a6:z.cells.size=sz) (Y:0<sz) (W:0<es.length) (hb:es.length*sz<=16777216)
 (k:∀ g C,Af m C (.slice (some ⟨g,0,none⟩) es.length es.length) e sz es->Fin (s.put (some d) (.v (.slice (some ⟨g,0,none⟩) es.length es.length))) u C):Ob P id ops true Fin [a] s u m:=by
 obtain⟨a7,a0,a2,i',l',a8,aa,o,E,H,hg,O,hv,hs,n,a5⟩:=Eg h mV;simp only[Az0,A0f,KI.reg.injEq]at E;obtain⟨⟨⟨rfl,rfl,rfl,rfl,rfl⟩,rfl⟩,rfl⟩:=E;have F:o.dst=some d:=by rw[H]at hd;simpa using hd
 refine Ob.big (K:=fun v' Z C=>Z=u/\PH.le m C/\∃ g,v'=.slice (some ⟨g,0,none⟩) es.length es.length/\Af m C (.slice (some ⟨g,0,none⟩) es.length es.length) e sz es) H hg O hv hs (by
  obtain⟨t,qs,J,_⟩:=Ee n;rw[J];rfl) (fun v Z C N=>.inl N.2.1) (fun w T=>?_) (fun v Z C a4 N=>?_)
 ·obtain⟨t,qs,E,J,hi⟩:=Ee n;obtain⟨a3,a9,a1,pos,after,L⟩:=o;simp only at E;subst E;obtain⟨hu,i,U,V,rfl,rfl⟩:=Dx hi;obtain⟨g1,g2,g3,g4⟩:=T.newM (cs:=(A6 es).toArray) (t:=e) (by simpa using Fp I);have R:=Bb I;have X:es.length*i.size≠0:=by have:=A24 W Y;omega
  have j:=Nk es 0 ((Array.range (es.length*i.size)).map (z.cells[· % z.cells.size]!)) I mV;have e0:((Array.range (es.length*i.size)).map (z.cells[· % z.cells.size]!)).toList.drop (es.length*i.size) = []:=by
   apply A3w;simp
  simp only[A22,A14,A00,A0h,e0,Azl]at j;refine B0 (w':=w.alloc (.cells (A6 es).toArray e (0,0))) (v:=.slice (some ⟨w.heap.size,0,none⟩) es.length es.length) ?_ ⟨u,_,g1,g2,rfl,Kx _ g3,_,rfl,I,.inr ⟨w.heap.size,es.length,[],g3,by rw[Azl],rfl,Ay2 _,by rw[Azl,R],mV⟩⟩;simp only[execOp,J];simp[Instr.buildSlice,run_underlying hu,sizeOf,typeInfo,zeroValue,U,V,X,j,newRow,show ¬ 16777216<es.length*i.size by omega]
 obtain⟨rfl,_,g,rfl,hA⟩:=N;rw[F];exact .nil (k g C hA)
def Ob.callV {P:Program}[A5 P]{id:Nat}{ops:Array Oper}{Fin:S->PH->PH->Prop}{a d:Nat}{kk:List KI}{s:S}{u m:PH}(f:Nat)(args:List Value){R:Value->PH->Prop}
 (h:Aj P (.reg id ops true [a]::kk,s)=.call f args) (L:(ops[a]?).bind (·.dst)=some d) (X:∀ args w,(callFunc f args).run P w=.ok (.enter f args) w) (c:Fn0 P f args u R)
 (k:∀ v j,PH.le u j->R v j->Fin (s.put (some d) (.v v)) j m):Ob P id ops true Fin [a] s u m:=by
 obtain⟨a1,N,O,i',l',a2,a3,o,E,C,Z,I,hv,hs,g,a0⟩:=Eg h mV;simp only[Az0,A0f,KI.reg.injEq]at E;obtain⟨⟨⟨rfl,rfl,rfl,rfl,rfl⟩,rfl⟩,rfl⟩:=E;have n:o.dst=some d:=by rw[C]at L;simpa using L
 refine Ob.big (K:=fun v' j F=>F=m/\R v' j) C Z I hv hs (Dd _ _ g) (fun v j F H=>.inl (by rw[H.1];exact PH.le_refl _)) (fun w t=>?_) (fun v j F J H=>?_)
 ·refine He g X w _ ?_;refine (c w t.noM).mono fun e w' Y=>?_;obtain⟨v,j,F,E,T,U,rfl,V⟩:=Y;obtain⟨g1,g2⟩:=t.frame T U;exact⟨v,E,j,m,g1,g2,rfl,V⟩
 obtain⟨rfl,W⟩:=H;rw[n];exact .nil (k v j J W)
end
def Agv (P:Program)(pre l:List Nat)(d1 d2 d3 d4:Nat)(x1 x2 x3 x4:SV)(st:List KI×S):List KI×S:=match st with
 |(.code (.region id ops true)::k,s)=>match Pd P id ops pre s with
  |some s'=>(.reg id ops true l::k,s'.put4 d1 d2 d3 d4 x1 x2 x3 x4)
  |none=>st
 |_=>st
def Axs (P:Program)(pre:List Nat)(q1 q2 r1 r2:Nat)(post:List Nat)(d1 d2 d3 d4:Nat)(st:List KI×S):Bool:=match st with
 |(.code (.region _ ops true)::_,s)=>Ai9 ops s pre [q1,q2,r1,r2] post&&(match st.1 with|.code (.region id ops _)::_=>(Pd P id ops pre s).isSome|_=>false)&&bef ops ops.size q2 q1&&bef ops ops.size r2 r1 &&
  decide ((ops[q1]?).bind (·.dst)=some d1/\(ops[q2]?).bind (·.dst)=some d2/\(ops[r1]?).bind (·.dst)=some d3/\(ops[r2]?).bind (·.dst)=some d4)&&decide (d1≠d2/\d1≠d3/\d1≠d4/\d2≠d3/\d2≠d4/\d3≠d4)&&decide ([q1,q2,r1,r2].Nodup)
 |_=>false
structure Lay where
 e:TypeId
 sz:Nat
 bt:Nat
 z:Value
 es:List Value
structure Anx (L:Lay):Prop where
 ho:Ba L.sz L.es
 hzs:L.z.cells.size=L.sz
 hsz:0<L.sz
 hn0:0<L.es.length
 hb:L.es.length*L.sz<=16777216
def Lay.stop (L:Lay):T9:=.buildS (some (L.e,L.sz,L.bt,L.z)) L.es.length (L.es.zipIdx.map fun p=>(p.2,p.1))
def Lay.v (L:Lay)(g:Nat):Value:=.slice (some ⟨g,0,none⟩) L.es.length L.es.length
def Lay.arr (L:Lay)(g:Nat):Arr:=⟨L.v g,L.e,L.sz,L.es⟩
section rules
variable {P:Program} [A5 P] {fn:Func} {Post:By} {st:List KI×S} {u m:PH}
def G.fan (T:List Nat)(q1 q2 r1 r2:Nat)(t:List Nat)(d1 d2 d3 d4:Nat)(C:Lay)(N:Nat->Lay)(L:Lay)(V:Value)(f:Nat)(args:List Value)(h:Axs P T q1 q2 r1 r2 t d1 d2 d3 d4 (adv P st)=true)
 (H1:∀ x1 x2 x3 x4,Aj P (Agv P T [q1] d1 d2 d3 d4 x1 x2 x3 x4 (adv P st))=C.stop) (o1:Anx C)
 (H2:∀ g x2 x3 x4,Aj P (Agv P T [q2] d1 d2 d3 d4 (.v (C.v g)) x2 x3 x4 (adv P st))=(N g).stop) (o2:∀ g,Anx (N g))
 (H3:∀ x1 x2 x3 x4,Aj P (Agv P T [r1] d1 d2 d3 d4 x1 x2 x3 x4 (adv P st))=.call f args) (hc:∀ args w,(callFunc f args).run P w=.ok (.enter f args) w) (c:∀ n,PH.le u n->Fn0 P f args n fun v _=>v=V)
 (H4:∀ x1 x2 x4,Aj P (Agv P T [r2] d1 d2 d3 d4 x1 x2 (.v V) x4 (adv P st))=L.stop) (o4:Anx L)
 (k:∀ g1 g2 O n j,PH.le u n->Bag j [L.arr O,(N g1).arr g2,C.arr g1]->G P fn Post (Agv P T t d1 d2 d3 d4 (.v (C.v g1)) (.v ((N g1).v g2)) (.v V) (.v (L.v O)) (adv P st)) n j):G P fn Post st u m:=by
 refine G.stp ⟨?_⟩;generalize adv P st=st' at h H1 H2 H3 H4 k;unfold Axs at h;split at h
 ·rename_i id ops kk s;simp only[Azb]at h;obtain⟨⟨⟨⟨⟨⟨h1,h2⟩,hq⟩,hr⟩,hd⟩,U⟩,a1⟩:=h;obtain⟨I,a8⟩:=A3m.1 h2;obtain⟨e1,e2,e3,e4⟩:=of_decide_eq_true hd;have U:=of_decide_eq_true U;have a1:=of_decide_eq_true a1;simp only[A1i,Ay7,A0b,or_false,not_or,not_false_eq_true,List.nodup_nil,and_true]at a1;obtain⟨⟨a4,ag,ah⟩,⟨a9,aa⟩,a5⟩:=a1;have e0:∀ l x1 x2 x3 x4,Agv P T l d1 d2 d3 d4 x1 x2 x3 x4 (.code (.region id ops true)::kk,s)=(.reg id ops true l::kk,I.put4 d1 d2 d3 d4 x1 x2 x3 x4):=fun l x1 x2 x3 x4=>by unfold Agv;simp only[a8]
  simp only[e0]at H1 H2 H3 H4 k;refine Sym.reg_tree A5.mx h1 (Ob.autos a8 ?_);rw[Akh I d1 d2 d3 d4];generalize I.tm d1=x1;generalize I.tm d2=x2;generalize I.tm d3=x3;generalize I.tm d4=x4;have X:∀ {Fin x1 x2 x3 x4 u m},(∀ g j,(C.arr g).At m j->Fin (I.put4 d1 d2 d3 d4 (.v (C.v g)) x2 x3 x4) u j)->Ob P id ops true Fin [q1] (I.put4 d1 d2 d3 d4 x1 x2 x3 x4) u m:=fun {Fin x1 x2 x3 x4 u m} hk =>
   Ob.layM C.e C.sz C.bt C.z C.es (H1 x1 x2 x3 x4) e1 o1.ho o1.hzs o1.hsz o1.hn0 o1.hb fun g j E=>by rw[Avo U];exact hk g j E
  have Y:∀ {Fin g1 x2 x3 x4 u m},(∀ g j,((N g1).arr g).At m j->Fin (I.put4 d1 d2 d3 d4 (.v (C.v g1)) (.v ((N g1).v g)) x3 x4) u j)->Ob P id ops true Fin [q2] (I.put4 d1 d2 d3 d4 (.v (C.v g1)) x2 x3 x4) u m:=fun {Fin g1 x2 x3 x4 u m} hk =>
   Ob.layM (N g1).e (N g1).sz (N g1).bt (N g1).z (N g1).es (H2 g1 x2 x3 x4) e2 (o2 g1).ho (o2 g1).hzs (o2 g1).hsz (o2 g1).hn0 (o2 g1).hb fun g j E=>by rw[Aul U];exact hk g j E
  have a3:∀ {Fin x1 x2 x3 x4 m} (u1:PH),PH.le u u1->(∀ n,PH.le u1 n->Fin (I.put4 d1 d2 d3 d4 x1 x2 (.v V) x4) n m)->Ob P id ops true Fin [r1] (I.put4 d1 d2 d3 d4 x1 x2 x3 x4) u1 m:=fun {Fin x1 x2 x3 x4 m} u1 hle hk =>
   Ob.callV f args (H3 x1 x2 x3 x4) e3 hc (c u1 hle) fun v n H hv=>by rw[Aus U,hv];exact hk n H
  have Z:∀ {Fin x1 x2 x4 u m},(∀ g j,(L.arr g).At m j->Fin (I.put4 d1 d2 d3 d4 x1 x2 (.v V) (.v (L.v g))) u j)->Ob P id ops true Fin [r2] (I.put4 d1 d2 d3 d4 x1 x2 (.v V) x4) u m:=fun {Fin x1 x2 x4 u m} hk =>
   Ob.layM L.e L.sz L.bt L.z L.es (H4 x1 x2 x4) e4 o4.ho o4.hzs o4.hsz o4.hn0 o4.hb fun g j E=>by rw[Aw3 U];exact hk g j E
  have a2:∀ {g1 g2 O n j},PH.le u n->Bag j [L.arr O,(N g1).arr g2,C.arr g1]->O7 P id ops t (Fw P fn Post kk) 0 [] (I.put4 d1 d2 d3 d4 (.v (C.v g1)) (.v ((N g1).v g2)) (.v V) (.v (L.v O))) n j:=fun H R=>(k _ _ _ _ _ H R).out;have ae:∀ {g1 g2 x4 n j},PH.le u n->Bag j [(N g1).arr g2,C.arr g1]->O7 P id ops t (Fw P fn Post kk) 1 [r2] (I.put4 d1 d2 d3 d4 (.v (C.v g1)) (.v ((N g1).v g2)) (.v V) x4) n j:=fun {g1 g2 x4 n j} H R a F _=>by
   simp only[Ay7,A0b,or_false]at F;subst F;rw[A03];exact Z fun g K E=>a2 H ⟨j,E,R⟩
  have ab:∀ {g1 O x2 n j},PH.le u n->Bag j [L.arr O,C.arr g1]->O7 P id ops t (Fw P fn Post kk) 1 [q2] (I.put4 d1 d2 d3 d4 (.v (C.v g1)) x2 (.v V) (.v (L.v O))) n j:=fun {g1 O x2 n j} H R a F _=>by
   simp only[Ay7,A0b,or_false]at F;subst F;rw[A03];exact Y fun g K E=>a2 H (Bag.perm (List.Perm.swap _ _ _) (show Bag K [(N g1).arr g,L.arr O,C.arr g1] from⟨j,E,R⟩))
  have a0:∀ {g1 x2 x4 n j},PH.le u n->Bag j [C.arr g1]->O7 P id ops t (Fw P fn Post kk) 2 [q2,r2] (I.put4 d1 d2 d3 d4 (.v (C.v g1)) x2 (.v V) x4) n j:=fun {g1 x2 x4 n j} H R a F _=>by
   simp only[Ay7,A0b,or_false]at F;rcases F with rfl|rfl
   ·rw[A03];exact Y fun g K E=>ae H ⟨j,E,R⟩
   rw[A3p (by simpa using aa),A03];exact Z fun g K E=>ab H ⟨j,E,R⟩
  have a7:∀ {g1 g2 x3 x4 n j},PH.le u n->Bag j [(N g1).arr g2,C.arr g1]->O7 P id ops t (Fw P fn Post kk) 2 [r1,r2] (I.put4 d1 d2 d3 d4 (.v (C.v g1)) (.v ((N g1).v g2)) x3 x4) n j:=fun {g1 g2 x3 x4 n j} H R a F J=>by
   simp only[Ay7,A0b,or_false]at F;rcases F with rfl|rfl
   ·rw[A03];exact a3 _ H fun af W=>ae (H.trans W) R
   have:=J r1 mV a5;rw[hr]at this;cases this
  have a6:∀ {O x1 x2 n j},PH.le u n->Bag j [L.arr O]->O7 P id ops t (Fw P fn Post kk) 2 [q1,q2] (I.put4 d1 d2 d3 d4 x1 x2 (.v V) (.v (L.v O))) n j:=fun {O x1 x2 n j} H R a F J=>by
   simp only[Ay7,A0b,or_false]at F;rcases F with rfl|rfl
   ·rw[A03];exact X fun g K E=>ab H (Bag.perm (List.Perm.swap _ _ _) (show Bag K [C.arr g,L.arr O] from⟨j,E,R⟩))
   have:=J q1 mV a4;rw[hq]at this;cases this
  have ac:∀ {g1 x2 x3 x4 n j},PH.le u n->Bag j [C.arr g1]->O7 P id ops t (Fw P fn Post kk) 3 [q2,r1,r2] (I.put4 d1 d2 d3 d4 (.v (C.v g1)) x2 x3 x4) n j:=fun {g1 x2 x3 x4 n j} H R a F J=>by
   simp only[Ay7,A0b,or_false]at F;rcases F with rfl|rfl|rfl
   ·rw[A03];exact Y fun g K E=>a7 H ⟨j,E,R⟩
   ·rw[A3p (by simpa using a9),A03];exact a3 _ H fun af W=>a0 (H.trans W) R
   have:=J r1 mV a5;rw[hr]at this;cases this
  have ad:∀ {x1 x2 x4 n j},PH.le u n->O7 P id ops t (Fw P fn Post kk) 3 [q1,q2,r2] (I.put4 d1 d2 d3 d4 x1 x2 (.v V) x4) n j:=fun {x1 x2 x4 n j} H a F J=>by
   simp only[Ay7,A0b,or_false]at F;rcases F with rfl|rfl|rfl
   ·rw[A03];exact X fun g K E=>a0 H ⟨j,E,trivial⟩
   ·have:=J q1 mV a4;rw[hq]at this;cases this
   rw[A3p (by simpa using ah),A3p (by simpa using aa),A03];exact Z fun g K E=>a6 H ⟨j,E,trivial⟩
  show O7 P id ops t (Fw P fn Post kk) 4 [q1,q2,r1,r2] _ u m;intro a F J;simp only[Ay7,A0b,or_false]at F;rcases F with rfl|rfl|rfl|rfl
  ·rw[A03];exact X fun g K E=>ac (PH.le_refl _) ⟨m,E,trivial⟩
  ·have:=J q1 mV a4;rw[hq]at this;cases this
  ·rw[A3p (by simpa using ag),A3p (by simpa using a9),A03];exact a3 _ (PH.le_refl _) fun af W=>ad W
  have:=J r1 mV a5;rw[hr]at this;cases this
 cases h
end rules
end
section
structure Ko (u:PH)(v cv:Value)(T:List (List UInt8×Nat))(R:List Bu)(F:List Am)(lab:Int)(C:CF)(K k:Nat):Prop where
 sch:G8 u v T R F lab
 ok:Bt u T R F lab
 cof:Nu u cv C K
 sC:CFS C
 vC:CFV C
 K:K<=10000
 bel:∀ p,C.s p≠0->Ac1 F lab p
 mom:Pm C k
 p24:∀ P,Iy F C P->P.length<=24
 lab0:0<=lab
section
variable {u:PH} {v cv:Value} {T:List (List UInt8×Nat)} {R:List Bu} {F:List Am} {lab:Int} {C:CF} {K k:Nat} {P:List Par}
def Ko.mono {u':PH}(h:Ko u v cv T R F lab C K k)(hl:PH.le u u'):Ko u' v cv T R F lab C K k :=
 ⟨h.sch.mono hl,h.ok.mono hl,h.cof.mono hl,h.sC,h.vC,h.K,h.bel,h.mom,h.p24,h.lab0⟩
def V5 (C:CF)(P:List Par)(i:Nat):List (List Rat):=((Ah P).take (i+1)).map (Ar C none)::(P.take i).map fun p=>(Ah P).map (Ar C (some p))
def All:V5 C P P.length=Ud C P:=by
 unfold V5 Ud;rw[show (Ah P).take (P.length+1)=Ah P by rw[Ay6 (by rw[Bk];omega)],Azj]
 conv=>rhs;rw[show Ah P=none::P.map some from rfl]
 rw[Azu,A6z];rfl
def Agz (h:Ko u v cv T R F lab C K k) :
 Ag prog 150 [v,cv] u PH.mt fun r u' m'=>∃ (P:List Par) (pa:Option Addr) (X:Nat) (xa:Option Addr) (xc:Nat) (ra:Option Addr) (rc:Nat) (n:List (Value×List Value)),Iy F C P /\
  r=.tuple #[.agg #[.slice pa P.length X,.slice xa (P.length+1) xc,.slice ra (P.length+1) rc],.int .i64 0]/\Ac u' (.slice pa P.length X) 2 (P.map Aq)/\n.map (·.2)=(Ud C P).map txV /\
  Bag m' (E7 (.slice ra (P.length+1) rc,txV ((Ah P).map (Au C)))::oT (.slice xa (P.length+1) xc) n::n.map E7):=by
 have b4:=Agm h.sch h.ok h.cof h.sC h.vC (Ayv h.K oV) h.bel;have an:=h.p24;have hK:=h.K;have cg:=h.lab0;have hS:=fun (u':PH) (l:PH.le u u') (p:Par)=>Ayn p (h.cof.mono l) oV;have hQ:=fun (u':PH) (l:PH.le u u') (p q:Par)=>Aos p q (h.cof.mono l) oV;obtain⟨xa,xc,xb,xd,xe,xf,rfl,_⟩:=id h.sch;obtain⟨a1,n1,c1,a2,n2,c2,rfl⟩:=id h.cof.opn;refine Ag.o func150<|G.c call205 b4 ?_;intro v1 u1 l1 hp;obtain⟨ps,P,rfl,hL,_,a3⟩:=hp.resolve_left fun⟨_,L,h1,a3⟩=>by have:=an L a3;omega
 have ce:=an P a3;have ch:=Bk P;obtain⟨pa,X,rfl⟩:=hL.opn;rw[Ayt]at hL⊢;refine G.nF 0 0<|G.lF lab 0<|G.fan [0,1,2,5,6,10] 3 4 7 8 [9,11] 33 34 37 38 ⟨32,1,16,.string (mkS []),[.string (mkS (Ae C.c))]⟩ (fun g=>⟨78,1,24,.slice none 0 0,[.slice (some ⟨g,0,none⟩) 1 1]⟩) ⟨32,1,16,.string (mkS []),[.string (mkS (Ae (C.s B7)))]⟩ (.string (mkS (Ae (C.s B7)))) _ _ kV
  (fun _ _ _ _=>kV) ⟨Mc _,rfl,Nat.one_pos,Nat.one_pos,mV⟩ (fun _ _ _ _=>kV) (fun _=>⟨D4 _ _ _,rfl,Nat.one_pos,Nat.one_pos,mV⟩) (fun _ _ _ _=>kV) call206 (fun u' l=>hS u' (l1.trans l) B7) (fun _ _ _=>kV) ⟨Mc _,rfl,Nat.one_pos,Nat.one_pos,mV⟩ ?_
 intro g3 g4 g5 u2 m5 l2 aw;refine G.l (ι:=Nat×(Option Addr×Nat)×(Option Addr×Nat)×List (Value×List Value)) (fun i=>[(3,.p 1 0),(4,.p 2 0),(6,sV pa P.length X),(8,.p 6001 0),(9,.p 7010 0),(40,sV pa P.length X),(41,iV P.length),(42,iV i.1)])
  (fun i=>[(1,⟨36,[tV (Ae C.c),sV a1 n1 c1,sV a2 n2 c2]⟩),(2,⟨88,[sV none 0 0,sV none 0 0,sV none 0 0]⟩),(6001,⟨63,[iV (-1),tV []]⟩),
   (7010,⟨88,[.v (.slice pa P.length X),.v (.slice i.2.1.1 (i.1+1) i.2.1.2),.v (.slice i.2.2.1.1 (i.1+1) i.2.2.1.2)]⟩)])
  (fun i u' m'=>i.1<=P.length/\i.2.2.2.map (·.2)=(V5 C P i.1).map txV/\Bag m' (E7 (.slice i.2.2.1.1 (i.1+1) i.2.2.1.2,txV (((Ah P).take (i.1+1)).map (Au C)))::oT (.slice i.2.1.1 (i.1+1) i.2.1.2) i.2.2.2::i.2.2.2.map E7)) (fun i=>P.length-i.1)
  (0,(some ⟨g4,0,none⟩,1),(some ⟨g5,0,none⟩,1),[(.slice (some ⟨g3,0,none⟩) 1 1,txV [C.c])])
  ⟨oV,by unfold V5 Ah;rfl,aw⟩ ?_
 clear aw;rintro J ⟨i,⟨ya,Q⟩,⟨ra,rc⟩,n⟩ hJ u5 m5 l5 ⟨hi,E,H⟩;simp only at hi E H hJ;have be:=(l1.trans l2).trans l5;have b6:n.length=i+1:=by have:=congrArg List.length E;rw[Ayt,Ayt]at this;rw[this];simp[V5];omega
 by_cases b2:i<P.length
 ·refine G.lT i P.length ?_;obtain⟨p,af⟩:∃ p,P[i]?=some p:=⟨_,Ayr b2⟩;have b8:(Ah P).take (i+1+1)=(Ah P).take (i+1)++[some p]:=by rw[Ov,Ov,Aze,af];simp
  obtain⟨bp,op,e0,ep⟩:=Ac.at' (hL.mono (l2.trans l5)) (j:=i) (e:=Aq p) (by simp[af]);subst e0;refine G.a bp op P.length X i 2 b2<|G.lU (some 2) bp (op+i*2) (.agg #[.int .i64 p.1,.string (mkS p.2)]) ep ?_;obtain⟨go,co,eo⟩:=H.ptr 1 rfl (fun e=>by
   have:(n.map (·.1)).length=0:=by rw[show n.map (·.1) = [] from e];rfl
   rw[Ayt]at this;omega)
  have bm:(Value.slice ya (i+1) Q)=.slice (some ⟨go,0,none⟩) (i+1) co:=by
   have e1:(oT (.slice ya (i+1) Q) n).v=Value.slice ya (i+1) Q:=rfl;rw[e1]at eo;rw[eo];have:(oT (.slice ya (i+1) Q) n).es.length=i+1:=by show (n.map (·.1)).length=_;rw[Ayt,b6]
   rw[this]
  cases bm;obtain⟨⟨v0,e0⟩,Z⟩:∃ x,n[0]?=some x:=⟨_,Ayr oV⟩;have bw:e0=txV (((Ah P).take (i+1)).map (Ar C none)):=by
   have h1:=congrArg (fun l=>l[0]?) E;simp only[Ayy,Z]at h1;simpa[V5] using h1
  subst bw;have ae:(txV (((Ah P).take (i+1)).map (Ar C none))).length=i+1:=by rw[Hx,Ayt,Ay1];omega
  obtain⟨z0,a6,ez⟩:=H.shape 2 (x:=E7 (v0,txV (((Ah P).take (i+1)).map (Ar C none)))) (by simp[Z]);simp only[E7]at ez;rw[ae]at ez;subst ez;have b3:ElP m5 go (0+0*1) (.slice z0 (i+1) a6):=H.el 1 (x:=oT (.slice (some ⟨go,0,none⟩) (i+1) Q) n) rfl rfl (by show (n.map (·.1))[0]?=_;rw[Ayy,Z];rfl);refine G.a go 0 (i+1) Q 0 1 oV<|G.lM none go (0+0*1) (.slice z0 (i+1) a6) b3<|G.c call206 (hS u5 be p) ?_;rintro v6 u6 l6 rfl;refine G.B 32 1 16 (.string (mkS [])) [.string (mkS (Ae (C.s p)))] (Mc _) ?_;intro g7 u7 l7 e7;obtain⟨m0,O,I⟩:=H.focus 2 (x:=E7 (.slice z0 (i+1) a6,txV (((Ah P).take (i+1)).map (Ar C none)))) (by simp[Z]);rw[Om]at O;refine G.append 32 1 16 (.string (mkS [])) m0 (txV (((Ah P).take (i+1)).map (Ar C none))) [.string (mkS (Ae (C.s p)))] (.slice z0 (i+1) a6) g7 0 1 1 kV rfl rfl oV O e7 (Mc _) rfl oV (by rw[ae];omega) (by rw[ae];omega) ?_;intro v8 m8 a0;have e8:txV (((Ah P).take (i+1)).map (Ar C none))++[.string (mkS (Ae (C.s p)))]=txV (((Ah P).take (i+1+1)).map (Ar C none)):=by rw[b8,Aza,Xh];rfl
  rw[e8]at a0;have bx:(txV (((Ah P).take (i+1+1)).map (Ar C none))).length=i+1+1:=by rw[Hx,Ayt,Ay1];omega
  obtain⟨a8,c8,rfl⟩:=a0.shape;rw[bx]at a0⊢;have ax:=I (E7 (.slice a8 (i+1+1) c8,txV (((Ah P).take (i+1+1)).map (Ar C none)))) m8 a0;obtain⟨m1,ah,Y⟩:=ax.focus 1 rfl;rw[Ais]at ah;refine G.a go 0 (i+1) Q 0 1 oV<|G.storeA 1 m1 _ go (i+1) Q 0 (.slice a8 (i+1+1) c8) kV ah gV rfl rfl ?_;intro m9 bu;have ay:=Y (oT (.slice (some ⟨go,0,none⟩) (i+1) Q) (n.set 0 (.slice a8 (i+1+1) c8,txV (((Ah P).take (i+1+1)).map (Ar C none))))) m9 (by rw[Ais,A1d];exact bu);obtain⟨m,N⟩:∃ r,r=n.set 0 (.slice a8 (i+1+1) c8,txV (((Ah P).take (i+1+1)).map (Ar C none))):=⟨_,rfl⟩;have a9:Bag m9 (E7 (.slice ra (i+1) rc,txV (((Ah P).take (i+1)).map (Au C)))::oT (.slice (some ⟨go,0,none⟩) (i+1) Q) m::m.map E7):=by
   rw[N,A1d];simpa using ay
  have c3:m.map (·.2)=(((Ah P).take (i+1+1)).map (Ar C none)::(P.take i).map fun p=>(Ah P).map (Ar C (some p))).map txV:=by
   rw[N,A1d,E];rfl
  have b7:m.length=i+1:=by rw[N,A1o];exact b6
  clear ay ax I Y O ah H E Z b3;have bf:=(be.trans l6).trans l7;refine G.c call206 (hS u7 bf p) ?_;rintro cq ck ai rfl;refine G.buildM 32 1 16 (.string (mkS [])) [.string (mkS (Ae (C.s p)))] kV (Mc _) rfl oV mV mV ?_;intro bn ci a7;have bb:=bf.trans ai;have ao:=hL.mono ((((l2.trans l5).trans l6).trans l7).trans ai);refine G.l (ι:=Nat×(Option Addr×Nat)) (fun j=>[(3,.p 1 0),(4,.p 2 0),(6,sV (some ⟨bp,op,none⟩) P.length X),(8,.p 6001 0),(9,.p 7010 0),(11,.p 10002 0),(12,sV j.2.1 (j.1+1) j.2.2),(40,sV (some ⟨bp,op,none⟩) P.length X),(41,iV P.length),(42,iV i),(62,sV (some ⟨bp,op,none⟩) P.length X),(63,iV P.length),(64,iV j.1)])
   (fun j=>[(1,⟨36,[tV (Ae C.c),sV a1 n1 c1,sV a2 n2 c2]⟩),(2,⟨88,[sV none 0 0,sV none 0 0,sV none 0 0]⟩),(6001,⟨63,[iV (-1),tV []]⟩),
    (7010,⟨88,[.v (.slice (some ⟨bp,op,none⟩) P.length X),.v (.slice (some ⟨go,0,none⟩) (i+1) Q),.v (.slice ra (i+1) rc)]⟩),(10002,⟨63,[.v (.int .i64 p.1),.v (.string (mkS p.2))]⟩)])
   (fun j u' m'=>j.1<=P.length/\Bag m' (E7 (.slice j.2.1 (j.1+1) j.2.2,txV (((Ah P).take (j.1+1)).map (Ar C (some p))))::E7 (.slice ra (i+1) rc,txV (((Ah P).take (i+1)).map (Au C)))::oT (.slice (some ⟨go,0,none⟩) (i+1) Q) m::m.map E7)) (fun j=>P.length-j.1)
   (0,some ⟨bn,0,none⟩,1) ⟨oV,m9,a7,a9⟩ ?_
  clear a9 a7;rintro J2 ⟨j,la,lc⟩ ad cc cj a5 ⟨hj,a4⟩;simp only at hj a4 ad;have aa:=bb.trans a5;by_cases az:j<P.length
  ·refine G.lT j P.length ?_;obtain⟨q,b5⟩:∃ q,P[j]?=some q:=⟨_,Ayr az⟩;have c4:(Ah P).take (j+1+1)=(Ah P).take (j+1)++[some q]:=by rw[Ov,Ov,Aze,b5];simp
   obtain⟨bq,oq,e0,eq⟩:=Ac.at' (ao.mono a5) (j:=j) (e:=Aq q) (by simp[b5]);cases e0;refine G.a bp op P.length X j 2 az<|G.lU (some 2) bp (op+j*2) (.agg #[.int .i64 q.1,.string (mkS q.2)]) eq<|G.c call207 (hQ cc aa p q) ?_;rintro cr cl c5 rfl;refine G.B 32 1 16 (.string (mkS [])) [.string (mkS (Ae (C.t (A2 p q))))] (Mc _) ?_;intro bo cm c6 bh;obtain⟨m0,O,I⟩:=a4.focus 0 rfl;rw[Om]at O;have b0:(txV (((Ah P).take (j+1)).map (Ar C (some p)))).length=j+1:=by rw[Hx,Ayt,Ay1];omega
   refine G.append 32 1 16 (.string (mkS [])) m0 (txV (((Ah P).take (j+1)).map (Ar C (some p)))) [.string (mkS (Ae (C.t (A2 p q))))] (.slice la (j+1) lc) bo 0 1 1 kV rfl rfl oV O bh (Mc _) rfl oV (by rw[b0];omega) (by rw[b0];omega) ?_;intro cs ca U;have bi:txV (((Ah P).take (j+1)).map (Ar C (some p)))++[.string (mkS (Ae (C.t (A2 p q))))]=txV (((Ah P).take (j+1+1)).map (Ar C (some p))):=by rw[c4,Aza,Xh];rfl
   rw[bi]at U;have bz:(txV (((Ah P).take (j+1+1)).map (Ar C (some p)))).length=j+1+1:=by rw[Hx,Ayt,Ay1];omega
   obtain⟨aj,al,rfl⟩:=U.shape;rw[bz]at U⊢;have ap:=I (E7 (.slice aj (j+1+1) al,txV (((Ah P).take (j+1+1)).map (Ar C (some p))))) ca U;exact G.i j<|G.b (ad (j+1,aj,al) _ _ _ cV ((a5.trans c5).trans c6) ⟨dV,ap⟩ dV)
  obtain rfl:j=P.length:=oV
  refine G.lF P.length P.length ?_;clear ad;rw[show (Ah P).take (P.length+1)=Ah P by rw[Ay6 oV]]at a4;refine G.B 78 1 24 (.slice none 0 0) [.slice la (P.length+1) lc] (D4 _ _ _) ?_;intro br cd ba bj;obtain⟨m0,O,I⟩:=a4.focus 2 rfl;rw[Ais]at O;refine G.k 78 1 24 (.slice none 0 0) m0 (m.map (·.1)) [.slice la (P.length+1) lc] (.slice (some ⟨go,0,none⟩) (i+1) Q) br 0 1 1 O bj (D4 _ _ _) ?_;intro ct bg V;have em:m.map (·.1)++[Value.slice la (P.length+1) lc]=(m++[(Value.slice la (P.length+1) lc,txV ((Ah P).map (Ar C (some p))))]).map (·.1):=mV
  rw[em]at V;obtain⟨ab,ac,rfl⟩:=V.shape;have el:((m++[(Value.slice la (P.length+1) lc,txV ((Ah P).map (Ar C (some p))))]).map (·.1)).length=i+1+1:=by simp[b7]
  rw[el]at V⊢;have aq:=I (oT (.slice ab (i+1+1) ac) (m++[(Value.slice la (P.length+1) lc,txV ((Ah P).map (Ar C (some p))))])) bg V;have ar:=Bag.perm Alh aq;have bd:=aa.trans ba;refine G.c call207 (hQ cd bd B7 p) ?_;rintro cu cn c7 rfl;refine G.B 32 1 16 (.string (mkS [])) [.string (mkS (Ae (C.t (A2 B7 p))))] (Mc _) ?_;intro bt cp c9 bk;have au:Bag bg (E7 (.slice ra (i+1) rc,txV (((Ah P).take (i+1)).map (Au C)))::oT (.slice ab (i+1+1) ac) (m++[(Value.slice la (P.length+1) lc,txV ((Ah P).map (Ar C (some p))))])::(m++[(Value.slice la (P.length+1) lc,txV ((Ah P).map (Ar C (some p))))]).map E7):=by simpa using ar
  obtain⟨m2,b9,ag⟩:=au.focus 0 rfl;rw[Om]at b9;have b1:(txV (((Ah P).take (i+1)).map (Au C))).length=i+1:=by rw[Hx,Ayt,Ay1];omega
  refine G.append 32 1 16 (.string (mkS [])) m2 (txV (((Ah P).take (i+1)).map (Au C))) [.string (mkS (Ae (C.t (A2 B7 p))))] (.slice ra (i+1) rc) bt 0 1 1 kV rfl rfl oV b9 bk (Mc _) rfl oV (by rw[b1];omega) (by rw[b1];omega) ?_;intro cw cb W;have bl:txV (((Ah P).take (i+1)).map (Au C))++[.string (mkS (Ae (C.t (A2 B7 p))))]=txV (((Ah P).take (i+1+1)).map (Au C)):=by rw[b8,Aza,Xh];rfl
  rw[bl]at W;have c0:(txV (((Ah P).take (i+1+1)).map (Au C))).length=i+1+1:=by rw[Hx,Ayt,Ay1];omega
  obtain⟨ak,am,rfl⟩:=W.shape;rw[c0]at W⊢;have av:=ag (E7 (.slice ak (i+1+1) am,txV (((Ah P).take (i+1+1)).map (Au C)))) cb W;refine G.i i<|G.b (hJ (i+1,(ab,ac),(ak,am),m++[(Value.slice la (P.length+1) lc,txV ((Ah P).map (Ar C (some p))))]) _ _ _ cV (((((((l5.trans l6).trans l7).trans ai).trans a5).trans ba).trans c7).trans c9) ⟨dV,?_,av⟩ dV);dsimp only;rw[Aza,c3];unfold V5;rw[show P.take (i+1)=P.take i++[p] by rw[Aze,af];rfl];simp
 obtain rfl:i=P.length:=oV
 refine G.lF P.length P.length ?_;rw[All]at E;rw[show (Ah P).take (P.length+1)=Ah P by rw[Ay6 oV]]at H;exact G.r (.tuple #[.agg #[.slice pa P.length X,.slice ya (P.length+1) Q,.slice ra (P.length+1) rc],.int .i64 0]) ⟨P,pa,X,ya,Q,ra,rc,n,a3,rfl,hL.mono (l2.trans l5),E,H⟩
end
end
section
section
variable {P:List Par} {C:CF} {q:Rat} {N k:Nat} {b:Option Par->Rat}
end
end
section
section
variable {u:PH} {v cv mv:Value} {T:List (List UInt8×Nat)} {R:List Bu} {F:List Am} {lab:Int} {C:CF} {K k:Nat} {P:List Par} {m0:Rat} {M:List (Par×Rat)}
end
end
section
section
variable {u:PH} {v cv av bv:Value} {T:List (List UInt8×Nat)} {R:List Bu} {F:List Am} {lab:Int} {C:CF} {K k:Nat} {P:List Par} {a0 b0:Rat} {A B:List (Par×Rat)}
end
end
section
section
variable {P:List Par} {C:CF} {k:Rat} {m0:Rat} {M:List (Par×Rat)}
end
end
section
section
variable {u:PH} {v cv av bv:Value} {T:List (List UInt8×Nat)} {R:List Bu} {F:List Am} {lab:Int} {C:CF} {K k:Nat} {P:List Par} {a0 b0:Rat} {A B:List (Par×Rat)}
end
end
section
variable {q:Rat}
def Ars (l:List UInt8):Nat:=l.foldl (fun a b=>a*10+(b.toNat-48)) 0
def Qp (u:Nat):Ars (Lib.decDigits u)=u:=by
 induction u using Nat.strongRecOn with
 |_ u ih =>
  unfold Lib.decDigits;split
  ·rename_i h;show 0*10+((UInt8.ofNat (48+u)).toNat-48)=u;rw[UInt8.toNat_ofNat'];omega
  rename_i h;have e:=ih (u/10) oV;unfold Ars at e⊢;rw[A41,e];show u/10*10+((UInt8.ofNat (48+u%10)).toNat-48)=u;rw[UInt8.toNat_ofNat'];omega
def Sg {z w:Int}(h:Lib.itoa z=Lib.itoa w):z=w:=by
 have key:∀ a b:Int,a<0->0<=b->Lib.itoa a=Lib.itoa b->False:=fun a b n t e=>by
  unfold Lib.itoa at e;rw[if_pos n,if_neg oV]at e;have g:=Mv b.toNat 45 (by rw[<-e];simp);simp at g
 by_cases m:z<0
 ·by_cases j:w<0
  ·unfold Lib.itoa at h;rw[if_pos m,if_pos j]at h;have g:=congrArg Ars (A4n h).2;rw[Qp,Qp]at g;omega
  exact (key z w m oV h).elim
 by_cases j:w<0
 ·exact (key w z j oV h.symm).elim
 unfold Lib.itoa at h;rw[if_neg m,if_neg j]at h;have g:=congrArg Ars h;rw[Qp,Qp]at g;omega
def Ajw {a b:List UInt8}(e:∀ x∈a,x≠47):(a++47::b).takeWhile (fun x=>decide (x≠47))=a/\(a++47::b).dropWhile (fun x=>decide (x≠47))=47::b:=by
 induction a with
 |nil=>simp
 |cons x a ih =>
  obtain⟨h,j⟩:=ih fun y m=>e y (by simp[m]);have g:x≠47:=e x mV;refine⟨?_,?_⟩
  ·rw[A11,List.takeWhile_cons,if_pos (by simpa using g),h]
  rw[A11,List.dropWhile_cons,if_pos (by simpa using g),j]
def Amw {q r:Rat}(h:Ae q=Ae r):q=r:=by
 have no:∀ a b c:Rat,a.den=1->¬ b.den=1->Ae a=Ae b->False:=fun a b c C E e=>by
  unfold Ae at e;rw[if_pos C,if_neg E]at e;exact Hn a.num 47 (by rw[e];simp) rfl
 by_cases j:q.den=1
 ·by_cases g:r.den=1
  ·unfold Ae at h;rw[if_pos j,if_pos g]at h;exact Rat.ext (Sg h) (by rw[j,g])
  exact (no q r 0 j g h).elim
 by_cases g:r.den=1
 ·exact (no r q 0 g j h.symm).elim
 unfold Ae at h;rw[if_neg j,if_neg g]at h;obtain⟨m,n⟩:=Ajw (b:=Lib.itoa (q.den:Int)) (Hn q.num);obtain⟨t,u⟩:=Ajw (b:=Lib.itoa (r.den:Int)) (Hn r.num);rw[h]at m n;refine Rat.ext (Sg (m.symm.trans t)) ?_;have:=Sg (A4n (n.symm.trans u)).2;omega
def Alq (h:SmW q):Fa (Ae q)=q:=Amw (Ol ⟨q,h,rfl⟩).2
end
section
variable {F:List Am}{L:List Fx}{R:List Bu}{T:List (List UInt8×Nat)}{lab:Int}{u:PH}
def Ev (ok:Bt u T R F lab):∀ l:Nat,lab=(l:Int)->l<T.length:=fun l e=>by
 obtain⟨n,g⟩:=ok.l2 l e;exact (Ayu.1 g).1
def Bdh (ok:Bt u T R F lab)(C:T.length<=8)(hT:∀ y∈L,Cd T y.1/\y.2.1<=7)(t:L.length<=6):CFD 16 (10^75) (Ce F lab L):=by
 obtain⟨d,_⟩:=As1 ok hT;refine d.to oV ?_;have e:12^(16-2*T.length)=144^(8-T.length):=by
  rw[show 16-2*T.length=2*(8-T.length) by omega,Nat.pow_mul]
 have h:144^(8-T.length)<=1374926400^(8-T.length):=Nat.pow_le_pow_left oV _;have j:1374926400^T.length*1374926400^(8-T.length)=1374926400^8:=by rw[<-A3a];congr 1;omega
 have m:1374926400^8*42<=10^75:=jV
 rw[e];have g:L.length*(1374926400^T.length*7)*144^(8-T.length)<=6*(1374926400^T.length*7)*1374926400^(8-T.length):=A1u (Az7 _ t) h;have n:6*(1374926400^T.length*7)*1374926400^(8-T.length)=(1374926400^T.length*1374926400^(8-T.length))*42:=by
  generalize 1374926400^T.length=a;generalize 1374926400^(8-T.length)=b;rw[Az5 6,Az4 a 7 6,Az4 a b 42,Az4 a (7*6) b,Az5 (7*6) b]
 rw[n,j]at g;exact Ayv g m
def Bcw (ok:Bt u T R F lab)(m:T.length<=8)(hT:∀ y∈L,Cd T y.1/\y.2.1<=7)(j:L.length<=6):∃ k,Pm (Ce F lab L) k:=by
 obtain⟨k,E,H⟩:=Afz ok.feat ok.l1 (Ev ok) hT;have d:=Bdh ok m hT j;have n:12^16<10^18:=jV
 obtain⟨e,_⟩:=As1 ok hT;have g:L.length*(1374926400^T.length*7)<10^75:=by
  have C:1374926400^T.length<=1374926400^8:=Azr oV m;have I:1374926400^8*42<10^75:=jV
  have J:=A1u j (Az7 7 C);omega
 have h:12^(2*T.length)<10^18:=A0r (Azr oV oV) n;exact⟨k,E,oV,fun p=>(e.s p).de g h,fun p=>(e.t p).de g h⟩
def Bdc {u:PH}{T:List (List UInt8×Nat)}{R:List Bu}{F:List Am}{lab:Int}{L:List Fx}{n j:Value}{P:List Par}(E:G8 u n T R F lab)(ok:Bt u T R F lab)(g:T.length<=8)(hT:∀ y∈L,Cd T y.1/\y.2.1<=7)(m:L.length<=6)
 (t:Nu u j (Ce F lab L) 1530) (C:Iy F (Ce F lab L) P) (h:P.length<=24) (e:0<=lab):∃ k,Bbs u n j T R F lab (Ce F lab L) 1530 k P:=by
 obtain⟨k,H⟩:=Bcw ok g hT m;obtain⟨I,J⟩:=R7 ok g hT oV;exact⟨k,E,ok,t,I,J,oV,Are,H,C,h,e,Bdh ok g hT m⟩
end
def Uq:SmW 2:=⟨jV,jV⟩
section
variable {x:Rat}
section
variable {u:PH} {v cv mv:Value} {T:List (List UInt8×Nat)} {R:List Bu} {F:List Am} {lab:Int} {C:CF} {K k:Nat} {P:List Par} {m0:Rat} {M:List (Par×Rat)}
end
def Ax3 (h:0<=x):0<=sg x:=by
 rcases Vu x with ⟨g,_⟩|⟨_,e⟩|⟨_,e⟩
 ·exact absurd g (by grind)
 ·rw[e];decide
 rw[e];decide
def Bdu (h:x<=0):sg x<=0:=by
 rcases Vu x with ⟨_,e⟩|⟨_,e⟩|⟨g,_⟩
 ·rw[e];decide
 ·rw[e];decide
 exact absurd g (by grind)
end
section
section
variable [Cc] {P:Program} [A5 P] {fn:Func} {Post:By} {st:List KI×S} {u m:PH}
end
end
section
def Adr {q:Rat}(h:0<q):0<q.num:=by
 have g:0<=q.num:=Rat.num_nonneg.2 (A4f h);have j:q.num≠0:=fun e=>by
  rw[A4s]at e;rw[e]at h;exact absurd h jV
 omega
def As9 {u:PH}{p q:Rat}(ht:Js u)(hp:Tx p)(m:Tx q)(hs:Tx (p+q)):Fn0 prog 82 [.string (mkS (Ae p)),.string (mkS (Ae q))] u fun v _=>v=.tuple #[.string (mkS (Ae (p+q))),.int .i64 0]:=by
 have h:Fn0 prog 152 [.string (mkS (Ae p)),.string (mkS (Ae q)),.func (.func 53) #[] #[]] u fun v _=>v=.tuple #[.string (mkS (Ae (p+q))),.int .i64 0]:=by
  refine Fn0.o func152<|G.B 32 1 16 (.string (mkS [])) [.string (mkS (Ae p)),.string (mkS (Ae q))] (Ci [Ae p,Ae q]) ?_;intro g L I Z;have hS:Dc L (.slice (some ⟨g,0,none⟩) 2 2) ([p,q].map Ae):=⟨_,2,rfl,Ay2 _,fun j e hj=>⟨g,0,rfl,Z j e hj⟩⟩;refine G.c call209 (Ahj hS (by intro x n;simp at n;rcases n with rfl|rfl;exact hp;exact m) mV) ?_;rintro v2 u2 l2 rfl;refine G.c call54 (Dr hp) ?_;intro v3 u3 l3 t;obtain⟨b3,a3,n3,c3,Q,N,a0,W,rfl⟩:=t.opn;refine G.c call54 (Dr m) ?_;intro v4 u4 J E;obtain⟨b4,a4,n4,c4,U,O,a1,X,rfl⟩:=E.opn;refine G.c call53 (If (t.mono J) E (hp.sz.mono oV) (m.sz.mono oV)) ?_;intro v5 u5 l5 H;obtain⟨b5,a5,n5,c5,V,P,a2,Y,rfl⟩:=H.opn;refine G.c call56 (O1 (ht.mono ((((I.trans l2).trans l3).trans J).trans l5)) H hs) ?_;rintro v6 u6 l6 rfl;exact G.r _ ⟨rfl,rfl⟩
 refine Fn0.o func82<|G.c call152 h ?_;rintro v1 L I rfl;exact G.r _ ⟨rfl,rfl⟩
structure Aem (q:Rat):Prop where
 tx:Tx q
 pos:0<q
 de:De 3 2 q
def G6.w {q:Rat}(h:G6 q):Aem q:=⟨h.tx,h.pos,h.de.mono oV oV⟩
section
variable {u:PH} {v cv:Value} {T:List (List UInt8×Nat)} {R:List Bu} {F:List Am} {lab:Int} {C:CF} {K k:Nat} {q:Rat}
def Zd (h:Ko u v cv T R F lab C K k)(O:Aem q) :
 Ag prog 81 [v,cv,.string (mkS (Ae q))] u PH.mt fun r u' m'=>∃ (P:List Par) (m:Option Addr) (n:Nat) (Q:Option Addr) (U:Nat) (t:Option Addr) (E:Nat) (e:List (Value×List Value)),Iy F C P /\
  r=.tuple #[.agg #[.slice m P.length n,.slice Q (P.length+1) U,.slice t (P.length+1) E],.int .i64 (if k=0 then 12 else 0)]/\Ac u' (.slice m P.length n) 2 (P.map Aq)/\e.map (·.2)=(Ud C P).map txV /\
  Bag m' (E7 (.slice t (P.length+1) E,txV ((Ah P).map (Au C)))::oT (.slice Q (P.length+1) U) e::e.map E7):=by
 have N:=Agz h;have L:=h.mom;obtain⟨Q,U,xb,xd,xe,xf,rfl,_⟩:=id h.sch;obtain⟨a1,n1,c1,a2,n2,c2,rfl⟩:=id h.cof.opn;refine Ag.o func81<|G.callO _ _ kV call150 N ?_;rintro v1 u1 m1 l1 ⟨P,m,n,I,J,t,E,e,H,rfl,V,g,j⟩ _;rw[Bw];refine G.nF 0 0<|G.c call143 (Eo O.tx) ?_;rintro v2 u2 l2 rfl;refine G.c call151 (Aee O.tx) ?_;rintro v3 u3 W rfl;have Y:sgn q.num=1:=C7 (Adr O.pos);refine G.kF (sgn q.num) 0<|G.c call151 (Aee L.tx) ?_;rintro v4 u4 X rfl;by_cases h0:k=0
 ·rw[if_pos h0];have Z:sgn C.c.num=0:=Ayq.2 (by rw[L.c,h0];rfl);exact G.kT (sgn C.c.num) 0<|G.r (.tuple #[.agg #[.slice m P.length n,.slice I (P.length+1) J,.slice t (P.length+1) E],.int .i64 12]) ⟨P,m,n,I,J,t,E,e,H,rfl,V.mono ((l2.trans W).trans X),g,j⟩
 rw[if_neg h0];have Z:sgn C.c.num=1:=C7 (Adr (L.cpos h0));exact G.kF (sgn C.c.num) 0<|G.r (.tuple #[.agg #[.slice m P.length n,.slice I (P.length+1) J,.slice t (P.length+1) E],.int .i64 0]) ⟨P,m,n,I,J,t,E,e,H,rfl,V.mono ((l2.trans W).trans X),g,j⟩
end
end
def K1 (m:PH)(gn:Nat)(e:Int):PH:=if e=0 then m else m.upd gn (.cells #[.slice none 0 0,.slice none 0 0,.slice none 0 0] 88 (0,0))
def Amx {P:Program}{T:TypeId}{z:Value}{u m:PH}{w:World}{t:Nat}{s1 s2 s3 t1 t2 t3:Value}(C:Bo u m w)(X:m t=some (.cells #[s1,s2,s3] T (0,0)))(h1:Az t1=true)(h2:Az t2=true)(h3:Az t3=true)(hz:∀ K,pv P K (.build T #[])=some (.agg #[t1,t2,t3]))(hs:szB P T=some 3)
 {Q:Exit->Act->World->Prop} {F H:Oper} (Z:F.op=.build T #[]) (d0:F.dst=some 4) (W:F.guard=none) (p1:H.op=.store T (.tmp 1) (.tmp 4)) (U:H.dst=none) (g1:H.guard=none) {id:Nat} {a:Act} (ha:a.eval (.tmp 1)=.pointer (some ⟨t,0,none⟩)) (hl:4<a.tmps.size)
 (hk:∀ R w',R.defers=a.defers->Bo u (m.upd t (.cells #[t1,t2,t3] T (0,0))) w'->Br u m w u (m.upd t (.cells #[t1,t2,t3] T (0,0))) w'->Q .normal R w'):(Code.region id #[F,H] false).wp P Q a w:=by
 obtain⟨a0,a1,n,pos,after,L⟩:=F;obtain⟨V,Y,g,j,e,I⟩:=H;simp only at Z d0 W p1 U g1;subst Z d0 W p1 U g1;have e0:(execOp a.eval ⟨some 4,.build T #[],n,pos,after,none⟩).run P w=.ok (.value (.agg #[t1,t2,t3])) w:=Aeb (hz _) w;have N:(a.put (some 4) (.agg #[t1,t2,t3])).eval (.tmp 1)=.pointer (some ⟨t,0,none⟩):=by
  rw[<-ha];simp[Act.eval,Act.put]
 have O:(a.put (some 4) (.agg #[t1,t2,t3])).eval (.tmp 4)=.agg #[t1,t2,t3]:=by
  simp[Act.eval,Act.put,hl]
 have h:∀ x∈(#[t1,t2,t3]:Array Value).toList,Az x=true:=fun x J=>by
  simp at J;rcases J with rfl|rfl|rfl<;>assumption
 obtain⟨k1,k2⟩:=C.setM X h;have e1:(execOp (a.put (some 4) (.agg #[t1,t2,t3])).eval ⟨none,.store T (.tmp 1) (.tmp 4),g,j,e,none⟩).run P w=.ok .skip (w.setRow t #[t1,t2,t3]):=by
  have E:=run_storeCells_at P t 0 T [t1,t2,t3] 0 #[s1,s2,s3] w (C.pm t _ X) mV (fun x J=>F9 (h x (by simpa using J)));simp only[execOp,N,O];simp[Instr.storeAt,Instr.sureAddr,storeVar,Bj hs,Value.cells]at E⊢;rw[E];rfl
 refine wp_region ?_;refine .inl ?_;show Oper.upon P ⟨some 4,.build T #[],n,pos,after,none⟩ a _ _ ((execOp a.eval ⟨some 4,.build T #[],n,pos,after,none⟩).run P w);rw[e0,Oper.upon_value];show wpOps P _ _ [1] (a.put (some 4) (.agg #[t1,t2,t3])) w;refine .inl ?_;show Oper.upon P ⟨none,.store T (.tmp 1) (.tmp 4),g,j,e,none⟩ (a.put (some 4) (.agg #[t1,t2,t3])) _ _ ((execOp (a.put (some 4) (.agg #[t1,t2,t3])).eval ⟨none,.store T (.tmp 1) (.tmp 4),g,j,e,none⟩).run P w);rw[e1,Oper.upon_skip];exact hk _ _ rfl k1 k2
theorem Ahz {u m:PH}{ge gn:Nat}{e:Int}{s1 s2 s3:Value}(he:m ge=some (.cells #[.int .i64 e] 40 (0,0)))(hn:m gn=some (.cells #[s1,s2,s3] 88 (0,0)))(h1:Az s1=true)(h2:Az s2=true)(h3:Az s3=true) :
 Agw prog 80 [.pointer (some ⟨ge,0,none⟩),.pointer (some ⟨gn,0,none⟩)] u m (fun u' m'=>u'=u/\m'=K1 m gn e):=by
 intro w hgd;refine (callsDIn_of_wp (R:=fun e' w'=>∃ v u' m',e'=.returned v/\Bo u' m' w'/\Br u m w u' m' w'/\u'=u/\m'=K1 m gn e) func80 rfl trivial (wpIn_wide.2 ?_) rfl).mono (fun e' md w' h=>h);have hl:∀ ev:Operand->Value,∀ o:Oper,o.op=.load 40 (.tmp 0)->ev (.tmp 0)=.pointer (some ⟨ge,0,none⟩)->(execOp ev o).run prog w=.ok (.value (.int .i64 e)) w:=fun ev o ho hv=>by
  obtain⟨dst,opp,type,pos,after,guard⟩:=o;simp only at ho;subst ho;have hel:ElP m ge 0 (.int .i64 e):=fun i x hi=>by
   match i,hi with
   |0,hi=>exact⟨_,_,_,he,by simpa[Value.cells] using hi⟩
  have hr:=Jg (P:=prog) (t:=40) (k:=none) kV rfl hel hgd.pm;simp[execOp,Instr.loadAt,Instr.sureAddr,hv];rw[hr];rfl
 have hb:∀ ev:Operand->Value,∀ o:Oper,o.op=.binOp .neq 40 (.tmp 2) (.const (.int .i64 0)) 40->ev (.tmp 2)=.int .i64 e->ev (.const (.int .i64 0))=.int .i64 0->(execOp ev o).run prog w=.ok (.value (.bool (decide (e≠0)))) w:=fun ev o ho hv hv2=>by
  obtain⟨dst,opp,type,pos,after,guard⟩:=o;simp only at ho;subst ho;have hg:∀ t X Y,(eqGuard .neq t X Y (.int .i64 e) (.int .i64 0)).run prog w=.ok () w:=fun t X Y=>Cp t X Y w;have hr:∀ t,(binOp .neq t (.int .i64 e) (.int .i64 0)).run prog w=.ok (.bool (decide (e≠0))) w:=fun t=>by
   simp[binOp,Op.intCmp]
   try (rw[A5h];simp)
  simp[execOp,hv,hv2,hg,hr]
 refine wp_seq (wp_region ?_);refine .inl ?_;show Oper.upon _ _ _ _ _ ((execOp _ _).run _ _);rw[hl _ _ rfl rfl,Oper.upon_value];refine .inl ?_;show Oper.upon _ _ _ _ _ ((execOp _ _).run _ _);rw[hb _ _ rfl rfl rfl,Oper.upon_value];by_cases h0:e=0
 ·rw[show decide (e≠0)=false by simp[h0]];refine wp_cond_false rfl (wp_skip ?_);refine bodyPost_end (results_none rfl _ _ _) rfl ?_;exact⟨_,_,_,rfl,hgd,Br.refl _ _ _,rfl,by unfold K1;rw[if_pos h0]⟩
 ·rw[show decide (e≠0)=true by simp[h0]];refine wp_cond_true rfl ?_;refine Amx (z:=undef) hgd hn (t1:=.slice none 0 0) (t2:=.slice none 0 0) (t3:=.slice none 0 0) rfl rfl rfl (fun env=>kV) kV rfl rfl rfl rfl rfl rfl rfl (Nat.lt_of_lt_of_eq (by decide:4<5) rfl) ?_;intro a' w' hd k1 k2;refine bodyPost_end (results_none rfl _ _ _) hd ?_;exact⟨_,_,_,rfl,k1,k2,rfl,by unfold K1;rw[if_neg h0]⟩
section
variable [Cc] [Cm]
section
variable {P:Program} [A5 P] {id:Nat} {ops:Array Oper} {Fin:S->PH->PH->Prop} {a d:Nat} {kk:List KI} {s:S} {u m:PH}
def Ob.loadO (J:Option Nat)(b off:Nat)(e:Value)(h:Aj P (.reg id ops true [a]::kk,s)=.load (some J) (.pointer (some ⟨b,off,none⟩)))(I:(ops[a]?).bind (·.dst)=some d)(W:W4 J e=true)(T:ElP m b off e)(k:Fin (s.put (some d) (.v e)) u m):Ob P id ops true Fin [a] s u m:=by
 obtain⟨Z,K,N,i',l',a0,a2,o,j,C,U,F,Y,H,g,V⟩:=Eg h mV;simp only[Az0,A0f,KI.reg.injEq]at j;obtain⟨⟨⟨rfl,rfl,rfl,rfl,rfl⟩,rfl⟩,rfl⟩:=j;have n:o.dst=some d:=by rw[C]at I;simpa using I
 refine Ob.ask (v:=e) C U F Y H (Acf g mV) (fun w hp=>?_) ?_
 ·obtain⟨t,X,j,Q,R⟩:=S8 g;obtain⟨O,a1,L,pos,after,E⟩:=o;simp only at j;subst j;simp[execOp,Instr.loadAt,Instr.sureAddr,Q,Jg R W T (hp rfl).2]
 rw[n];exact .nil k
def Ob.storeO (sz b off:Nat)(t:TypeId)(cs:List Value)(e:Value)(h:Aj P (.reg id ops true [a]::kk,s)=.store (some sz) (.pointer (some ⟨b,off,none⟩)) e)(hd:(ops[a]?).bind (·.dst)=none)(hw:M4 ops a ((ops[a]?.getD default).op)=true)(hb:m b=some (.cells cs.toArray t (0,0)))(ho:∀ x∈cs,Az x=true)(hl:off+sz<=cs.length)(T:e.cells.size=sz)(Q:e.cells.toList.all Az=true)
 (k:Fin s u (m.upd b (.cells (cs.take off++e.cells.toList++cs.drop (off+sz)).toArray t (0,0)))):Ob P id ops true Fin [a] s u m:=by
 obtain⟨a4,a0,a1,i',l',a5,a7,o,H,E,hg,R,hv,W,g,a3⟩:=Eg h mV;simp only[Az0,A0f,KI.reg.injEq]at H;obtain⟨⟨⟨rfl,rfl,rfl,rfl,rfl⟩,rfl⟩,rfl⟩:=H;have I:o.dst=none:=by rw[E]at hd;simpa using hd
 have Z:(ops[a]?.getD default).op=o.op:=by rw[E];rfl
 rw[Z]at hw;refine Ob.big (K:=fun v' u' m'=>u'=u/\m'=m.upd b (.cells (cs.take off++e.cells.toList++cs.drop (off+sz)).toArray t (0,0))) E hg R hv W (by
  obtain⟨t',X,Y,O,_⟩:=Fc g;rw[O];rfl) (fun v u' m' hK=>.inr (.inr (.inl hw))) (fun w J=>?_) (fun v u' m' a2 hK=>?_)
 ·obtain⟨t',X,Y,H,O,e3,ht⟩:=Fc g;obtain⟨N,a6,L,pos,after,n⟩:=o;simp only at H;subst H;rw[Azg]at Q;have V:=J.pm b _ hb;have F:=run_storeCells_at P b off t e.cells.toList 0 cs.toArray w V (by simp[T];omega) (fun x j=>F9 (Q x j));simp only[A1r,A1m,T,A09]at F;have C:∀ x∈(cs.take off++e.cells.toList++cs.drop (off+sz)).toArray.toList,Az x=true:=by
   intro x j;simp only[A09,Ay5]at j;rcases j with (j|j)|j
   ·exact ho x (A0o j)
   ·exact Q x j
   exact ho x (A1v j)
  obtain⟨g1,g2⟩:=J.setM hb C;unfold Eb;have U:(execOp (Cn s) ⟨N,.store t' X Y,L,pos,after,n⟩).run P w=.ok .skip (w.setRow b (cs.take off++e.cells.toList++cs.drop (off+sz)).toArray):=by
   simp only[execOp,O,e3];simp only[Azm]at F⊢;simp[Instr.storeAt,Instr.sureAddr,storeVar,Bj ht,T,F]
  rw[U];exact⟨u,_,g1,g2,rfl,rfl⟩
 obtain⟨rfl,rfl⟩:=hK;rw[I];exact .nil k
end
def Aun {m:PH}{g:Nat}{o:Obj}(h:m g=some o):m.upd g o=m:=by
 funext k
 by_cases e:k=g
 ·subst e;rw[Ab,h]
 rw[Ad _ _ e]
def Aqu (st:List KI×S)(d0 d1:Nat):Bool:=match st with
 |(.code (.region _ ops true)::_,s)=>Ai9 ops s [] [0,1,2,3] []&&bef ops ops.size 2 0&&bef ops ops.size 3 0&&bef ops ops.size 3 1&&bef ops ops.size 3 2&&decide ((ops[0]?).bind (·.dst)=some d0/\(ops[1]?).bind (·.dst)=some d1/\(ops[2]?).bind (·.dst)=none/\(ops[3]?).bind (·.dst)=none)&&decide (d0≠d1) &&
  M4 ops 2 ((ops[2]?.getD default).op)&&M4 ops 3 ((ops[3]?.getD default).op)
 |_=>false
def atS (l:List Nat)(st:List KI×S)(f:S->S):List KI×S:=match st with
 |(.code (.region id ops true)::k,s)=>(.reg id ops true l::k,f s)
 |_=>st
section rules
variable {P:Program} [A5 P] {fn:Func} {Post:By} {st:List KI×S} {u m:PH}
def G.back2 (d0 F:Nat)(k0 k1:Option Nat)(L I:Nat)(t0 t1:TypeId)(g E:Value)(n0 n1:Nat)(h:Aqu (adv P st) d0 F=true)
 (H0:∀ x,Aj P (atS [0] (adv P st) (fun s=>s.put (some F) x))=.load (some k0) (.pointer (some ⟨L,0,none⟩))) (X:∀ x,Aj P (atS [1] (adv P st) (fun s=>s.put (some d0) x))=.load (some k1) (.pointer (some ⟨I,0,none⟩)))
 (H2:∀ x,Aj P (atS [2] (adv P st) (fun s=>(s.put (some d0) (.v g)).put (some F) x))=.store (some n0) (.pointer (some ⟨L,0,none⟩)) g) (H3:Aj P (atS [3] (adv P st) (fun s=>(s.put (some d0) (.v g)).put (some F) (.v E)))=.store (some n1) (.pointer (some ⟨I,0,none⟩)) E)
 (a5:W4 k0 g=true) (W:W4 k1 E=true) (O:m L=some (.cells g.cells t0 (0,0))) (K:m I=some (.cells E.cells t1 (0,0))) (a2:g.cells.size=n0) (a3:E.cells.size=n1) (a0:g.cells.toList.all Az=true) (a1:E.cells.toList.all Az=true)
 (k:G P fn Post (atS [] (adv P st) (fun s=>(s.put (some d0) (.v g)).put (some F) (.v E))) u m):G P fn Post st u m:=by
 refine G.stp ⟨?_⟩;generalize adv P st=st' at h H0 X H2 H3 k;unfold Aqu at h;split at h
 ·rename_i id ops kk s;simp only[Azb]at h;obtain⟨⟨⟨⟨⟨⟨⟨⟨h1,Y⟩,ab⟩,a7⟩,N⟩,hd⟩,V⟩,w2⟩,w3⟩:=h;obtain⟨Z,U,a8,a9⟩:=of_decide_eq_true hd;have V:=of_decide_eq_true V;simp only[atS]at H0 X H2 H3 k;have J:∀ (b:Nat) (t:TypeId) (e:Value),m b=some (.cells e.cells t (0,0))->ElP m b 0 e:=fun b t e hb i x hi=>⟨_,_,_,hb,by simpa using hi⟩;have R:∀ e:Value,e.cells.toList.all Az=true->∀ x∈e.cells.toList,Az x=true:=fun e h=>by rwa[Azg]at h
  have T:∀ (b:Nat) (t:TypeId) (e:Value) (n:Nat),e.cells.size=n->m b=some (.cells e.cells t (0,0))->m.upd b (.cells (e.cells.toList.take 0++e.cells.toList++e.cells.toList.drop (0+n)).toArray t (0,0))=m:=fun b t e n hn hb=>by
   rw[Az1 (by rw[A1m,hn];omega)];simp only[A14,A00,Azl,A35];exact Aun hb
  have Q:∀ s:S,s=s.put (some F) (s.tm F):=fun s=>S.ext' rfl (funext fun t=>by
   by_cases e:t=F
   ·subst e;rw[A4]
   rw[Ck _ _ _ e]) rfl
  have a6:∀ s:S,s=s.put (some d0) (s.tm d0):=fun s=>S.ext' rfl (funext fun t=>by
   by_cases e:t=d0
   ·subst e;rw[A4]
   rw[Ck _ _ _ e]) rfl
  have pc:∀ (s:S) (x y:SV),(s.put (some F) y).put (some d0) x=(s.put (some d0) x).put (some F) y:=fun s x y=>Aed s y x (fun j hj=>by cases hj;intro e;cases e;exact V rfl);have pp:∀ (s:S) (x y:SV),(s.put (some F) x).put (some F) y=s.put (some F) y:=fun s x y=>S.ext' rfl (funext fun t=>by
   by_cases e:t=F
   ·subst e;rw[A4,A4]
   rw[Ck _ _ _ e,Ck _ _ _ e,Ck _ _ _ e]) rfl
  have ac:∀ (s:S) (x y:SV),(s.put (some d0) x).put (some d0) y=s.put (some d0) y:=fun s x y=>S.ext' rfl (funext fun t=>by
   by_cases e:t=d0
   ·subst e;rw[A4,A4]
   rw[Ck _ _ _ e,Ck _ _ _ e,Ck _ _ _ e]) rfl
  have s2:∀ {Fin:S->PH->PH->Prop} (x:SV),Fin ((s.put (some d0) (.v g)).put (some F) x) u m->Ob P id ops true Fin [2] ((s.put (some d0) (.v g)).put (some F) x) u m:=fun {Fin} x hk =>
   Ob.storeO n0 L 0 t0 g.cells.toList g (H2 x) a8 w2 (by simpa using O) (R g a0) (by rw[A1m];omega) a2 a0 (by rw[T L t0 g n0 a2 O];exact hk)
  have n3:O7 P id ops [] (Fw P fn Post kk) 1 [3] ((s.put (some d0) (.v g)).put (some F) (.v E)) u m:=fun a H _=>by
   simp only[Ay7,A0b,or_false]at H;subst H;rw[A03];refine Ob.storeO n1 I 0 t1 E.cells.toList E H3 a9 w3 (by simpa using K) (R E a1) (by rw[A1m];omega) a3 a1 ?_;rw[T I t1 E n1 a3 K];exact k.out
  have a4:O7 P id ops [] (Fw P fn Post kk) 2 [2,3] ((s.put (some d0) (.v g)).put (some F) (.v E)) u m:=fun a H C=>by
   simp only[Ay7,A0b,or_false]at H;rcases H with rfl|rfl
   ·rw[A03];exact s2 _ n3
   have:=C 2 mV fV;rw[N]at this;cases this
  have aa:O7 P id ops [] (Fw P fn Post kk) 2 [1,3] (s.put (some d0) (.v g)) u m:=fun a H C=>by
   simp only[Ay7,A0b,or_false]at H;rcases H with rfl|rfl
   ·rw[A03];exact Ob.loadO k1 I 0 E (X _) U W (J I t1 E K) n3
   have:=C 1 mV fV;rw[a7]at this;cases this
  refine Sym.reg_tree A5.mx h1 (.nil ?_);show O7 P id ops [] (Fw P fn Post kk) 4 [0,1,2,3] s u m;intro a H C;simp only[Ay7,A0b,or_false]at H;rcases H with rfl|rfl|rfl|rfl
  ·rw[show [0,1,2,3].erase 0 = [1,2,3] from rfl,Q s];refine Ob.loadO k0 L 0 g (H0 _) Z a5 (J L t0 g O) ?_;rw[<-Q s];intro a H C;simp only[Ay7,A0b,or_false]at H;rcases H with rfl|rfl|rfl
   ·rw[show [1,2,3].erase 1 = [2,3] from rfl];exact Ob.loadO k1 I 0 E (X _) U W (J I t1 E K) a4
   ·rw[show [1,2,3].erase 2 = [1,3] from rfl,Q (s.put (some d0) (.v g))];refine s2 _ ?_;rw[<-Q (s.put (some d0) (.v g))];exact aa
   have:=C 2 mV fV;rw[N]at this;cases this
  ·rw[show [0,1,2,3].erase 1 = [0,2,3] from rfl,a6 s];refine Ob.loadO k1 I 0 E (X _) U W (J I t1 E K) ?_;rw[<-a6 s];intro a H C;simp only[Ay7,A0b,or_false]at H;rcases H with rfl|rfl|rfl
   ·rw[show [0,2,3].erase 0 = [2,3] from rfl];refine Ob.loadO k0 L 0 g (H0 _) Z a5 (J L t0 g O) ?_;rw[pc];exact a4
   ·have:=C 0 mV fV;rw[Y]at this;cases this
   have:=C 2 mV fV;rw[N]at this;cases this
  ·have:=C 0 mV fV;rw[Y]at this;cases this
  have:=C 2 mV fV;rw[N]at this;cases this
 cases h
end rules
end
section
variable {es:List Value}{g i:Nat}{l:List Arr}{t:TypeId}
def Qb (g:Nat)(t:TypeId)(es:List Value):Arr:=⟨.slice (some ⟨g,0,none⟩) es.length es.length,t,1,es⟩
def Ti (es:List Value):Prop:=∀ x∈es,Az x=true/\x.cells = #[x]
def Abc {m:PH}(j:m g=none)(e:Ti es):(Qb g t es).At m (m.upd g (.cells es.toArray t (0,0))):=by
 refine⟨An6 e,.inr ⟨g,es.length,[],j,?_,rfl,Ay2 _,?_,mV⟩⟩
 ·show _=m.upd g (.cells (A6 es++[]).toArray t (0,0));rw[Lq fun x h=>(e x h).2,Azl]
 show (A6 es++[]).length=es.length*1;rw[Lq fun x h=>(e x h).2,Azl,A38]
def Ah9 {m0 m:PH}(h:(Qb g t es).At m0 m)(H:Ti es)(N:es≠[]):m0 g=none/\m=m0.upd g (.cells es.toArray t (0,0)):=by
 rcases h.2 with ⟨h,_,_⟩|⟨L,cap,rest,E,e,n,J,j,_⟩
 ·cases h
 simp only[Qb,Value.slice.injEq,Ayz,Addr.mk.injEq]at n;obtain⟨⟨rfl,_,_⟩,_,rfl⟩:=n;simp only[Qb]at e j;rw[Lq fun x I=>(H x I).2]at e j;have:rest = []:=by
  refine A0a ?_;rw[Ay3]at j;omega
 subst this;rw[Azl]at e;exact⟨E,e⟩
def Ml {m:PH}(h:Bag m l)(hi:l[i]?=some (Qb g t es))(n:Ti es)(j:es≠[]):m g=some (.cells es.toArray t (0,0)):=by
 obtain⟨m0,e,_⟩:=h.focus i hi;rw[(Ah9 e n j).2,Ab]
def Lh {m:PH}{i g j:Nat}{x:Value}(h:Bag m l)(hi:l[i]?=some (Qb g t es))(e:es[j]?=some x):ElP m g (0+j*1) x:=h.el i hi rfl e
def Abq {m:PH}(h:Bag m l)(hi:l[i]?=some (Qb g t es))(E:Ti es)(n:es≠[]):ElP m g 0 (.agg es.toArray):=fun j x e=>by
 refine⟨_,_,_,Ml h hi E n,?_⟩;simpa[Value.cells] using e
section
variable [Cc] [Cm] {P:Program} [A5 P] {fn:Func} {Post:By} {st:List KI×S} {u m:PH}
def G.storeOne {l:List Arr}(i g:Nat)(t:TypeId)(n:Nat)(es:List Value)(e:Value)(h:Aj P (adv P st)=.store (some n) (.pointer (some ⟨g,0,none⟩)) e)(U:Bag m l)(hi:l[i]?=some (Qb g t es))(J:Ti es)(W:es≠[])(X:es.length=n)(V:e.cells.size=n)(I:Ti e.cells.toList)
 (k:∀ L,Bag L (l.set i (Qb g t e.cells.toList))->G P fn Post (nx (adv P st) undef) u L):G P fn Post st u m:=by
 obtain⟨m0,Q,j⟩:=U.focus i hi;obtain⟨N,H⟩:=Ah9 Q J W;refine G.storeM n g 0 t es e h (by rw[H,Ab]) (fun x E=>(J x E).1) oV V (Azg.2 fun x E=>(I x E).1) ?_;have O:m.upd g (.cells (es.take 0++e.cells.toList++es.drop (0+n)).toArray t (0,0))=m0.upd g (.cells e.cells.toList.toArray t (0,0)):=by
  rw[H,Cw,Az1 oV];simp
 rw[O];exact k _ (j _ _ (Abc N I))
end
def An9:Value:=.agg #[.slice none 0 0,.slice none 0 0,.slice none 0 0]
def Ave (F:List Am)(C:CF)(k:Nat)(q:Rat)(r:Value)(u m:PH):Prop :=
 (∃ e:Int,r=.tuple #[An9,.int .i64 e]/\(e=12/\k=0\/e=3/\k≠0/\∃ P,Iy F C P/\11<P.length)) \/
 (k≠0/\∃ (P:List Par) (pa:Option Addr) (pc:Nat) (xa:Option Addr) (xc:Nat) (ra:Option Addr) (rc:Nat) (rows:List (Value×List Value)),Iy F C P/\P.length<=11 /\
  r=.tuple #[.agg #[.slice pa P.length pc,.slice xa (P.length+1) xc,.slice ra (P.length+1) rc],.int .i64 0]/\Ac u (.slice pa P.length pc) 2 (P.map Aq)/\rows.map (·.2)=(G9 q (Ud C P) (P.length+1)).map txV /\
  Bag m (E7 (.slice ra (P.length+1) rc,txV ((Ah P).map (Au C)))::oT (.slice xa (P.length+1) xc) rows::rows.map E7))
def Hi {a b c:Option Addr}{E h H j I n:Nat}:Ti [.slice a E h,.slice b H j,.slice c I n]:=fun x e=>by
 simp only[Ay7,A0b,or_false]at e;rcases e with rfl|rfl|rfl<;>exact⟨rfl,rfl⟩
def F5 {z:Int}:Ti [.int .i64 z]:=fun x e=>by
 simp only[Ay7,A0b,or_false]at e;subst e;exact⟨rfl,rfl⟩
def Ajg {m:PH}{h j:Nat}{e:Int}(n:j≠h)(E:e≠0)(H:m j=some (.cells #[.int .i64 e] 40 (0,0))):ElP (K1 m h e) h 0 An9/\ElP (K1 m h e) j 0 (.int .i64 e):=by
 unfold K1;rw[if_neg E];refine⟨fun i x hi=>⟨_,_,_,Ab _ _ _,by simpa[An9,Value.cells] using hi⟩,fun i x hi=>⟨#[.int .i64 e],_,_,by rw[Ad _ _ n,H],by simpa[Value.cells] using hi⟩⟩
section
variable {u:PH} {v cv:Value} {T:List (List UInt8×Nat)} {R:List Bu} {F:List Am} {lab:Int} {C:CF} {K k:Nat} {q:Rat}
def Ko.cellDe (h:Ko u v cv T R F lab C K k)(e f:Option Par):De 75 18 (Ar C e f):=by
 cases e<;>cases f
 ·show De 75 18 C.c;rw[h.mom.c];exact (De.nat (a:=2) (by have:=h.mom.lt;omega)).mono oV oV
 ·exact h.mom.s _
 ·exact h.mom.s _
 exact h.mom.t _
def Ag8 (ht:Js u)(h:Ko u v cv T R F lab C K k)(hq:Aem q) :
 Ag prog 36 [v,cv,.string (mkS (Ae q))] u PH.mt fun r u' Y=>Ave F C k q r u' Y:=by
 have ax:=Zd h hq;have ay:=h.cellDe;obtain⟨xa,xc,xb,xd,xe,xf,rfl,_⟩:=id h.sch;obtain⟨a1,n1,c1,a2,n2,c2,rfl⟩:=id h.cof.opn;have ap:=h.p24;refine Ag.o func36<|G.go 7<|G.pub 2 88 [.slice none 0 0,.slice none 0 0,.slice none 0 0] kV kV ?_;intro H b7 az;refine G.pub 3 40 [.int .i64 0] kV kV ?_;intro N b4 a3;have ag:Bag ((PH.mt.upd H (.cells #[.slice none 0 0,.slice none 0 0,.slice none 0 0] 88 (0,0))).upd N (.cells #[.int .i64 0] 40 (0,0))) [Qb N 40 [.int .i64 0],Qb H 88 [.slice none 0 0,.slice none 0 0,.slice none 0 0]] :=
  ⟨_,Abc a3 F5,PH.mt,Abc az Hi,trivial⟩
 have ak:N≠H:=fun e=>by rw[e,Ab]at a3;cases a3
 refine G.go 1<|G.off (d:=9) (fn:=.func 80) (vs:=[.pointer (some ⟨N,0,none⟩),.pointer (some ⟨H,0,none⟩)]) kV kV kV ?_;obtain⟨B,hB⟩:∃ B:Cm,B=⟨[Yj (.func 80) [.pointer (some ⟨N,0,none⟩),.pointer (some ⟨H,0,none⟩)]]⟩:=⟨_,rfl⟩;rw[<-hB];have ab:B.dl = [Yj (.func 80) [.pointer (some ⟨N,0,none⟩),.pointer (some ⟨H,0,none⟩)]]:=by subst hB;rfl
 clear hB;have a4:∀ w,(invoke (Yj (.func 80) [.pointer (some ⟨N,0,none⟩),.pointer (some ⟨H,0,none⟩)]).target (Yj (.func 80) [.pointer (some ⟨N,0,none⟩),.pointer (some ⟨H,0,none⟩)]).args).run prog w=.ok (.enter 80 [Value.pointer (some ⟨N,0,none⟩),.pointer (some ⟨H,0,none⟩)].toArray) w:=fun w=>by
  simp[invoke,Yj]
 refine G.callO _ _ kV call81 ax ?_;rintro v1 u1 mc l1 ⟨P,pa,pc,V,O,Z,rc,E,a7,rfl,hL,n,I⟩ a6;have b3:=ap P a7;have a9:=Bag.perm (A6m) (Bag.or ag I a6);rw[A11,A11,A00]at a9;clear ag I a6;refine G.storeOne 1 H 88 3 [.slice none 0 0,.slice none 0 0,.slice none 0 0] (.agg #[.slice pa P.length pc,.slice V (P.length+1) O,.slice Z (P.length+1) rc]) kV a9 rfl Hi mV rfl rfl Hi ?_;intro m3 ah;refine G.storeOne 0 N 40 1 [.int .i64 0] (.int .i64 (if k=0 then 12 else 0)) kV ah rfl F5 mV rfl rfl F5 ?_;intro m4 L;clear a9 ah;simp only[A0i,A0p,Value.cells]at L;refine G.loadM none N 0 (.int .i64 (if k=0 then 12 else 0)) kV rfl (Lh (j:=0) L (i:=0) rfl rfl) ?_;by_cases h0:k=0
 ·rw[if_pos h0]at L⊢;refine G.nT 12 0 ?_;have W:=Ml L (i:=1) rfl Hi mV;have U:=Ml L (i:=0) rfl F5 mV;refine G.back2 19 20 (some 3) none H N 88 40 (.agg #[.slice pa P.length pc,.slice V (P.length+1) O,.slice Z (P.length+1) rc]) (.int .i64 12) 3 1 kV (fun _=>kV) (fun _=>kV) (fun _=>kV) kV rfl rfl W U rfl rfl rfl rfl<|G.retD ab (K:=fun u' Y=>u'=u1/\Y=K1 m4 H 12) rfl a4 kV (Ahz U W rfl rfl rfl) ?_;rintro u' Y _ ⟨rfl,rfl⟩;obtain⟨q1,q2⟩:=Ajg (e:=12) ak fV U;exact⟨[An9,.int .i64 12],PH.mt,⟨.inr ⟨6,88,H,0,some 3,rfl,kV,kV,rfl,q1⟩,.inr ⟨7,40,N,0,none,rfl,kV,kV,rfl,q2⟩,trivial⟩,PH.mt_le _,.inl ⟨12,rfl,.inl ⟨rfl,h0⟩⟩⟩
 rw[if_neg h0]at L⊢;refine G.nF 0 0<|G.f 88 H 0 1 1<|G.loadM none H (0+1) (.slice V (P.length+1) O) kV rfl (Lh (j:=1) L (i:=1) rfl rfl) ?_;by_cases b5:P.length+1>12
 ·refine G.gT (P.length+1:Nat) 12<|G.loadM (some 3) H 0 (.agg #[.slice pa P.length pc,.slice V (P.length+1) O,.slice Z (P.length+1) rc]) kV rfl (Abq L (i:=1) rfl Hi mV)<|G.storeOne 1 H 88 3 _ (.agg #[.slice pa P.length pc,.slice V (P.length+1) O,.slice Z (P.length+1) rc]) kV L rfl Hi mV rfl rfl Hi ?_;intro m5 aw;refine G.storeOne 0 N 40 1 [.int .i64 0] (.int .i64 3) kV aw rfl F5 mV rfl rfl F5 ?_;intro m6 a0;simp only[A0i,A0p,Value.cells]at a0;have W:=Ml a0 (i:=1) rfl Hi mV;have U:=Ml a0 (i:=0) rfl F5 mV;refine G.retD ab (K:=fun u' Y=>u'=u1/\Y=K1 m6 H 3) rfl a4 kV (Ahz U W rfl rfl rfl) ?_;rintro u' Y _ ⟨rfl,rfl⟩;obtain⟨q1,q2⟩:=Ajg (e:=3) ak fV U;exact⟨[An9,.int .i64 3],PH.mt,⟨.inr ⟨6,88,H,0,some 3,rfl,kV,kV,rfl,q1⟩,.inr ⟨7,40,N,0,none,rfl,kV,kV,rfl,q2⟩,trivial⟩,PH.mt_le _,.inl ⟨3,rfl,.inr ⟨rfl,h0,P,a7,oV⟩⟩⟩
 refine G.gF (P.length+1:Nat) 12<|G.f 88 H 0 0 0<|G.loadM none H (0+0) (.slice pa P.length pc) kV rfl (Lh (j:=0) L (i:=1) rfl rfl) ?_;have hX:=Wo C P;generalize af:Ud C P=X at n hX;have av:∀ i j,i<P.length+1->j<P.length+1->De 75 18 (en X i j):=fun i j hi hj=>by rw[<-af,Aj8 C P hi hj];exact ay _ _
 refine G.l (ι:=Nat×List (Value×List Value)) (fun i=>[(2,tV (Ae q)),(6,.v (.pointer (some ⟨H,0,none⟩))),(7,.v (.pointer (some ⟨N,0,none⟩))),(28,iV P.length),(29,iV i.1)]) (fun _=>[])
  (fun i u' Y=>i.1<=P.length/\i.2.map (·.2)=(G9 q X (i.1+1)).map txV/\Bag Y (Qb N 40 [.int .i64 0]::Qb H 88 [.slice pa P.length pc,.slice V (P.length+1) O,.slice Z (P.length+1) rc]::E7 (.slice Z (P.length+1) rc,txV ((Ah P).map (Au C)))::oT (.slice V (P.length+1) O) i.2::i.2.map E7)) (fun i=>P.length-i.1)
  (0,E) ⟨Azh _,n,L⟩ ?_
 clear L n;rintro J ⟨i,E⟩ hJ u5 m5 l5 ⟨hi,n,I⟩;simp only at hi n I hJ;obtain⟨mE,hE,mN,hN,hR⟩:=id I;have ac:PH.le mN m5:=(Aiz hN).trans (Aiz hE);have a8:=Rm (q:=q) hX (i+1) oV;by_cases b8:i<P.length
 ·refine G.lT i P.length ?_;have b1:E.length=P.length+1:=by have:=congrArg List.length n;rw[Ayt,Ayt,a8.1]at this;exact this
  obtain⟨go,co,eo⟩:=hR.ptr 1 rfl (fun e=>by
   have:(E.map (·.1)).length=0:=by rw[show E.map (·.1) = [] from e];rfl
   rw[Ayt]at this;omega)
  have ao:(Value.slice V (P.length+1) O)=.slice (some ⟨go,0,none⟩) (P.length+1) co:=by
   have e1:(oT (.slice V (P.length+1) O) E).v=Value.slice V (P.length+1) O:=rfl;rw[e1]at eo;rw[eo];have:(oT (.slice V (P.length+1) O) E).es.length=P.length+1:=by show (E.map (·.1)).length=_;rw[Ayt,b1]
   rw[this]
  cases ao;obtain⟨gi,ci,am,e1,e2⟩:=Ayg hR n a8 (show i+1<P.length+1 by omega);have aj:gR (gM (G9 q X (i+1)) (i+1)) (i+1)=en X (i+1) (i+1):=by
   have:=Abh (q:=q) hX (i+1) oV (i+1) (i+1) oV oV;rw[if_neg oV]at this;show en (G9 q X (i+1)) (i+1) (i+1)=_;rw[this];grind
  have hd:=av (i+1) (i+1) oV oV;have ad:=e2 (i+1) oV;rw[aj]at ad;have a5:ElP m5 H (0+1) (.slice (some ⟨go,0,none⟩) (P.length+1) O):=Lh (j:=1) I (i:=1) rfl rfl;refine G.f 88 H 0 1 1<|G.loadM none H (0+1) (.slice (some ⟨go,0,none⟩) (P.length+1) O) kV rfl a5<|G.i i<|G.a go 0 (P.length+1) O (i+1) 1 oV<|G.loadM none go (0+(i+1)*1) (.slice (some ⟨gi,0,none⟩) (P.length+1) ci) kV rfl (e1.mono ac)<|G.i i<|G.f 88 H 0 1 1<|G.loadM none H (0+1) (.slice (some ⟨go,0,none⟩) (P.length+1) O) kV rfl a5<|G.i i<|G.a go 0 (P.length+1) O (i+1) 1 oV<|G.loadM none go (0+(i+1)*1) (.slice (some ⟨gi,0,none⟩) (P.length+1) ci) kV rfl (e1.mono ac)<|G.i i<|G.a gi 0 (P.length+1) ci (i+1) 1 oV<|G.loadM none gi (0+(i+1)*1) (.string (mkS (Ae (en X (i+1) (i+1))))) kV rfl (ad.mono ac) ?_;have ha:=hd.add hq.de (f:=78) oV oV;refine G.c call82 (As9 ((ht.mono l1).mono l5) (hd.tx oV oV oV oV) hq.tx (ha.tx oV oV oV oV)) ?_;rintro v6 u6 l6 rfl;refine G.a gi 0 (P.length+1) ci (i+1) 1 oV ?_;obtain⟨m0,an,al⟩:=I.focus (i+5) (x:=E7 (.slice (some ⟨gi,0,none⟩) (P.length+1) ci,txV (gM (G9 q X (i+1)) (i+1)))) (by simp[am]);rw[Om]at an;have b6:(txV (gM (G9 q X (i+1)) (i+1))).length=P.length+1:=by rw[Hx,a8.2 (i+1) oV]
  refine G.storeA 1 m0 (txV (gM (G9 q X (i+1)) (i+1))) gi (P.length+1) ci (i+1) (.string (mkS (Ae (en X (i+1) (i+1)+q)))) kV an oV rfl rfl ?_;intro m7 ae;have es:(txV (gM (G9 q X (i+1)) (i+1))).set (i+1) (.string (mkS (Ae (en X (i+1) (i+1)+q))))=txV ((gM (G9 q X (i+1)) (i+1)).set (i+1) (gR (gM (G9 q X (i+1)) (i+1)) (i+1)+q)):=by
   rw[aj];unfold txV;rw[A1d]
  rw[es]at ae;have Q:=al (E7 (.slice (some ⟨gi,0,none⟩) (P.length+1) ci,txV ((gM (G9 q X (i+1)) (i+1)).set (i+1) (gR (gM (G9 q X (i+1)) (i+1)) (i+1)+q)))) m7 ae;have ai:Bag m7 (Qb N 40 [.int .i64 0]::Qb H 88 [.slice pa P.length pc,.slice (some ⟨go,0,none⟩) (P.length+1) O,.slice Z (P.length+1) rc]::E7 (.slice Z (P.length+1) rc,txV ((Ah P).map (Au C))) ::
   oT (.slice (some ⟨go,0,none⟩) (P.length+1) O) (E.set (i+1) (.slice (some ⟨gi,0,none⟩) (P.length+1) ci,txV ((gM (G9 q X (i+1)) (i+1)).set (i+1) (gR (gM (G9 q X (i+1)) (i+1)) (i+1)+q))))::(E.set (i+1) (.slice (some ⟨gi,0,none⟩) (P.length+1) ci,txV ((gM (G9 q X (i+1)) (i+1)).set (i+1) (gR (gM (G9 q X (i+1)) (i+1)) (i+1)+q)))).map E7):=by
   rw[Au6 am,A1d];simpa using Q
  refine G.storeOne 0 N 40 1 [.int .i64 0] (.int .i64 0) kV ai rfl F5 mV rfl rfl F5 ?_;intro m8 aa;simp only[A0p,Value.cells]at aa;refine G.loadM none N 0 (.int .i64 0) kV rfl (Lh (j:=0) aa (i:=0) rfl rfl)<|G.nF 0 0<|G.i i<|G.b (hJ (i+1,E.set (i+1) (.slice (some ⟨gi,0,none⟩) (P.length+1) ci,txV ((gM (G9 q X (i+1)) (i+1)).set (i+1) (gR (gM (G9 q X (i+1)) (i+1)) (i+1)+q)))) _ _ _ cV (l5.trans l6) ⟨dV,?_,aa⟩ dV);dsimp only;rw[A1d,n,<-A1d];rfl
 obtain rfl:i=P.length:=oV
 refine G.lF P.length P.length<|G.loadM (some 3) H 0 (.agg #[.slice pa P.length pc,.slice V (P.length+1) O,.slice Z (P.length+1) rc]) kV rfl (Abq I (i:=1) rfl Hi mV)<|G.storeOne 1 H 88 3 _ (.agg #[.slice pa P.length pc,.slice V (P.length+1) O,.slice Z (P.length+1) rc]) kV I rfl Hi mV rfl rfl Hi ?_;intro m6 a0;refine G.storeOne 0 N 40 1 [.int .i64 0] (.int .i64 0) kV a0 rfl F5 mV rfl rfl F5 ?_;intro m7 Q;simp only[A0i,A0p,Value.cells]at Q;have W:=Ml Q (i:=1) rfl Hi mV;have U:=Ml Q (i:=0) rfl F5 mV;refine G.retD ab (K:=fun u' Y=>u'=u5/\Y=K1 m7 H 0) rfl a4 kV (Ahz U W rfl rfl rfl) ?_;intro u' Y _ hK;have b0:Y=m7:=hK.2.trans (if_pos rfl);rw[hK.1,b0];obtain⟨b9,aq,b2,ar,au⟩:=id Q;have q1:=Abq Q (i:=1) rfl Hi mV;have q2:=Lh (j:=0) Q (i:=0) rfl rfl;exact⟨[.agg #[.slice pa P.length pc,.slice V (P.length+1) O,.slice Z (P.length+1) rc],.int .i64 0],b2,⟨.inr ⟨6,88,H,0,some 3,rfl,kV,kV,rfl,q1⟩,.inr ⟨7,40,N,0,none,rfl,kV,kV,rfl,q2⟩,trivial⟩,(Aiz ar).trans (Aiz aq),
  .inr ⟨h0,P,pa,pc,V,O,Z,rc,E,a7,oV,rfl,hL.mono l5,by rw[af];exact n,au⟩⟩
end
end
section
variable {m0:Rat}{qs:List Rat}
def Aky {u:PH}{q:Rat}(h:Tx q):Fn0 prog 142 [.string (mkS (Ae q))] u fun v _=>v=.bool false:=by
 refine Fn0.o func142<|G.c call143 (Eo h) ?_;rintro j g e rfl;exact G.r (.bool false) ⟨rfl,rfl⟩
def Alp {u:PH}{pv lv:Value}{P:List Par}(W:Ac u pv 2 (P.map Aq))(H:Dc u lv ((m0::qs).map Ae))(hs:Ez Bf P)(E:qs.length=P.length)(hl:P.length<=1000)(h0:Tx m0)(hT:∀ q∈qs,Tx q) :
 Fn0 prog 69 [pv,lv] u fun r u'=>∃ mv,r=.tuple #[mv,.int .i64 0]/\M5 u' mv m0 (P.zip qs):=by
 have n:=Ut W hs oV;obtain⟨a,c,rfl⟩:=W.opn;obtain⟨la,lc,rfl⟩:=Ac.opn H;have hn:(D6 ((m0::qs).map Ae)).length=P.length+1:=by rw[Cr,Ayt,A0q,E]
 rw[Ayt]at W n⊢;rw[hn]at H⊢;have Z:∀ i q,(m0::qs)[i]?=some q->Tx q:=fun i q hq=>by
  rcases Ay7.1 (Ay9 hq) with rfl|h
  ·exact h0
  exact hT q h
 refine Fn0.o func69<|G.c call91 n ?_;rintro v1 u1 l1 rfl;refine G.p P.length 1 (P.length+1:Nat)<|G.nF (P.length+1:Nat) (P.length+1:Nat)<|G.c call141 (Kz (fid:=142) (Ac.mono H l1) (by rw[Ayt,A0q,E];omega) call142 (fun t ht u' _=>?_)) ?_
 ·obtain⟨q,a1,rfl⟩:=Ayx.1 ht;obtain⟨i,hi⟩:=List.mem_iff_getElem?.1 a1;exact Aky (Z i q hi)
 rintro v2 u2 l2 rfl;have Q:=l1.trans l2;obtain⟨b,o,rfl,e⟩:=Ac.at' (Ac.mono H Q) (j:=0) (e:=.string (mkS (Ae m0))) rfl;refine G.a b o (P.length+1) lc 0 1 oV<|G.lU none b (o+0*1) (.string (mkS (Ae m0))) e<|G.l (ι:=Nat×(Option Addr×Nat)) (fun i=>[(1,sV (some ⟨b,o,none⟩) (P.length+1) lc),(4,.p 0 0),(6,.p 7004 0),(30,sV a P.length c),(31,iV P.length),(32,iV i.1)]) (fun i=>[(0,⟨44,[tV [],sV none 0 0]⟩),(7004,⟨44,[tV (Ae m0),sV i.2.1 i.1 i.2.2]⟩)])
  (fun i u' m'=>i.1<=P.length/\Af PH.mt m' (.slice i.2.1 i.1 i.2.2) 65 3 (((P.zip qs).take i.1).map As)) (fun i=>P.length-i.1) (0,none,0) ⟨oV,Af.nil _ _ _⟩ ?_
 rintro J ⟨i,pa,pc⟩ hJ u3 m3 l3 ⟨a0,V⟩;simp only at a0 V hJ;have U:=Q.trans l3;have O:(P.zip qs).length=P.length:=by rw[List.length_zip];omega
 by_cases I:i<P.length
 ·refine G.lT i P.length ?_;obtain⟨p,L⟩:∃ p,P[i]?=some p:=⟨_,Ayr I⟩;obtain⟨q,N⟩:∃ q,qs[i]?=some q:=⟨_,Ayr oV⟩;have hz:(P.zip qs)[i]?=some (p,q):=by rw[List.getElem?_zip_eq_some];exact⟨L,N⟩
  have a2:(P.zip qs).take (i+1)=(P.zip qs).take i++[(p,q)]:=by rw[Aze,hz];rfl
  obtain⟨bp,op,rfl,ep⟩:=Ac.at' (W.mono U) (j:=i) (e:=Aq p) (by simp[L]);obtain⟨X,Y⟩:=p;refine G.a bp op P.length c i 2 I<|G.lU (some 2) bp (op+i*2) (.agg #[.int .i64 X,.string (mkS Y)]) ep ?_;obtain⟨b2,o2,e0,e2⟩:=Ac.at' (Ac.mono H U) (j:=i+1) (e:=.string (mkS (Ae q))) (by unfold D6;rw[Ayy,Ayy,A2k,N];rfl);cases e0;refine G.i i<|G.a b o (P.length+1) lc (i+1) 1 oV<|G.lU none b (o+(i+1)*1) (.string (mkS (Ae q))) e2<|G.B 65 3 40 (.agg #[.int .i64 0,.string (mkS []),.string (mkS [])]) [As ((X,Y),q)] (H6 _) ?_;intro g4 u4 l4 e4;refine G.k 65 3 40 (.agg #[.int .i64 0,.string (mkS []),.string (mkS [])]) PH.mt (((P.zip qs).take i).map As) [As ((X,Y),q)] (.slice pa i pc) g4 0 1 1 V e4 (H6 _) ?_;intro v5 m5 m;have e6:((P.zip qs).take i).map As++[As ((X,Y),q)]=((P.zip qs).take (i+1)).map As:=by rw[a2];simp
  rw[e6]at m;obtain⟨a5,c5,rfl⟩:=m.shape;have el:(((P.zip qs).take (i+1)).map As).length=i+1:=by rw[Ayt,Ay1];omega
  rw[el]at m⊢;exact G.i i<|G.b (hJ (i+1,a5,c5) _ _ _ cV (l3.trans l4) ⟨dV,m⟩ dV)
 obtain rfl:i=P.length:=oV;refine G.lF P.length P.length ?_;rw[Ay6 oV]at V;refine G.give _ _ _ kV V (fun g=>.inl rfl) ?_;intro u6 l6 hF;exact G.r (.tuple #[.agg #[.string (mkS (Ae m0)),.slice pa P.length pc],.int .i64 0]) ⟨rfl,_,rfl,⟨pa,pc,by rw[O],by rw[O];exact hF⟩⟩
section
variable {P:List Par} {C:CF} {q:Rat}
def Atc (J:P.Nodup)(N:0<C.c)(Q:0<q)(t:∀ z,0<=Ba9 z P C)(y:Nat->Rat)(h:∀ i,i<(H8 C P q).length->Ey (H8 C P q).length (fun j=>en (H8 C P q) i j*y j)=0):∀ j,j<(H8 C P q).length->y j=0:=by
 have H:=I0 (P:=P) (C:=C) (q:=q);have E:∀ j,j<P.length+1->cfE (y 0) (P.zip ((List.range P.length).map fun j=>y (j+1))) ((Ah P).getD j none)=y j:=fun j m=>by
  rw[Sc J mV j m];cases j with
  |zero=>rfl
  |succ j=>exact Ae3 (by rw[A2k,Ayy,A4g oV];rfl)
 generalize cfE (y 0) (P.zip ((List.range P.length).map fun j=>y (j+1)))=bE at E;have U:∀ e∈Ah P,bE e=0:=Vr Q N t fun e O=>by
  obtain⟨i,hi,rfl⟩:=A01.1 O;have I:(Ah P)[i]=(Ah P).getD i none:=by rw[Ays,Ayr hi];rfl
  rw[I];rw[Bk]at hi;have L:=h i (by rw[H.1];exact hi);rw[H.1,Jm (g:=fun j=>Ar C ((Ah P).getD i none) ((Ah P).getD j none)*bE ((Ah P).getD j none)+(if i=j/\0<i then q else 0)*y j) (fun j m=>by
   rw[Aaf hi m,E j m];grind),Vf,Vs]at L
  have n:Hc q bE ((Ah P).getD i none)=if i<P.length+1/\0<i then q*y i else 0:=by
   cases i with
   |zero=>rw[if_neg oV];rfl
   |succ j =>
    rw[if_pos ⟨hi,oV⟩,<-E _ hi];unfold Ah;rw[A3s,Ays,Ayy,Ayr oV];rfl
  rw[Py _ (Ah P) none,Bk,n];exact L
 intro j m;rw[H.1]at m;rw[<-E j m];exact U _ (Uk m)
structure Ao6 (F:List Am)(C:CF)(q:Rat):Prop where
 a:∀ P,Iy F C P->∀ r∈H8 C P q,∀ x∈r,Th x
 b:∀ P,Iy F C P->∀ x∈Ue C P,Th x
 psd:∀ P z,0<=Ba9 z P C
 sol:∀ P,Iy F C P->P.length<=11->0<C.c->∀ y:Nat->Rat,Al4 (H8 C P q).length (V2 (H8 C P q) (Ue C P)) y->∀ i,i<(H8 C P q).length->Tx (y i)
def Aif (h:∀ r∈H8 C P q,∀ x∈r,Th x)(m:P.length<=11):Sq (H8 C P q):=by
 have e:=I0 (P:=P) (C:=C) (q:=q);refine⟨by rw[e.1];omega,fun r g=>?_,fun r g x j=>(h r g x j).tx⟩;obtain⟨i,hi,rfl⟩:=A01.1 g;have:=e.2 i (by have:=e.1;omega);rw[Jx hi]at this;rw[this,e.1]
def As3 (h:Ez Bf P)(j:qs.length=P.length)(h0:Tx m0)(hT:∀ x∈qs,Tx x):H7 P m0 (P.zip qs):=by
 have e:(P.zip qs).map (·.1)=P:=List.map_fst_zip oV;refine⟨h0,fun x g=>hT _ (List.of_mem_zip (show (x.1,x.2)∈P.zip qs from g)).2,by rw[e];exact h,fun x g=>?_,gV⟩;rw[<-e];exact List.mem_map_of_mem g
end
section
variable {u:PH} {v cv:Value} {T:List (List UInt8×Nat)} {R:List Bu} {F:List Am} {lab:Int} {C:CF} {K k:Nat} {q:Rat}
def Amt:Value:=.agg #[.string (mkS []),.slice none 0 0]
def Avm (F:List Am)(C:CF)(k:Nat)(q:Rat)(r:Value)(u:PH):Prop :=
 (∃ e:Int,r=.tuple #[Amt,.int .i64 e]/\(e=12/\k=0\/e=3/\k≠0/\∃ P,Iy F C P/\11<P.length)) \/
 (k≠0/\∃ P mv m0 qs,Iy F C P/\P.length<=11/\qs.length=P.length/\r=.tuple #[mv,.int .i64 0]/\M5 u mv m0 (P.zip qs)/\H7 P m0 (P.zip qs)/\Fj P C q (cfE m0 (P.zip qs)))
def Oy (ht:Js u)(h:Ko u v cv T R F lab C K k)(hq:Aem q)(N:Ao6 F C q) :
 Fn0 prog 24 [v,cv,.string (mkS (Ae q))] u fun r u'=>Avm F C k q r u':=by
 have a5:=(Ag8 ht h hq).giveAll;have Q:=h.mom;obtain⟨xa,xc,xb,xd,xe,xf,rfl,_⟩:=id h.sch;obtain⟨a1,n1,c1,a2,n2,c2,rfl⟩:=id h.cof.opn;refine Fn0.o func24<|G.c call36 a5 ?_;rintro v1 u1 l1 ⟨u0,m0',a0,O,⟨e,rfl,he⟩|⟨hk,P,pa,pc,ya,yc,ra,rc,a6,g,m,rfl,hL,J,t⟩⟩
 ·refine G.nT' e 0 (by rcases he with ⟨h,_⟩|⟨h,_⟩<;>omega) ?_
  exact G.r (.tuple #[Amt,.int .i64 e]) ⟨rfl,.inl ⟨e,rfl,he⟩⟩
 refine G.nF 0 0 ?_;have hM:J9 u1 (.slice ya (P.length+1) yc) (K6 (H8 C P q)):=Ask (v:=.bool true) t J O;obtain⟨m0,Y,_⟩:=t.focus 0 rfl;rw[Om]at Y;have hR:Dc u1 (.slice ra (P.length+1) rc) ((Ue C P).map Ae):=by
  unfold Dc Ue;rw[<-Adq];exact Y.list O
 have Z:=I0 (P:=P) (C:=C) (q:=q);have L:=g.1;have V:=L.nodup Dl;have H:=Q.cpos hk;have W:=Aif (N.a P g) m;refine G.c call68 (Aw7 (A:=H8 C P q) (b:=Ue C P) (ht.mono l1) hM hR W (by rw[Apm,Z.1]) (by rw[Z.1];omega) (N.a P g) (N.b P g) (Atc V H hq.pos (N.psd P)) (N.sol P g m H)) ?_;rintro v2 u2 l2 ⟨qs,lv,rfl,I,E,hS⟩;rw[Z.1]at I;cases qs with
 |nil=>simp at I
 |cons c0 qs =>
  have n:qs.length=P.length:=by simpa using I
  have hT:∀ x∈c0::qs,Tx x:=fun x X=>by
   obtain⟨j,hj,rfl⟩:=A01.1 X;rw[<-M3 hj];exact N.sol P g m H _ E j (by rw[Z.1];simp at hj;omega)
  have hn:=Na W E (Sc V n);have a4:=As3 L n (hT c0 mV) (fun x X=>hT x (by simp[X]));obtain⟨la,lc,a3⟩:=Ac.opn hS;subst a3;refine G.nF 0 0<|G.c call69 (Alp (hL.mono (a0.trans l2)) hS L n oV (hT c0 mV) (fun x X=>hT x (by simp[X]))) ?_;rintro v3 u3 l3 ⟨mv,rfl,U⟩;obtain⟨ma,mc,rfl,_⟩:=id U.val;exact G.r (.tuple #[.agg #[.string (mkS (Ae c0)),.slice ma (P.zip qs).length mc],.int .i64 0]) ⟨rfl,.inr ⟨hk,P,_,c0,qs,g,m,n,rfl,U,a4,hn⟩⟩
end
end
section
variable {F:List Am}{T:List (List UInt8×Nat)}{lab:Int}{u:PH}{v:Value}
def Bda {b off:Nat}{z:Int}{s w:List UInt8}(h:ElP u b off (.agg #[.int .i64 z,.string (mkS s),.string (mkS w)])):ElP u b (off+0) (.agg #[.int .i64 z,.string (mkS s)]):=h.sub fun i y e=>by
 match i,e with
 |0,e=>exact e
 |1,e=>exact e
 |i+2,e=>simp[Value.cells]at e
def Bca {v mv:Value}{R:List Bu}{P:List Par}{m0:Rat}{M:List (Par×Rat)}(hX:G8 u v T R F lab)(ok:Bt u T R F lab)(h:M5 u mv m0 M)(L:H7 P m0 M)(hP:P.length<=10000)(N:∀ p∈P,Yy F p) :
 Fn0 prog 212 [v,mv] u fun r _=>r=.bool true:=by
 have a0:=R9 hX ok;obtain⟨xa,xc,xb,xd,xe,xf,rfl,a4,a3,Y⟩:=hX;obtain⟨a,c,rfl,hM⟩:=h.val;have a5:=L.len;refine Fn0.o func212<|G.c call45 a0 ?_;rintro v1 u1 l1 rfl;refine G.nF 0 0<|G.c call18 (D1 L.c) ?_;rintro v2 u2 l2 rfl;refine G.l (ι:=Nat) (fun i=>[(2,.p 0 0),(3,.p 1 0),(18,sV a M.length c),(19,iV M.length),(20,iV i)])
  (fun _=>[(0,⟨30,[sV xa T.length xc,sV xb R.length xd,sV xe F.length xf,iV lab]⟩),(1,⟨44,[tV (Ae m0),sV a M.length c]⟩)])
  (fun i u' m'=>i<=M.length/\m'=PH.mt) (fun i=>M.length-i) 0 ⟨oV,rfl⟩ ?_
 rintro J i hJ u3 m3 l3 ⟨hi,rfl⟩;by_cases g:i<M.length
 ·refine G.lT i M.length ?_;have E:=(l1.trans l2).trans l3;have I:M[i]?=some M[i]:=Ayr g;have m:=Ay8 g;have n:i>0->Bf (M[i-1]'oV).1 M[i].1<0:=fun hp=>by
   have:=A02.1 L.srt (i-1) i gV (by simpa using g) oV;simpa using this
  have K:i>0->M[i-1]?=some (M[i-1]'oV):=fun hp=>Ayr oV;generalize a2:M[i-1]'oV=pe at n K;have ht:=L.t _ m;obtain⟨k,f,hk,hf,X⟩:=N _ (L.sub _ m);obtain⟨H,Q,rfl,ea⟩:=Ac.at' (hM.mono E) (j:=i) (e:=As M[i]) (by simp[I]);have Z:=hM.mono E;clear a2;generalize M[i]=x at I m n ht hk X ea;obtain⟨⟨x1,U⟩,q⟩:=x;simp only at hk X;subst hk;obtain⟨a1,_⟩:=Ayu.1 hf;refine G.a H Q M.length c i 3 g<|G.lU (some 3) H (Q+i*3) (.agg #[.int .i64 k,.string (mkS U),.string (mkS (Ae q))]) ea<|G.lF k 0<|G.hF k F.length<|G.c call18 (D1 ht) ?_;rintro v4 u4 l4 rfl;refine dite (i>0) (fun hp=>?A) (fun hp=>?B)
  case' A =>
   refine G.gT i 0 ?_;obtain⟨⟨y1,y2⟩,yq⟩:=pe;refine G.s i 1 (i-1:Nat)<|G.a H Q M.length c (i-1) 3 oV ?_;obtain⟨bb,ob,e0,eb⟩:=Ac.at' (Z.mono l4) (j:=i-1) (e:=As ((y1,y2),yq)) (by simp[K hp]);cases e0;refine G.f 65 H (Q+(i-1)*3) 0 0<|G.lU (some 2) H (Q+(i-1)*3+0) (.agg #[.int .i64 y1,.string (mkS y2)]) (Bda eb)<|G.c call79 (Ff (y1,y2) ((k:Int),U) true (decide_eq_true (n hp))) ?_;rintro v5 u5 O rfl
  case' B =>
   refine G.gF i 0 ?_;have O:=PH.le_refl u4
  case A|B =>
   refine dite (U = []) (fun h0=>?C) (fun h0=>?D)
   case' C=>refine G.y U [] h0 ?_
   case' D =>
    refine G.x U [] h0 ?_;obtain⟨h2,hw⟩:=X.resolve_left h0;obtain⟨V,off,rfl,ef⟩:=Ac.at' (Y.mono ((E.trans l4).trans O)) (j:=k) (e:=Ch f) (by simp[hf]);obtain⟨f1,W,f3⟩:=f;simp only at h2;refine G.a V off F.length xf k 3 a1<|G.f 105 V (off+k*3) 1 1<|G.lU none V (off+k*3+1) (.int .i64 W) (ef.fld (j:=1) (xs:=#[.int .i64 f1,.int .i64 W,.int .i64 f3]) rfl rfl)<|G.eF W 1<|G.c call100 (Rz hw) ?_;rintro v6 u6 l6 rfl;have O:=O.trans l6
   case C|D =>
    exact G.i i<|G.b (hJ (i+1) _ _ _ cV ((l3.trans l4).trans O) ⟨oV,rfl⟩ oV)
 obtain rfl:i=M.length:=oV;exact G.lF M.length M.length<|G.r (.bool true) ⟨rfl,rfl⟩
abbrev FV:Type:=Bool×(Option Addr×Nat×Nat)×(Option Addr×Nat×Nat)
def fvV (x:FV):Value:=.agg #[.bool x.1,.slice x.2.1.1 x.2.1.2.1 x.2.1.2.2,.bool false,.slice x.2.2.1 x.2.2.2.1 x.2.2.2.2]
def QP.fv {q:Rat}(h:QP u v q):∃ x:FV,v=fvV x:=by
 obtain⟨b,a,n,c,g,m,j,e,_⟩:=h.opn;exact⟨(b,(a,n,c),(g,m,j)),e⟩
def E4 (V M:List (Par×Rat))(m0:Rat)(i:Nat):Rat:=m0+Ao (fun t=>t.2*Ap t.1 M) (V.take i)
def Al5 {V:List (Par×Rat)}(t:(V.map (·.1)).Nodup){j:Nat}{x:Par×Rat}(n:V[j]?=some x)(p:Par):Ap p (V.take (j+1))=if x.1=p then x.2 else Ap p (V.take j):=by
 have e:V.take (j+1)=V.take j++[x]:=by rw[Aze,n];rfl
 have g:x.1∉(V.take j).map (·.1):=by
  intro C;obtain⟨y,E,m⟩:=Ayx.1 C;obtain⟨i,hi,rfl⟩:=Az9 E;rw[Ay1]at hi;have:=Ia t (i:=i) (j:=j) (x:=x.1) (by rw[Ayy,Ayr oV];simp only[A1n];rw[<-m,A2t]) (by rw[Ayy,n];rfl);omega
 rw[e,Qh g];by_cases h:p=x.1
 ·rw[if_pos h,if_pos h.symm]
 rw[if_neg h,if_neg (fun e=>h e.symm)]
def Ai5 {ss:List (List UInt8)}(hF:C5 T F lab)(m:Cd T ss):∀ x∈Ct F ss F.length,SmW x.2:=fun x n=>by
 obtain⟨j,f,t,h,g⟩:=Nd.1 n;unfold Mj at g;split at g
 ·cases g;exact Kf
 rename_i h2;split at g
 ·cases g
 rename_i h0;cases g;exact (Ry hF m (Ay9 h) h2 (fun e=>h0 (.inl e))).1
end
section
section
variable {V M:List (Par×Rat)} {m0:Rat}
def Acg (e:∀ x∈M,Tx x.2)(p:Par):Sz (Ap p M) 400:=by
 by_cases hp:p∈M.map (·.1)
 ·induction M with
  |nil=>simp at hp
  |cons y l ih =>
   obtain⟨b,q⟩:=y;unfold Ap;split
   ·exact (e (b,q) mV).sz
   rename_i hne;refine ih (fun x g=>e x (by simp[g])) ?_;simp at hp;rcases hp with h|⟨r,h⟩
   ·exact absurd h hne
   exact Ayx.2 ⟨_,h,rfl⟩
 rw[F7 hp];exact Ai1.mono oV
def Adi (h0:Tx m0)(g:∀ x∈M,Tx x.2)(h:∀ x∈V,SmW x.2):∀ i,Sz (E4 V M m0 i) (500*(i+1))
 |0=>by
  unfold E4;rw[A14];have:m0+Ao (fun t:Par×Rat=>t.2*Ap t.1 M) []=m0:=by rw[show Ao (fun t:Par×Rat=>t.2*Ap t.1 M) []=0 from rfl];grind
  rw[this];exact h0.sz.mono oV
 |i+1=>by
  have j:=Adi h0 g h i;by_cases hi:i<V.length
  ·have e:E4 V M m0 (i+1)=E4 V M m0 i+V[i].2*Ap V[i].1 M:=by
    unfold E4;rw[Aze,Ayr hi];simp only[A87];rw[Fs];grind
   rw[e];exact (Gy j (Di (h _ (Ay8 hi)).sz (Acg g _))).mono oV
  have e:E4 V M m0 (i+1)=E4 V M m0 i:=by
   unfold E4;rw[Ay6 oV,Ay6 oV]
  rw[e];exact j.mono oV
end
def Tu {u:PH}{v tv mv:Value}{T:List (List UInt8×Nat)}{R:List Bu}{F:List Am}{lab:Int}{ss:List (List UInt8)}{P:List Par}{m0:Rat}{M:List (Par×Rat)}(ht:Js u)(h:Qa u v tv T R F lab ss)(hM:M5 u mv m0 M)(C:H7 P m0 M)(hP:P.length<=10000)(Z:∀ p∈P,Yy F p)(a0:Tx (Lt m0 M (Ct F ss F.length))) :
 Fn0 prog 17 [v,mv,tv] u fun r _=>r=.tuple #[.string (mkS (Ae (Lt m0 M (Ct F ss F.length)))),.int .i64 0]:=by
 have a2:=Af4 h;have a7:=fun (u':PH) (l:PH.le u u')=>Sh (h.sch.mono l) (h.ok.mono l) (hM.mono l) C hP Z;have f2:=h.ok.f2;have H:=h.ok.feat;have Q:=h.fit;have hl:=Vg F ss F.length;have N:∀ x∈Ct F ss F.length,SmW x.2:=Ai5 H Q;obtain⟨⟨xa,xc,xb,xd,xe,xf,rfl,ad,ac,ab⟩,ok,hS,hT⟩:=h;obtain⟨ya,yc,rfl⟩:=hS.opn;obtain⟨a,c,rfl,a4⟩:=id hM.val;rw[Ayt]at a2⊢;generalize Ct F ss F.length=V at *
 have ae:=C.len;have Y:=C.srt.nodup Dl;refine Fn0.o func17<|G.c call59 a2 ?_;rintro _ u1 l1 ⟨lv,rfl,hv⟩;obtain⟨la,lc,rfl⟩:=Ac.opn hv;rw[Ayt]at hv⊢;refine G.nF 0 0<|G.c call42 (a7 u1 l1) ?_;rintro v2 u2 l2 rfl;refine G.c call54 (Dr C.c) ?_;intro v3 u3 l3 k3;obtain⟨f3,rfl⟩:=k3.opF;refine G.l (ι:=Nat×F4) (fun i=>[(3,.p 0 0),(4,.p 1 0),(10,.p 6003 0),(31,sV la V.length lc),(32,iV V.length),(33,iV i.1)])
  (fun i=>[(0,⟨30,[sV xa T.length xc,sV xb R.length xd,sV xe F.length xf,iV lab]⟩),(1,⟨44,[tV (Ae m0),sV a M.length c]⟩),(6003,⟨118,fc i.2⟩)])
  (fun i u' m'=>i.1<=V.length/\Ax u' (fv i.2) (E4 V M m0 i.1)/\m'=PH.mt) (fun i=>V.length-i.1) (0,f3)
  ⟨Azh _,by
   have:E4 V M m0 0=m0:=by unfold E4;rw[A14,show Ao (fun t:Par×Rat=>t.2*Ap t.1 M) []=0 from rfl];grind
   rw[this];exact k3,rfl⟩ ?_
 rintro J ⟨i,f⟩ hJ u4 m4 l4 ⟨hi,hf,rfl⟩;simp only at hi hf hJ;have a3:=((l1.trans l2).trans l3).trans l4;have a6:=Adi (V:=V) C.c C.t N i;by_cases W:i<V.length
 ·refine G.lT i V.length ?_;obtain⟨x,I⟩:∃ x,V[i]?=some x:=⟨_,Ayr W⟩;have m:=N x (Ay9 I);obtain⟨bx,ox,rfl,ex⟩:=Ac.at' (hv.mono ((l2.trans l3).trans l4)) (j:=i) (e:=As x) (by simp[I]);refine G.a bx ox V.length lc i 3 W<|G.lU (some 3) bx (ox+i*3) (.agg #[.int .i64 x.1.1,.string (mkS x.1.2),.string (mkS (Ae x.2))]) ex<|G.l (ι:=Nat×F4) (fun j=>[(3,.p 0 0),(4,.p 1 0),(10,.p 6003 0),(12,.p 9002 0),(31,sV (some ⟨bx,ox,none⟩) V.length lc),(32,iV V.length),(33,iV i),(38,sV a M.length c),(39,iV M.length),(40,iV j.1)])
   (fun j=>[(0,⟨30,[sV xa T.length xc,sV xb R.length xd,sV xe F.length xf,iV lab]⟩),(1,⟨44,[tV (Ae m0),sV a M.length c]⟩),(6003,⟨118,fc j.2⟩),(9002,⟨65,[iV x.1.1,tV x.1.2,tV (Ae x.2)]⟩)])
   (fun j u' m'=>j.1<=M.length/\Ax u' (fv j.2) (E4 V M m0 i+x.2*Ap x.1 (M.take j.1))/\m'=PH.mt) (fun j=>M.length-j.1) (0,f)
   ⟨Azh _,by rw[A14,show Ap x.1 ([]:List (Par×Rat))=0 from rfl,show E4 V M m0 i+x.2*0=E4 V M m0 i by grind];exact hf,rfl⟩ ?_
  rintro J2 ⟨j,f5⟩ E u5 m5 l5 ⟨hj,g,rfl⟩;simp only at hj g E;have aa:=a3.trans l5;by_cases U:j<M.length
  ·refine G.lT j M.length ?_;obtain⟨y,n⟩:∃ y,M[j]?=some y:=⟨_,Ayr U⟩;have K:=C.t y (Ay9 n);have a1:=Al5 Y n x.1;obtain⟨L,oy,rfl,ey⟩:=Ac.at' (a4.mono aa) (j:=j) (e:=As y) (by simp[n]);refine G.a L oy M.length c j 3 U ?_
   refine G.lU (some 3) L (oy+j*3) (.agg #[.int .i64 y.1.1,.string (mkS y.1.2),.string (mkS (Ae y.2))]) ey ?_
   by_cases O:y.1=x.1
   ·refine G.eqAgg 63 #[.int .i64 y.1.1,.string (mkS y.1.2)] #[.int .i64 x.1.1,.string (mkS x.1.2)] true kV kV kV (fun w=>by rw[<-decide_eq_true O];exact Bx.eq y.1 x.1 w)<|G.c call54 (Dr K) ?_;intro v6 u6 l6 k6;obtain⟨f6,rfl⟩:=k6.opF;refine G.c call54 (Dr m.tx) ?_;intro v7 u7 l7 k7;obtain⟨f7,rfl⟩:=k7.opF;refine G.c call55 (Ik (k6.mono l7) k7 (K.sz.mono oV) (m.sz.mono oV)) ?_;intro v8 u8 l8 k8;obtain⟨f8,rfl⟩:=k8.opF;have hz:=Di K.sz m.sz;have a8:Sz (E4 V M m0 i+x.2*Ap x.1 (M.take j)) 1000000:=(Gy a6 (Di m.sz (Acg (fun z hz=>C.t z (A0o hz)) _))).mono oV;refine G.c call53 (If (g.mono ((l6.trans l7).trans l8)) k8 (a8.mono oV) (hz.mono oV)) ?_;intro v9 u9 l9 k9;obtain⟨f9,rfl⟩:=k9.opF;refine G.i j<|G.b (E (j+1,f9) _ _ _ cV ((((l5.trans l6).trans l7).trans l8).trans l9) ⟨dV,?_,rfl⟩ dV);dsimp only;have h0:Ap x.1 (M.take j)=0:=by
     refine F7 fun X=>?_;obtain⟨z,hz,a9⟩:=Ayx.1 X;obtain⟨i',a5,rfl⟩:=Az9 hz;rw[Ay1]at a5;have:=Ia Y (i:=i') (j:=j) (x:=y.1) (by rw[Ayy,Ayr oV];simp only[A1n];rw[O,<-a9,A2t]) (by rw[Ayy,n];rfl);omega
    rw[a1,if_pos O];rw[h0]at k9;have e:E4 V M m0 i+x.2*0+y.2*x.2=E4 V M m0 i+x.2*y.2:=by grind
    rw[e]at k9;exact k9
   exact G.eqAgg 63 #[.int .i64 y.1.1,.string (mkS y.1.2)] #[.int .i64 x.1.1,.string (mkS x.1.2)] false kV kV kV (fun w=>by rw[<-decide_eq_false O];exact Bx.eq y.1 x.1 w)<|G.i j<|G.b (E (j+1,f5) _ _ _ cV l5 ⟨dV,by dsimp only;rw[a1,if_neg O];exact g,rfl⟩ dV)
  obtain rfl:j=M.length:=oV;refine G.lF M.length M.length ?_;rw[Ay6 (Ay2 _)]at g;refine G.i i<|G.b (hJ (i+1,f5) _ _ _ cV (l4.trans l5) ⟨dV,?_,rfl⟩ dV);dsimp only;have e:E4 V M m0 (i+1)=E4 V M m0 i+x.2*Ap x.1 M:=by
   unfold E4;rw[Aze,I];simp only[A87];rw[Fs];grind
  rw[e];exact g
 obtain rfl:i=V.length:=oV;refine G.lF V.length V.length ?_;have e:E4 V M m0 V.length=Lt m0 M V:=by unfold E4 Lt;rw[Azj]
 rw[e]at hf;refine G.c call56 (O1 (ht.mono a3) hf a0) ?_;rintro v5 u5 l5 rfl;exact G.r (.tuple #[.string (mkS (Ae (Lt m0 M V))),.int .i64 0]) ⟨rfl,rfl⟩
end
end Go.Proofs.YtijchbjkdllolaaGreatDoor
