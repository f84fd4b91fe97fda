/- Parts of one proof, joined by a program. -/
import Derived.Test.YtdgncafgglafjaaGreatDoorQ11
set_option linter.defProp false
set_option linter.unusedVariables false
set_option linter.unusedSimpArgs false
set_option linter.unusedSectionVars false
set_option maxHeartbeats 16000000
namespace Go.Proofs.YtdgncafgglafjaaGreatDoor
open Go.Proofs.Tryz
open Go.RowKit Go.MapKept
def A9o:=@List.mem_of_mem_erase
def A25:=@List.erase_cons_head
def A45:=@List.erase_cons_tail
section
variable {A:List (List Rat)}{X Y:List (List Int)}{b:List Rat}{k n:Nat}{m u:PH}
def Au1 {v:Value}(h:Fm u v (Dv A))(d:Sq A):Fn0 prog 93 [v] u fun e _=>e=.int .i64 0:=by
 obtain⟨a,c,rfl⟩:=h.opn;refine Fn0.o func93<|G.c call170 (Ate h d) ?_;rintro t j g rfl;exact G.eT' 0 0 rfl<|G.nF A.length A.length<|G.r (.int .i64 0) ⟨rfl,rfl⟩
structure Th (q:Rat):Prop where
 tx:Tx q
 den:q.den ∣ 21600
 num:q.num.natAbs<=3000000000000
def Tq.th {q:Rat}(h:Tq q):Th q:=⟨h.tx,h.den,A0l h.num oV⟩
def Av5 (h:n<100000000000000000):Lib.nDigits n<=17:=Dr (k:=17) oV oV
def Adk (hT:∀ r∈A,∀ q∈r,Th q):Aze A 21600 17 where
 den:=fun r g q e=>(hT r g q e).den
 pos:=oV
 nl:=A0l (nlM oV) oV
 dig:=fun D t h0=>by
  have d:D<=21600:=A4l oV t;refine⟨Av5 oV,fun r g q e z=>Av5 ?_⟩;rw[A2t,A1e];have h:=(hT r g q e).num;have j:D/q.den<=21600:=A0l (A24 _ _) d;have:=A2p h j;omega
def Ayb (h:∀ q∈b,Th q):∀ r∈b.map (fun q=>[q]),∀ q∈r,Th q:=fun r e q d=>by
 obtain⟨x,g,rfl⟩:=A0r.1 e;simp at d;subst d;exact h q g
def Alm :Dv (b.map fun q=>[q])=(b.map Ag).map fun t=>[t]:=by simp[Dv]
def Aut {D D':Nat}(L:Sq A)(I:b.length=A.length)(hT:∀ r∈A,∀ q∈r,Th q)(g:∀ q∈b,Th q)(F:D ∣ 21600)(e:D' ∣ 21600):SzZ (Jz A b D D') 2:=fun i j=>by
 have key:∀ (q:Rat) (E:Nat),Th q->E ∣ 21600->nl (q.num*((E/q.den:Nat):Int)).natAbs<=2:=fun q E K H=>by
  refine nlM ?_;rw[A2t,A1e];have C:E/q.den<=21600:=A0l (A24 _ _) (A4l oV H);have:=A2p K.num C;omega
 have z:nl (0:Int).natAbs<=2:=A0l (nl1 (n:=0) oV) oV;by_cases d:i<A.length
 ·have t:(gM A i).length=A.length:=by rw[Gx d];exact L.len d
  unfold enZ;rw[Rh d];by_cases J:j<A.length
  ·rw[Apb (by simp[Bl,t,J]),Afm oV];exact key _ D (hT _ (Aim d) _ (V4 oV)) F
  by_cases h:j=A.length
  ·rw[Akk (by simp[Bl,t,h])];exact key _ D' (g _ (V4 oV)) e
  rw[Abn (by simp[Bl,t];omega)];exact z
 unfold enZ;have:gMZ (Jz A b D D') i = []:=by unfold gMZ;rw[A0j,A1k (by simp[Jz];omega)];rfl
 rw[this];exact z
def Asc {n w E:Nat}:∀ (f c:Nat) (s:BZ),SzZ s.X (zs E c)->nl s.v.natAbs<=zs E c->Gn n w s.X->s.P.length<=n->SzZ (Ig n f c s).X (zs E (c+f))/\nl (Ig n f c s).v.natAbs<=zs E (c+f)
 |0,c,s,h1,h2,_,_=>⟨h1,h2⟩
 |f+1,c,s,h1,h2,h3,h4=>by
  obtain⟨d,e,g,h,_⟩:=Akx (c:=c) h1 h2 h3 h4;have j:zs E (c+1)=2*zs E c+2:=rfl;have:=Asc (E:=E) f (c+1) (Ih n c s) (d.mono oV) (A0l e oV) g h;unfold Ig;rw[show c+(f+1)=c+1+f by omega];exact this
def Azb (h:n<=12):zs 2 n<=1000000000:=A0l (Apd 2 h) fV
def Atw {l:List Arr}(h:Bag m l):Bag m (My (.slice none 0 0) []::My (.slice none 0 0) []::l):=⟨m,Af.nil _ _ _,m,Af.nil _ _ _,h⟩
def Yx (Y X:List (List Int))(k:Nat):List (List Int):=Y.take k++X.drop k
def An9 (h:Y.length=X.length)(d:k<X.length):(Yx Y X k).set k (gMZ Y k)=Yx Y X (k+1):=by
 unfold Yx;rw[A5l _ _ gV];simp only[A0q];rw[show k-min k Y.length=0 by omega,A4y d,A2y,Jk oV,A2m,Qb oV];rfl
def Atb (h:Y.length=X.length)(d:k<X.length):gMZ (Yx Y X k) k=gMZ X k:=by
 unfold Yx gMZ;rw[A0j,A1d gV,A0j];simp only[A0q];rw[show k-min k Y.length=0 by omega,A3m];rfl
def Aoa (h:Y.length=k)(d:X.length=k):Yx Y X k=Y:=by
 unfold Yx;rw[A00 oV,A11 oV,A1i]
def Aly {n c:Nat}{a:Option Addr}{d:List (Value×List Value)}(e:Bag m (oN (.slice a n c) d::d.map Dy))(g:NAt u d X)(h:PH.le m u):K0 u (.slice a n c) X:=Aeg (Atw e) g h
def Axl {u:PH}{v bv:Value}{A:List (List Rat)}{b:List Rat}(ht:Ls u)(h:Fm u v (Dv A))(hb:Ck u bv (b.map Ag))(hs:Sq A)(ad:b.length=A.length)(h0:0<A.length)(hT:∀ r∈A,∀ q∈r,Th q)(av:∀ q∈b,Th q)
 (hk:∀ y:Nat->Rat,(∀ i,i<A.length->Bx A.length (fun j=>en A i j*y j)=0)->∀ j,j<A.length->y j=0) (c2:∀ y:Nat->Rat,Te A.length (Ie A b) y->∀ i,i<A.length->Tx (y i)) :
 Fn0 prog 42 [v,bv] u fun r u'=>∃ qs lv,r=.tuple #[lv,.int .i64 0]/\qs.length=A.length/\Te A.length (Ie A b) (gR qs)/\Ck u' lv (qs.map Ag):=by
 obtain⟨a0,c0,rfl⟩:=h.opn;rw[Bs]at h⊢;obtain⟨a1,c1,rfl⟩:=Ab.opn hb;have dg:(B4 (b.map Ag)).length=A.length:=by simp[B4,ad]
 rw[dg]at hb⊢;have Z:=hs.le;have bl:∀ r∈A,∀ q∈r,Tx q:=fun r R q hq=>(hT r R q hq).tx;have L:=Adk hT;have ao:=Ayb av;have O:=Adk ao;have bo:∀ r∈b.map (fun q=>[q]),r.length<=12:=fun r R=>by obtain⟨x,_,rfl⟩:=A0r.1 R;simp
 have bz:∀ r∈A,r.length<=12:=fun r R=>by rw[hs.row r R];exact Z
 have df:(b.map (fun q=>[q])).length=A.length:=by rw[A0k,ad]
 refine Fn0.o func42<|G.c call93 (Au1 h hs) ?_;rintro v1 u1 l1 rfl;refine G.nF 0 0<|G.nF A.length A.length<|G.c call94 (Afx (Ab.mono hb l1) (fun q hq=>(av q hq).tx) oV) ?_;rintro v2 u2 l2 rfl;have b2:=l1.trans l2;refine G.c call95 (Aq5 (N:=12) (K:=17) (ht.mono b2) (h.mono b2) bl Z bz oV oV oV L.den L.pos L.nl L.dig) ?_;rintro v3 u3 l3 rfl;have cj:=b2.trans l3;refine G.c call96 (Ald (Ab.mono hb cj) (by rw[A0k];omega)) ?_;intro v4 u4 l4 k4;rw[<-Alm]at k4;have ck:=cj.trans l4;refine G.c call95 (Aq5 (N:=12) (K:=17) (ht.mono ck) k4 (fun r R q hq=>(ao r R q hq).tx) oV bo oV oV oV O.den O.pos O.nl O.dig) ?_;rintro v5 u5 l5 rfl;have cl:=ck.trans l5;refine G.callO _ _ kV call97 (Atc (h.mono cl) bl oV (fun r R=>by have:=bz r R;omega) L.den L.pos L.nl) ?_;rintro v6 u6 m6 l6 ⟨D,fD,a6,c6,T,d6,bf,d7,rfl,d8,ar,Q⟩ _;rw[Cm];have cm:=cl.trans l6;refine G.c call96 (Ald (Ab.mono hb cm) (by rw[A0k];omega)) ?_;intro v7 u7 l7 k7;rw[<-Alm]at k7;have dq:=cm.trans l7;refine G.c call97 (Aky k7 (fun r R q hq=>(ao r R q hq).tx) oV (fun r R=>by have:=bo r R;omega) O.den O.pos O.nl) ?_;rintro v8 u8 l8 ⟨D',bd,ah,bg,eb,ea,b8,ec,an,e6,a9,rfl,bh,bk⟩;have cn:=dq.trans l8;have ak:Ao4 A b D D':=⟨d6,bd,d7,fun q hq=>bg [q] (A0r.2 ⟨q,hq,rfl⟩) q mV⟩;obtain⟨_,_,e0⟩:=LP.opn bk;rw[A0k,df]at e0;simp only[Value.slice.injEq]at e0;obtain⟨rfl,rfl,rfl⟩:=e0;have e8:Gn A.length A.length (A.map (Bl D)):=⟨mV,fun i hi=>by rw[Qb (by simpa using hi),A3u,Bl,A0k];exact hs.len hi⟩;have au:=Ao5 (b:=b) (D:=D) (D':=D') hs;have U:T.length=A.length:=by rw[ar.1];simp
 obtain⟨V,co,eo⟩:=Q.ptr 0 rfl (by intro e;simp only[oN,A57]at e;rw[e]at U;simp at U;omega);simp only[oN,A0k,U,Value.slice.injEq,true_and]at eo;obtain⟨rfl,rfl⟩:=eo;refine G.l (ι:=Nat×List (Value×List Value)) (fun i=>[(0,sV a0 A.length c0),(7,.p 10005 0),(8,.p 10006 0),(44,iV A.length),(45,iV i.1)])
  (fun i=>[(10005,⟨181,[bV fD.b,sV fD.a fD.n fD.c,sV (some ⟨V,0,none⟩) A.length c6]⟩),(10006,⟨181,[bV eb,sV ea b8 ec,sV an A.length a9]⟩)])
  (fun i u' m'=>i.1<=A.length/\NAt u' i.2 (Yx (Jz A b D D') (A.map (Bl D)) i.1)/\Bag m' (oN (.slice (some ⟨V,0,none⟩) A.length c6) i.2::i.2.map Dy)) (fun i=>A.length-i.1) (0,T)
  ⟨A1c _,(show NAt u8 T (Yx (Jz A b D D') (A.map (Bl D)) 0) by unfold Yx;simpa using ar.mono (l7.trans l8)),Q⟩ ?_
 clear Q ar U;rintro J ⟨i,t⟩ hJ u9 m9 l9 ⟨hi,hQ,F⟩;simp only at hi hQ F hJ;have c9:(Jz A b D D').length=(A.map (Bl D)).length:=by simp[Jz]
 have dy:t.length=A.length:=by rw[hQ.1];unfold Yx;simp[Jz];omega
 have e9:=cn.trans l9;by_cases z:i<A.length
 ·refine G.lT i A.length ?_;have a7:t[i]?=some t[i]:=A0i oV;have a5:=hQ.2 i _ a7;rw[Atb c9 (by simpa using z),Qb (by simpa using z),A3u]at a5;obtain⟨⟨vi,C⟩,he⟩:∃ x,t[i]=x:=⟨_,rfl⟩;rw[he]at a7 a5;simp only at a5;have W:C.length=A.length:=by rw[a5.1,Bl,A0k];exact hs.len z
  obtain⟨gi,ci,e⟩:=F.ptr (i+1) (x:=Dy (vi,C)) (by simp[a7]) (by intro e;simp only[Dy]at e;rw[e]at W;simp at W;omega);simp only[Dy]at e;rw[W]at e;subst e;have dj:ElP m9 V (0+i*1) (.slice (some ⟨gi,0,none⟩) A.length ci):=F.el 0 (x:=oN (.slice (some ⟨V,0,none⟩) A.length c6) t) rfl rfl (by show (t.map (·.1))[i]?=_;rw[A0n,a7];rfl);have bn:i<b.length:=oV
  have db:K0 u9 (.slice an A.length a9) ((b.map fun q=>[q]).map (Bl D')):=K0.mono bk l9;have dh:((b.map fun q=>[q]).map (Bl D'))[i]?=some [(gR b i).num*((D' / (gR b i).den:Nat):Int)]:=by
   rw[A0n,A0n,A0i bn,E7 bn];rfl
  obtain⟨b4,cp,e2,rfl,d3,b9⟩:=LP.at db dh;obtain⟨dz,cv,rfl⟩:=LP.opn b9;obtain⟨b5,cq,e3,rfl,d4,aa⟩:=LP.at b9 (j:=0) (x:=(gR b i).num*((D' / (gR b i).den:Nat):Int)) rfl;obtain⟨d,rfl⟩:=aa.opN;refine G.a V 0 A.length c6 i 1 z<|G.lM none V (0+i*1) _ dj<|G.a b4 cp A.length a9 i 1 z<|G.lU none b4 (cp+i*1) _ d3<|G.a b5 cq 1 cv 0 2 oV<|G.lU (some 2) b5 (cq+0*2) (nv d) d4<|G.B 124 2 32 (.agg #[.bool false,.slice none 0 0]) [nv d] (aa.ok) ?_;intro d1 dv a8 cy;obtain⟨m0,c5,bu⟩:=F.focus (i+1) (x:=Dy (.slice (some ⟨gi,0,none⟩) A.length ci,C)) (by simp[a7]);rw[Ak4]at c5;refine G.append 124 2 32 (.agg #[.bool false,.slice none 0 0]) m0 C [nv d] (.slice (some ⟨gi,0,none⟩) A.length ci) d1 0 1 1 kV rfl rfl oV c5 cy (aa.ok) rfl oV oV oV ?_;intro dx dr ag;have bm:=bu (Dy (dx,C++[nv d])) dr ag;obtain⟨m1,c7,aw⟩:=bm.focus 0 rfl;rw[Aeq]at c7;obtain⟨H,I,rfl⟩:=ag.shape;refine G.a V 0 A.length c6 i 1 z<|G.storeA 1 m1 _ V A.length c6 i (.slice H (C++[nv d]).length I) kV c7 gV rfl rfl ?_;intro ds c8;have ai:=aw (oN (.slice (some ⟨V,0,none⟩) A.length c6) (t.set i (.slice H (C++[nv d]).length I,C++[nv d]))) ds (by rw[Aeq,A10];exact c8);rw[show ((oN (.slice (some ⟨V,0,none⟩) A.length c6) t::t.map Dy).set (i+1) (Dy (.slice H (C++[nv d]).length I,C++[nv d]))).set 0 (oN (.slice (some ⟨V,0,none⟩) A.length c6) (t.set i (.slice H (C++[nv d]).length I,C++[nv d]))) =
   oN (.slice (some ⟨V,0,none⟩) A.length c6) (t.set i (.slice H (C++[nv d]).length I,C++[nv d]))::(t.set i (.slice H (C++[nv d]).length I,C++[nv d])).map Dy by rw[A2s,A2y,A10]]at ai
  refine G.i i<|G.b (hJ (i+1,t.set i (.slice H (C++[nv d]).length I,C++[nv d])) _ _ _ cV (l9.trans a8) ⟨dV,?_,ai⟩ dV);dsimp only;rw[<-An9 c9 (by simpa using z),Rh z];have di:gM A i=A[i]:=Gx z;rw[di];exact (hQ.mono a8).set oV ((a5.mono fun _ _ k=>k.mono a8).snoc (aa.mono a8))
 obtain rfl:i=A.length:=oV
 refine G.lF A.length A.length ?_;clear hJ;rw[Aoa (by simp[Jz]) mV]at hQ;refine G.giveP (ma:=m9) (sm:=PH.mt) kV (by funext g;unfold PH.or;cases m9 g<;>rfl) (fun g=>.inr rfl) (fun g=>.inl rfl) ?_
 intro ef ae bp;have bj:=Aly F (hQ.mono ae) bp;have c3:=Aut (D:=D) (D':=D') hs ad hT av bf ah;refine G.c call98 (Au2 bj au oV oV h0 oV c3 oV (Azb Z)) ?_;rintro ep eg az ⟨b3,am,pa,pc,fv,rfl,hS,hV⟩;obtain⟨da,ac,c4,dc⟩:=(Ag1 au).resolve_right fun h=>Azd hs ak hk h.1;obtain⟨cb,ax⟩:=Asc (n:=A.length) (w:=A.length+1) (E:=2) A.length 0 ⟨Jz A b D D',[],1,false⟩ c3 (A0l (nl1 (n:=1) oV) (by show 1<=2;omega)) au (A1c _);rw[A2e]at cb ax;clear Z;have Z:=hs.le;generalize Ig A.length A.length 0 ⟨Jz A b D D',[],1,false⟩=s at *
 refine G.lF' s.P.length A.length (by rw[da];omega) ?_;have bx:=Au3 hs ad ak c4 dc;have bw:(qsZ A.length s.X s.v D D').length=A.length:=by simp[qsZ]
 have al:=Azb Z;have bs:nl (D:Int).natAbs<=2:=nlM (by have:=A4l oV bf;omega);have aj:nl (D':Int).natAbs<=2:=nlM (by have:=A4l oV ah;omega);have aq:=(((d8.mono l7).mono l8).mono l9).mono (ae.trans az);have ab:=(bh.mono l9).mono (ae.trans az);refine G.l (ι:=Nat×List Value×(Option Addr×Nat)) (fun i=>[(0,sV a0 A.length c0),(7,.p 10005 0),(8,.p 10006 0),(10,.p 16005 0),(11,sV i.2.2.1 i.1 i.2.2.2),(79,sV b3 A.length am),(80,iV A.length),(81,iV i.1)])
  (fun i=>[(10005,⟨181,[bV fD.b,sV fD.a fD.n fD.c,sV (some ⟨V,0,none⟩) A.length c6]⟩),(10006,⟨181,[bV eb,sV ea b8 ec,sV an A.length a9]⟩),
   (16005,⟨185,[.v (.slice b3 A.length am),.v (.slice pa s.P.length pc),.v (.bool fv.b),.v (.slice fv.a fv.n fv.c),.v (.bool s.odd)]⟩)])
  (fun i u' m'=>i.1<=A.length/\AtP A9 u' i.2.1 ((qsZ A.length s.X s.v D D').take i.1)/\Af PH.mt m' (.slice i.2.2.1 i.1 i.2.2.2) 126 4 i.2.1) (fun i=>A.length-i.1) (0,[],(none,0))
  ⟨A1c _,AtP.nil,Af.nil _ _ _⟩ ?_
 rintro J ⟨i,es,⟨oa,oc⟩⟩ hJ eh ed a2 ⟨hi,hF,a3⟩;simp only at hi hF a3 hJ;have W:=hF.1;rw[A0q]at W;by_cases z:i<A.length
 ·refine G.lT i A.length ?_;have dl:i<s.X.length:=by rw[ac.1];exact z
  have dp:s.X[i]?=some s.X[i]:=A0i dl;have dm:s.X[i].length=A.length+1:=by have:=ac.2 i z;rwa[Qb (by rw[ac.1];exact z)]at this
  obtain⟨b6,cr,e4,rfl,bb,d⟩:=LP.at (K0.mono hS a2) dp;obtain⟨e1,cw,rfl⟩:=LP.opn d;rw[dm]at d bb;obtain⟨b7,cs,e5,rfl,d5,ba⟩:=LP.at d (j:=A.length) (x:=enZ s.X i A.length) (by
   unfold enZ;rw[Qb (by rw[ac.1];exact z),Aah oV];exact A0i oV)
  obtain⟨d0,rfl⟩:=ba.opN;refine G.a b6 cr A.length am i 1 z<|G.lU none b6 (cr+i*1) _ bb<|G.a b7 cs (A.length+1) cw A.length 2 oV<|G.lU (some 2) b7 (cs+A.length*2) (nv d0) d5 ?_;have ca:=cb i A.length;have be:=aq.mono a2;have ap:=ab.mono a2;refine G.c call100 (El ba be (A0l ca oV) (A0l bs oV)) ?_;intro et ej af cd;obtain⟨e7,rfl⟩:=cd.opN;refine G.c call100 (El ((hV.mono a2).mono af) (ap.mono af) (A0l ax oV) (A0l aj oV)) ?_;intro eu ek b0 ce;obtain⟨f18,rfl⟩:=ce.opN;have bq:nl (enZ s.X i A.length*(D:Int)).natAbs<=2*1000000000:=B5 (A0l ca al) (A0l bs oV);have br:nl (s.v*(D':Int)).natAbs<=2*1000000000:=B5 (A0l ax al) (A0l aj oV);have cc:s.v*(D':Int)≠0:=A6g c4 oV;refine G.c call99 (Rb (cd.mono b0) ce (A0l bq oV) (A0l br oV) cc) ?_;intro ct dw ch ay;have bt:Bm 4 [ct]:=(AtP.nil.snoc ay:AtP A9 dw [ct] [_]).ok4;obtain⟨x1,x2,x3,x4,x5,x6,x7,x8,rfl⟩:=ay.opn;refine G.B 126 4 64 (.agg #[.bool false,.slice none 0 0,.bool false,.slice none 0 0]) [.agg #[.bool x1,.slice x2 x3 x4,.bool x5,.slice x6 x7 x8]] bt ?_;intro d2 em b1 cz;refine G.append 126 4 64 (.agg #[.bool false,.slice none 0 0,.bool false,.slice none 0 0]) PH.mt es [.agg #[.bool x1,.slice x2 x3 x4,.bool x5,.slice x6 x7 x8]] (.slice oa i oc) d2 0 1 1 kV rfl rfl oV a3 cz bt rfl oV oV oV ?_;intro ew ee a4;obtain⟨cu,cx,rfl⟩:=a4.shape;have el:(es++[Value.agg #[.bool x1,.slice x2 x3 x4,.bool x5,.slice x6 x7 x8]]).length=i+1:=by rw[A03,W,bw];simp;omega
  rw[el]at a4⊢;refine G.i i<|G.b (hJ (i+1,es++[Value.agg #[.bool x1,.slice x2 x3 x4,.bool x5,.slice x6 x7 x8]],(cu,cx)) _ _ _ cV ((((a2.trans af).trans b0).trans ch).trans b1) ⟨dV,?_,a4⟩ dV);dsimp only;have dk:(qsZ A.length s.X s.v D D')[i]?=some (Rat.divInt (enZ s.X i A.length*(D:Int)) (s.v*(D':Int))):=by
   rw[<-Aqp z,E7 oV];exact A0i oV
  rw[A0t,dk];exact (hF.mono fun _ _ k=>k.mono (((af.trans b0).trans ch).trans b1)).snoc (ay.mono b1)
 obtain rfl:i=A.length:=oV
 refine G.lF A.length A.length ?_;rw[A00 oV]at hF;refine G.give PH.mt es _ kV a3 (fun _=>.inl rfl) ?_;intro du cg bi;have d9:Jx du (.slice oa A.length oc) (qsZ A.length s.X s.v D D'):=⟨es,bi,hF.mono fun _ _ k=>k.mono cg⟩;have dd:∀ q∈qsZ A.length s.X s.v D D',Tx q:=fun q hq=>by
  obtain⟨j,hj,rfl⟩:=A2b.1 hq;rw[<-E7 hj];exact c2 _ bx j oV
 refine G.c call101 (Ail (((ht.mono cn).mono l9).mono (((ae.trans az).trans a2).trans cg)) d9 dd oV) ?_;rintro er dv a8 ⟨r,rfl,R⟩;exact G.r (.tuple #[r,.int .i64 0]) ⟨rfl,_,r,rfl,bw,bx,R⟩
end
section
variable [Cj] [Dd]
section
variable {P:Program} {id:Nat} {ops:Array Oper} {dr:Bool} {Fin:S->PH->PH->Prop} {c:Cx} {Q:Exit->Act->World->Prop}
def Ww (P:Program)(id:Nat)(ops:Array Oper)(post:List Nat)(Fin:S->PH->PH->Prop):Nat->List Nat->S->PH->PH->Prop
 |0,_,s,u,m=>Ob P id ops true Fin post s u m
 |n+1,A,s,u,m=>∀ a∈A,(∀ b∈A,b≠a->bef ops ops.size a b=false)->Ob P id ops true (Ww P id ops post Fin n (A.erase a)) [a] s u m
theorem Ob.wpAnyT {s0:S}(N:Pb s0)(hE:(List.range ops.size).all (L3 ops)=true)(hF:∀ s u m ρ a w,Fin s u m->Rel c s u m ρ a w->Q .normal a w){g A0:List Nat}(Y:∀ y∈g,∀ a∈A0,bef ops ops.size y a=true)(a4:∀ a∈A0,∀ y∈g,dir ops a y=false) :
 ∀ (n k:Nat) (A C:List Nat) (z:Array Bool) {s:S} {u m:PH} {ρ:Nat->Nat} {a:Act} {w:World},A.length=k->(∀ x∈A,x∈A0)->A.Pairwise (fun x y=>dir ops x y=false)->C.length+(k+g.length)=n->Mz ops z (C++(A++g)) ->
  (C++g).Pairwise (fun x y=>Il ops s0 x y=true)->(∀ x∈C,∀ y∈A,Il ops s0 x y=true)->G6 ops s0 s->Ob P id ops true (Ww P id ops g Fin k A) C s u m->Rel c s u m ρ a w->Go.wpAny P .any ops Q n z a w:=by
 intro n;induction n with
 |zero =>
  intro k A C z s u m ρ a w X L U O d hP J H hO Z;obtain rfl:k=0:=oV;obtain rfl:=A14 X;exact d.any N hE hF (by simp only[A03,A3q];omega) hP H (Ob.append hO) Z
 |succ n ih =>
  intro k A C z s u m ρ a w X L U O d hP J H hO Z;cases A with
  |nil =>
   simp at X;subst X;exact d.any N hE hF gV hP H (Ob.append hO) Z
  |cons b A' =>
   obtain⟨k,rfl⟩:∃ k',k=k'+1:=⟨k-1,by simp at X;omega⟩;refine⟨fun R=>?_,fun i hi=>?_⟩
   ·cases C with
    |nil =>
     have:=Mz.first (t:=b) (T:=A'++g) d hE fun x E=>by
      rcases A04.1 E with E|E
      ·simp_all
      grind
     rw[R]at this;cases this
    |cons t T' =>
     have:=Mz.first (t:=t) (T:=T'++(b::A'++g)) d hE fun x E=>by
      rcases A04.1 E with E|E
      ·exact Tr (A64 hP (by simp[E]))
      rcases A04.1 E with E|E
      ·exact Tr (J t mV x E)
      exact Tr (A64 hP (by simp[E]))
     rw[R]at this;cases this
   obtain⟨h1,h2,o,ho,F⟩:=Aa5.1 hi;have I:=(d.mem i h1).1 h2;rcases A04.1 I with I|I
   ·obtain⟨A1,B1,rfl⟩:=A6c I;have j:Mz ops z (A1++i::(B1++(b::A'++g))):=by grind
    have a1:(A1++i::(B1++g)).Pairwise (fun x y=>Il ops s0 x y=true):=by grind
    have a0:=j.swaps (A:=A1) (s0:=s0) (fun x E=>by simp[E]) ho F fun x E=>(A4z.1 a1).2.2 x E i mV;have V:=Ob.bubble N A1 a0 Z.lv H hO;refine wpOp_mono (fun a' w' ⟨s',u',m',ρ',r1,ra,r2⟩=>?_) (V.step (Q:=Q) Z);refine ih (k+1) (b::A') (A1++B1) _ X L U (by simp at O⊢;omega) (by rw[A2m];exact j.next ho F) ?_ (fun x E y hy=>J x (by simp at E⊢;rcases E with h|h<;>simp[h]) y hy) (H.trans ra) r2 r1
    rw[A2m];exact a1.sublist (List.Sublist.append_left (List.sublist_cons_self i _) A1)
   rcases A04.1 I with I|I
   ·have a3:(C++(b::A'++g)).Perm (C++i::((b::A').erase i++g)):=by
     refine List.Perm.append_left C ?_;rw[<-A5a];exact (List.perm_cons_erase I).append_right g
    have j:=d.perm a3;have a0:=j.swaps (A:=C) (s0:=s0) (fun x E=>by simp[E]) ho F fun x E=>J x E i I;have W:∀ b'∈b::A',b'≠i->bef ops ops.size i b'=false:=fun b' a2 a5=>by
     cases e:bef ops ops.size i b' with
     |false=>rfl
     |true=>exact (d.no (x:=b') (by simp at a2⊢;rcases a2 with h|h<;>simp[h]) (Jp d.cl ops.size i (fun o' K=>by rw[ho]at K;obtain rfl:=A2k K;exact F) e)).elim
    have V:=Ob.bubble (B:=[]) N C a0 Z.lv H (Ob.append (l2:=[i]) (hO.fin fun s u m h=>h i I W));refine wpOp_mono (fun a' w' ⟨s',u',m',ρ',r1,ra,r2⟩=>?_) (V.step (Q:=Q) Z);rw[A1i]at r2;exact ih k ((b::A').erase i) C _ (by rw[List.length_erase_of_mem I];simp at X⊢;omega) (fun x E=>L x (A9o E)) (U.sublist List.erase_sublist) oV (j.next ho F) hP (fun x E y hy=>J x E y (A9o hy)) (H.trans ra) r2 r1
   exfalso;exact d.no (x:=b) mV (Jp d.cl ops.size i (fun o' K=>by rw[ho]at K;obtain rfl:=A2k K;exact F) (Y i I b (L b mV)))
def Ajp (ops:Array Oper):List Nat->Bool
 |[]=>true
 |x::l=>l.all (fun y=>!dir ops x y)&&Ajp ops l
def Wg:∀ {l:List Nat},Ajp ops l=true->l.Pairwise (fun x y=>dir ops x y=false)
 |[],_=>.nil
 |x::l,h=>by
  unfold Ajp at h;rw[A1b,A06]at h;exact .cons (fun y d=>by simpa using h.1 y d) (Wg h.2)
def Aqo (ops:Array Oper)(s:S)(pre A post:List Nat):Bool :=
 Nat.beq (pre.length+(A.length+post.length)) ops.size&&(List.range ops.size).all (fun i=>(pre++(A++post)).contains i)&&(pre++(A++post)).all (fun i=>Nat.blt i ops.size)&&decide ((pre++(A++post)).Nodup)&&Yq ops s (pre++post) &&
  pre.all (fun x=>A.all fun y=>Il ops s x y)&&Ajp ops A&&(List.range ops.size).all (L3 ops)&&post.all (fun y=>A.all fun a=>bef ops ops.size y a)&&A.all (fun a=>post.all fun y=>!dir ops a y)
end
section
variable {P:Program} {fn:Func} {Post:Ca}
theorem Sym.reg_tree (V:P.follows .mixedOrders=true){id:Nat}{ops:Array Oper}{e A d:List Nat}{s:S}(E:Aqo ops s e A d=true){k:List KI}{u m:PH}
 (h:Ob P id ops true (Ww P id ops d (Nz P fn Post k) A.length A) e s u m):Nz P fn Post (.code (.region id ops true)::k) s u m:=by
 intro c ρ a w H t;unfold Aqo at E;simp only[A1b]at E;obtain⟨⟨⟨⟨⟨⟨⟨⟨⟨z,L⟩,I⟩,C⟩,N⟩,J⟩,O⟩,R⟩,K⟩,g⟩:=E;have z:=A1u z;rw[A06]at L I J K g;have C:=of_decide_eq_true C;refine wp_region_any V ?_;refine Ob.wpAnyT (c:=c) (A0:=A) t.lv R (fun s u m ρ a w T t=>T c ρ a w H t) (fun y j a F=>by have:=K y j;rw[A06]at this;exact this a F) (fun a F y j=>by have:=g a F;rw[A06]at this;simpa using this y j) _ A.length A e _ rfl (fun _ h=>h) (Wg O) z
  ⟨mV,fun i n=>?_,fun i n=>A8r▸I i n,C,fun i n=>?_⟩ (Ke N) (fun x W y j=>by have:=J x W;rw[A06]at this;exact this y j) (G6.refl _ _) h t.drew
 ·simp_all
 simp only[A2d]at n;by_cases U:i<ops.size
 ·grind
 grind
def S.put4 (s:S)(d1 d2 d3 d4:Nat)(x1 x2 x3 x4:SV):S:=(((s.put (some d1) x1).put (some d2) x2).put (some d3) x3).put (some d4) x4
def Ip (s:S)(d1 d2 d3 d4:Nat)(x1 x2 x3 x4:SV)(t:Nat):(s.put4 d1 d2 d3 d4 x1 x2 x3 x4).tm t=if t=d4 then x4 else if t=d3 then x3 else if t=d2 then x2 else if t=d1 then x1 else s.tm t:=by
 unfold S.put4;have key:∀ (s:S) (d:Nat) (x:SV),(s.put (some d) x).tm t=if t=d then x else s.tm t:=fun s d x=>by
  by_cases e:t=d
  ·subst e;rw[Bt,if_pos rfl]
  rw[Gc _ _ _ e,if_neg e]
 rw[key,key,key,key]
theorem Al5 (s:S)(d1 d2 d3 d4:Nat):s=s.put4 d1 d2 d3 d4 (s.tm d1) (s.tm d2) (s.tm d3) (s.tm d4):=by
 refine S.ext' rfl (funext fun t=>?_) rfl;rw[Ip];split
 ·grind
 grind
section
variable {s:S} {d1 d2 d3 d4:Nat} {x1 x2 x3 x4 y:SV} (h:d1≠d2/\d1≠d3/\d1≠d4/\d2≠d3/\d2≠d4/\d3≠d4)
include h
def Aw8:(s.put4 d1 d2 d3 d4 x1 x2 x3 x4).put (some d1) y=s.put4 d1 d2 d3 d4 y x2 x3 x4:=by
 refine S.ext' rfl (funext fun t=>?_) rfl;rw[Ip];by_cases e:t=d1
 ·subst e;rw[Bt,if_neg h.2.2.1,if_neg h.2.1,if_neg h.1,if_pos rfl]
 rw[Gc _ _ _ e,Ip,if_neg e,if_neg e]
def Awu:(s.put4 d1 d2 d3 d4 x1 x2 x3 x4).put (some d2) y=s.put4 d1 d2 d3 d4 x1 y x3 x4:=by
 refine S.ext' rfl (funext fun t=>?_) rfl;rw[Ip];by_cases e:t=d2
 ·subst e;rw[Bt,if_neg h.2.2.2.2.1,if_neg h.2.2.2.1,if_pos rfl]
 rw[Gc _ _ _ e,Ip,if_neg e,if_neg e]
def Ayv:(s.put4 d1 d2 d3 d4 x1 x2 x3 x4).put (some d3) y=s.put4 d1 d2 d3 d4 x1 x2 y x4:=by
 refine S.ext' rfl (funext fun t=>?_) rfl;rw[Ip];by_cases e:t=d3
 ·subst e;rw[Bt,if_neg h.2.2.2.2.2,if_pos rfl]
 rw[Gc _ _ _ e,Ip,if_neg e,if_neg e]
def Axj:(s.put4 d1 d2 d3 d4 x1 x2 x3 x4).put (some d4) y=s.put4 d1 d2 d3 d4 x1 x2 x3 y:=by
 refine S.ext' rfl (funext fun t=>?_) rfl;rw[Ip];by_cases e:t=d4
 ·subst e;rw[Bt,if_pos rfl]
 rw[Gc _ _ _ e,Ip,if_neg e,if_neg e]
end
theorem Ob.layM {P:Program}[A6 P]{id:Nat}{ops:Array Oper}{Fin:S->PH->PH->Prop}{a d:Nat}{kk:List KI}{s:S}{u m:PH}(e:TypeId)(sz bt:Nat)(z:Value)(es:List Value)
 (h:Ak P (.reg id ops true [a]::kk,s)=.buildS (some (e,sz,bt,z)) es.length (es.zipIdx.map fun p=>(p.2,p.1))) (hd:(ops[a]?).bind (·.dst)=some d) (H:Bm sz es) (a6:z.cells.size=sz) (Z:0<sz) (W:0<es.length) (hb:es.length*sz<=16777216)
 (k:∀ g C,Af m C (.slice (some ⟨g,0,none⟩) es.length es.length) e sz es->Fin (s.put (some d) (.v (.slice (some ⟨g,0,none⟩) es.length es.length))) u C):Ob P id ops true Fin [a] s u m:=by
 obtain⟨a7,a0,a2,i',l',a8,aa,o,F,Y,hg,O,hv,hs,n,a5⟩:=E8 h mV;obtain⟨⟨⟨rfl,rfl,rfl,rfl,rfl⟩,rfl⟩,rfl⟩:=F;have E:o.dst=some d:=by grind
 refine Ob.big (K:=fun v' u' C=>u'=u/\PH.le m C/\∃ g,v'=.slice (some ⟨g,0,none⟩) es.length es.length/\Af m C (.slice (some ⟨g,0,none⟩) es.length es.length) e sz es) Y hg O hv hs (by
  obtain⟨t,qs,J,_⟩:=Ef n;rw[J];rfl) (fun v u' C N=>.inl N.2.1) (fun w T=>?_) (fun v u' C a4 N=>?_)
 ·obtain⟨t,qs,F,J,hi⟩:=Ef n;obtain⟨a3,a9,a1,pos,I,L⟩:=o;simp only at F;subst F;obtain⟨hu,i,U,V,rfl,rfl⟩:=Dw hi;obtain⟨g1,g2,g3,g4⟩:=T.newM (cs:=(Bb es).toArray) (t:=e) (by simpa using Gu H);have R:=B7 H;have X:es.length*i.size≠0:=by have:=A5e W Z;omega
  have j:=Rs es 0 ((Array.range (es.length*i.size)).map (z.cells[· % z.cells.size]!)) H mV;have e0:((Array.range (es.length*i.size)).map (z.cells[· % z.cells.size]!)).toList.drop (es.length*i.size) = []:=mV;simp only[A2e,e0]at j;refine B0 (w':=w.alloc (.cells (Bb es).toArray e (0,0))) (v:=.slice (some ⟨w.heap.size,0,none⟩) es.length es.length) ?_ ⟨u,_,g1,g2,rfl,I9 _ g3,_,rfl,H,.inr ⟨w.heap.size,es.length,[],g3,by rw[A1i],rfl,A0s _,by rw[A1i,R],mV⟩⟩;simp only[execOp,J];simp[Instr.buildSlice,run_underlying hu,sizeOf,typeInfo,zeroValue,U,V,X,j,newRow,show ¬ 16777216<es.length*i.size by omega]
 obtain⟨rfl,_,g,rfl,hA⟩:=N;rw[E];exact .nil (k g C hA)
theorem Ob.callV {P:Program}[A6 P]{id:Nat}{ops:Array Oper}{Fin:S->PH->PH->Prop}{a d:Nat}{kk:List KI}{s:S}{u m:PH}(f:Nat)(args:List Value){R:Value->PH->Prop}
 (h:Ak P (.reg id ops true [a]::kk,s)=.call f args) (hd:(ops[a]?).bind (·.dst)=some d) (V:∀ args w,(callFunc f args).run P w=.ok (.enter f args) w) (c:Fn0 P f args u R)
 (k:∀ v j,PH.le u j->R v j->Fin (s.put (some d) (.v v)) j m):Ob P id ops true Fin [a] s u m:=by
 obtain⟨a0,J,L,i',l',a1,a2,o,C,I,X,F,hv,Z,g,Y⟩:=E8 h mV;obtain⟨⟨⟨rfl,rfl,rfl,rfl,rfl⟩,rfl⟩,rfl⟩:=C;have n:o.dst=some d:=by grind
 refine Ob.big (K:=fun v' j z=>z=m/\R v' j) I X F hv Z (Dh _ _ g) (fun v j z E=>.inl (by rw[E.1];exact PH.le_refl _)) (fun w t=>?_) (fun v j z H E=>?_)
 ·refine Hf g V w _ ?_;refine (c w t.noM).mono fun e w' W=>?_;obtain⟨v,j,z,C,N,O,rfl,T⟩:=W;obtain⟨g1,g2⟩:=t.frame N O;exact⟨v,C,j,m,g1,g2,rfl,T⟩
 obtain⟨rfl,U⟩:=E;rw[n];exact .nil (k v j H U)
end
def Ahu (P:Program)(pre l:List Nat)(d1 d2 d3 d4:Nat)(x1 x2 x3 x4:SV)(st:List KI×S):List KI×S:=match st with
 |(.code (.region id ops true)::k,s)=>match V8 P id ops pre s with
  |some s'=>(.reg id ops true l::k,s'.put4 d1 d2 d3 d4 x1 x2 x3 x4)
  |none=>st
 |_=>st
def Ay4 (P:Program)(pre:List Nat)(q1 q2 r1 r2:Nat)(post:List Nat)(d1 d2 d3 d4:Nat)(st:List KI×S):Bool:=match st with
 |(.code (.region _ ops true)::_,s)=>Aqo ops s pre [q1,q2,r1,r2] post&&(match st.1 with|.code (.region id ops _)::_=>(V8 P id ops pre s).isSome|_=>false)&&bef ops ops.size q2 q1&&bef ops ops.size r2 r1 &&
  decide ((ops[q1]?).bind (·.dst)=some d1/\(ops[q2]?).bind (·.dst)=some d2/\(ops[r1]?).bind (·.dst)=some d3/\(ops[r2]?).bind (·.dst)=some d4)&&decide (d1≠d2/\d1≠d3/\d1≠d4/\d2≠d3/\d2≠d4/\d3≠d4)&&decide ([q1,q2,r1,r2].Nodup)
 |_=>false
structure Lay where
 e:TypeId
 sz:Nat
 bt:Nat
 z:Value
 es:List Value
structure An3 (L:Lay):Prop where
 ho:Bm L.sz L.es
 hzs:L.z.cells.size=L.sz
 hsz:0<L.sz
 hn0:0<L.es.length
 hb:L.es.length*L.sz<=16777216
def Lay.stop (L:Lay):Tn:=.buildS (some (L.e,L.sz,L.bt,L.z)) L.es.length (L.es.zipIdx.map fun p=>(p.2,p.1))
def Lay.v (L:Lay)(g:Nat):Value:=.slice (some ⟨g,0,none⟩) L.es.length L.es.length
def Lay.arr (L:Lay)(g:Nat):Arr:=⟨L.v g,L.e,L.sz,L.es⟩
section rules
variable {P:Program} [A6 P] {fn:Func} {Post:Ca} {st:List KI×S} {u m:PH}
theorem G.fan (O:List Nat)(q1 q2 r1 r2:Nat)(n:List Nat)(d1 d2 d3 d4:Nat)(t:Lay)(K:Nat->Lay)(J:Lay)(T:Value)(f:Nat)(args:List Value)(h:Ay4 P O q1 q2 r1 r2 n d1 d2 d3 d4 (adv P st)=true)
 (H1:∀ x1 x2 x3 x4,Ak P (Ahu P O [q1] d1 d2 d3 d4 x1 x2 x3 x4 (adv P st))=t.stop) (o1:An3 t)
 (H2:∀ g x2 x3 x4,Ak P (Ahu P O [q2] d1 d2 d3 d4 (.v (t.v g)) x2 x3 x4 (adv P st))=(K g).stop) (o2:∀ g,An3 (K g))
 (H3:∀ x1 x2 x3 x4,Ak P (Ahu P O [r1] d1 d2 d3 d4 x1 x2 x3 x4 (adv P st))=.call f args) (hc:∀ args w,(callFunc f args).run P w=.ok (.enter f args) w) (c:∀ j,PH.le u j->Fn0 P f args j fun v _=>v=T)
 (H4:∀ x1 x2 x4,Ak P (Ahu P O [r2] d1 d2 d3 d4 x1 x2 (.v T) x4 (adv P st))=J.stop) (o4:An3 J)
 (k:∀ g1 g2 L j d,PH.le u j->Bag d [J.arr L,(K g1).arr g2,t.arr g1]->G P fn Post (Ahu P O n d1 d2 d3 d4 (.v (t.v g1)) (.v ((K g1).v g2)) (.v T) (.v (J.v L)) (adv P st)) j d):G P fn Post st u m:=by
 refine G.stp ⟨?_⟩;generalize adv P st=st' at h H1 H2 H3 H4 k;unfold Ay4 at h;split at h
 ·rename_i id ops kk s;simp only[A1b]at h;obtain⟨⟨⟨⟨⟨⟨h1,h2⟩,hq⟩,hr⟩,hd⟩,R⟩,a0⟩:=h;obtain⟨H,a5⟩:=A55.1 h2;obtain⟨e1,e2,e3,e4⟩:=of_decide_eq_true hd;have R:=of_decide_eq_true R;have a0:=of_decide_eq_true a0;simp only[A3a,A0v,A1q,or_false,not_or,not_false_eq_true,List.nodup_nil,and_true]at a0;obtain⟨⟨ag,ad,ae⟩,⟨a6,a7⟩,af⟩:=a0;have e0:∀ l x1 x2 x3 x4,Ahu P O l d1 d2 d3 d4 x1 x2 x3 x4 (.code (.region id ops true)::kk,s)=(.reg id ops true l::kk,H.put4 d1 d2 d3 d4 x1 x2 x3 x4):=fun l x1 x2 x3 x4=>by unfold Ahu;simp only[a5]
  simp only[e0]at H1 H2 H3 H4 k;refine Sym.reg_tree A6.mx h1 (Ob.autos a5 ?_);rw[Al5 H d1 d2 d3 d4];generalize H.tm d1=x1;generalize H.tm d2=x2;generalize H.tm d3=x3;generalize H.tm d4=x4;have W:∀ {Fin x1 x2 x3 x4 u m},(∀ g d,(t.arr g).At m d->Fin (H.put4 d1 d2 d3 d4 (.v (t.v g)) x2 x3 x4) u d)->Ob P id ops true Fin [q1] (H.put4 d1 d2 d3 d4 x1 x2 x3 x4) u m:=fun {Fin x1 x2 x3 x4 u m} hk =>
   Ob.layM t.e t.sz t.bt t.z t.es (H1 x1 x2 x3 x4) e1 o1.ho o1.hzs o1.hsz o1.hn0 o1.hb fun g d C=>by rw[Aw8 R];exact hk g d C
  have X:∀ {Fin g1 x2 x3 x4 u m},(∀ g d,((K g1).arr g).At m d->Fin (H.put4 d1 d2 d3 d4 (.v (t.v g1)) (.v ((K g1).v g)) x3 x4) u d)->Ob P id ops true Fin [q2] (H.put4 d1 d2 d3 d4 (.v (t.v g1)) x2 x3 x4) u m:=fun {Fin g1 x2 x3 x4 u m} hk =>
   Ob.layM (K g1).e (K g1).sz (K g1).bt (K g1).z (K g1).es (H2 g1 x2 x3 x4) e2 (o2 g1).ho (o2 g1).hzs (o2 g1).hsz (o2 g1).hn0 (o2 g1).hb fun g d C=>by rw[Awu R];exact hk g d C
  have a2:∀ {Fin x1 x2 x3 x4 m} (u1:PH),PH.le u u1->(∀ j,PH.le u1 j->Fin (H.put4 d1 d2 d3 d4 x1 x2 (.v T) x4) j m)->Ob P id ops true Fin [r1] (H.put4 d1 d2 d3 d4 x1 x2 x3 x4) u1 m:=fun {Fin x1 x2 x3 x4 m} u1 hle hk =>
   Ob.callV f args (H3 x1 x2 x3 x4) e3 hc (c u1 hle) fun v j F hv=>by rw[Ayv R,hv];exact hk j F
  have Y:∀ {Fin x1 x2 x4 u m},(∀ g d,(J.arr g).At m d->Fin (H.put4 d1 d2 d3 d4 x1 x2 (.v T) (.v (J.v g))) u d)->Ob P id ops true Fin [r2] (H.put4 d1 d2 d3 d4 x1 x2 (.v T) x4) u m:=fun {Fin x1 x2 x4 u m} hk =>
   Ob.layM J.e J.sz J.bt J.z J.es (H4 x1 x2 x4) e4 o4.ho o4.hzs o4.hsz o4.hn0 o4.hb fun g d C=>by rw[Axj R];exact hk g d C
  have a1:∀ {g1 g2 L j d},PH.le u j->Bag d [J.arr L,(K g1).arr g2,t.arr g1]->Ww P id ops n (Nz P fn Post kk) 0 [] (H.put4 d1 d2 d3 d4 (.v (t.v g1)) (.v ((K g1).v g2)) (.v T) (.v (J.v L))) j d:=fun F N=>(k _ _ _ _ _ F N).out;have ab:∀ {g1 g2 x4 j d},PH.le u j->Bag d [(K g1).arr g2,t.arr g1]->Ww P id ops n (Nz P fn Post kk) 1 [r2] (H.put4 d1 d2 d3 d4 (.v (t.v g1)) (.v ((K g1).v g2)) (.v T) x4) j d:=fun {g1 g2 x4 j d} F N a E _=>by
   simp only[A0v,A1q,or_false]at E;subst E;rw[A25];exact Y fun g I C=>a1 F ⟨d,C,N⟩
  have a8:∀ {g1 L x2 j d},PH.le u j->Bag d [J.arr L,t.arr g1]->Ww P id ops n (Nz P fn Post kk) 1 [q2] (H.put4 d1 d2 d3 d4 (.v (t.v g1)) x2 (.v T) (.v (J.v L))) j d:=fun {g1 L x2 j d} F N a E _=>by
   simp only[A0v,A1q,or_false]at E;subst E;rw[A25];exact X fun g I C=>a1 F (Bag.perm (List.Perm.swap _ _ _) (show Bag I [(K g1).arr g,J.arr L,t.arr g1] from⟨d,C,N⟩))
  have Z:∀ {g1 x2 x4 j d},PH.le u j->Bag d [t.arr g1]->Ww P id ops n (Nz P fn Post kk) 2 [q2,r2] (H.put4 d1 d2 d3 d4 (.v (t.v g1)) x2 (.v T) x4) j d:=fun {g1 x2 x4 j d} F N a E _=>by
   simp only[A0v,A1q,or_false]at E;rcases E with rfl|rfl
   ·rw[A25];exact X fun g I C=>ab F ⟨d,C,N⟩
   rw[A45 (by simpa using a7),A25];exact Y fun g I C=>a8 F ⟨d,C,N⟩
  have a4:∀ {g1 g2 x3 x4 j d},PH.le u j->Bag d [(K g1).arr g2,t.arr g1]->Ww P id ops n (Nz P fn Post kk) 2 [r1,r2] (H.put4 d1 d2 d3 d4 (.v (t.v g1)) (.v ((K g1).v g2)) x3 x4) j d:=fun {g1 g2 x3 x4 j d} F N a E U=>by
   simp only[A0v,A1q,or_false]at E;rcases E with rfl|rfl
   ·rw[A25];exact a2 _ F fun ac V=>ab (F.trans V) N
   have:=U r1 mV af;rw[hr]at this;cases this
  have a3:∀ {L x1 x2 j d},PH.le u j->Bag d [J.arr L]->Ww P id ops n (Nz P fn Post kk) 2 [q1,q2] (H.put4 d1 d2 d3 d4 x1 x2 (.v T) (.v (J.v L))) j d:=fun {L x1 x2 j d} F N a E U=>by
   simp only[A0v,A1q,or_false]at E;rcases E with rfl|rfl
   ·rw[A25];exact W fun g I C=>a8 F (Bag.perm (List.Perm.swap _ _ _) (show Bag I [t.arr g,J.arr L] from⟨d,C,N⟩))
   grind
  have a9:∀ {g1 x2 x3 x4 j d},PH.le u j->Bag d [t.arr g1]->Ww P id ops n (Nz P fn Post kk) 3 [q2,r1,r2] (H.put4 d1 d2 d3 d4 (.v (t.v g1)) x2 x3 x4) j d:=fun {g1 x2 x3 x4 j d} F N a E U=>by
   simp only[A0v,A1q,or_false]at E;rcases E with rfl|rfl|rfl
   ·rw[A25];exact X fun g I C=>a4 F ⟨d,C,N⟩
   ·rw[A45 (by simpa using a6),A25];exact a2 _ F fun ac V=>Z (F.trans V) N
   grind
  have aa:∀ {x1 x2 x4 j d},PH.le u j->Ww P id ops n (Nz P fn Post kk) 3 [q1,q2,r2] (H.put4 d1 d2 d3 d4 x1 x2 (.v T) x4) j d:=fun {x1 x2 x4 j d} F a E U=>by
   simp only[A0v,A1q,or_false]at E;rcases E with rfl|rfl|rfl
   ·rw[A25];exact W fun g I C=>Z F ⟨d,C,trivial⟩
   ·grind
   rw[A45 (by simpa using ae),A45 (by simpa using a7),A25];exact Y fun g I C=>a3 F ⟨d,C,trivial⟩
  intro a E U;simp only[A0v,A1q,or_false]at E;rcases E with rfl|rfl|rfl|rfl
  ·rw[A25];exact W fun g I C=>a9 (PH.le_refl _) ⟨m,C,trivial⟩
  ·grind
  ·rw[A45 (by simpa using ad),A45 (by simpa using a6),A25];exact a2 _ (PH.le_refl _) fun ac V=>aa V
  grind
 cases h
end rules
end
section
structure Mx (u:PH)(v cv:Value)(T:List (List UInt8×Nat))(R:List Bw)(F:List Ao)(lab:Int)(C:CF)(K k:Nat):Prop where
 sch:Ic u v T R F lab
 ok:B2 u T R F lab
 cof:J0 u cv C K
 sC:CFS C
 vC:CFV C
 K:K<=10000
 bel:∀ p,C.s p≠0->Ac6 F lab p
 mom:Aem C k
 p24:∀ P,Dk F C P->P.length<=24
 lab0:0<=lab
section
variable {u:PH} {v cv:Value} {T:List (List UInt8×Nat)} {R:List Bw} {F:List Ao} {lab:Int} {C:CF} {K k:Nat} {P:List Par}
def Mx.mono {u':PH}(h:Mx u v cv T R F lab C K k)(hl:PH.le u u'):Mx u' v cv T R F lab C K k :=
 ⟨h.sch.mono hl,h.ok.mono hl,h.cof.mono hl,h.sC,h.vC,h.K,h.bel,h.mom,h.p24,h.lab0⟩
def Yi (C:CF)(P:List Par)(i:Nat):List (List Rat):=((Ae P).take (i+1)).map (Aq C none)::(P.take i).map fun p=>(Ae P).map (Aq C (some p))
def Amz:Yi C P P.length=Kx C P:=by
 unfold Yi Kx;rw[show (Ae P).take (P.length+1)=Ae P by rw[A00 (by rw[Ba];omega)],A05]
 conv=>rhs;rw[show Ae P=none::P.map some from rfl]
 rw[A1t,List.map_map];rfl
def Ah4 (h:Mx u v cv T R F lab C K k) :
 Ah prog 58 [v,cv] u PH.mt fun r u' m'=>∃ (P:List Par) (pa:Option Addr) (V:Nat) (xa:Option Addr) (xc:Nat) (ra:Option Addr) (rc:Nat) (m:List (Value×List Value)),Dk F C P /\
  r=.tuple #[.agg #[.slice pa P.length V,.slice xa (P.length+1) xc,.slice ra (P.length+1) rc],.int .i64 0]/\Ab u' (.slice pa P.length V) 2 (P.map An)/\m.map (·.2)=(Kx C P).map txV /\
  Bag m' (C1 (.slice ra (P.length+1) rc,txV ((Ae P).map (Av C)))::oT (.slice xa (P.length+1) xc) m::m.map C1):=by
 have b4:=V2 h.sch h.ok h.cof h.sC h.vC (A0l h.K oV) h.bel;have an:=h.p24;have hK:=h.K;have ce:=h.lab0;have hS:=fun (u':PH) (l:PH.le u u') (p:Par)=>Az8 p (h.cof.mono l) oV;have hQ:=fun (u':PH) (l:PH.le u u') (p q:Par)=>Af3 p q (h.cof.mono l) oV;obtain⟨xa,xc,xb,xd,xe,xf,rfl,_⟩:=id h.sch;obtain⟨a1,n1,c1,a2,n2,c2,rfl⟩:=id h.cof.opn;refine Ah.o func58<|G.c call79 b4 ?_;intro v1 u1 l1 hp;obtain⟨ps,P,rfl,hL,_,a3⟩:=hp.resolve_left fun⟨_,L,h1,a3⟩=>by have:=an L a3;omega
 have cd:=an P a3;have cg:=Ba P;obtain⟨pa,V,rfl⟩:=hL.opn;rw[A0k]at hL⊢;refine G.nF 0 0<|G.lF lab 0<|G.fan [0,1,2,5,6,10] 3 4 7 8 [9,11] 33 34 37 38 ⟨30,1,16,.string (mkS []),[.string (mkS (Ag C.c))]⟩ (fun g=>⟨70,1,24,.slice none 0 0,[.slice (some ⟨g,0,none⟩) 1 1]⟩) ⟨30,1,16,.string (mkS []),[.string (mkS (Ag (C.s Eb)))]⟩ (.string (mkS (Ag (C.s Eb)))) _ _ kV
  (fun _ _ _ _=>kV) ⟨Do _,rfl,Nat.one_pos,Nat.one_pos,mV⟩ (fun _ _ _ _=>kV) (fun _=>⟨B6 _ _ _,rfl,Nat.one_pos,Nat.one_pos,mV⟩) (fun _ _ _ _=>kV) call128 (fun u' l=>hS u' (l1.trans l) Eb) (fun _ _ _=>kV) ⟨Do _,rfl,Nat.one_pos,Nat.one_pos,mV⟩ ?_
 intro g3 g4 g5 u2 m5 l2 aw;refine G.l (ι:=Nat×(Option Addr×Nat)×(Option Addr×Nat)×List (Value×List Value)) (fun i=>[(3,.p 1 0),(4,.p 2 0),(6,sV pa P.length V),(8,.p 6001 0),(9,.p 7010 0),(40,sV pa P.length V),(41,iV P.length),(42,iV i.1)])
  (fun i=>[(1,⟨34,[tV (Ag C.c),sV a1 n1 c1,sV a2 n2 c2]⟩),(2,⟨72,[sV none 0 0,sV none 0 0,sV none 0 0]⟩),(6001,⟨78,[iV (-1),tV []]⟩),
   (7010,⟨72,[.v (.slice pa P.length V),.v (.slice i.2.1.1 (i.1+1) i.2.1.2),.v (.slice i.2.2.1.1 (i.1+1) i.2.2.1.2)]⟩)])
  (fun i u' m'=>i.1<=P.length/\i.2.2.2.map (·.2)=(Yi C P i.1).map txV/\Bag m' (C1 (.slice i.2.2.1.1 (i.1+1) i.2.2.1.2,txV (((Ae P).take (i.1+1)).map (Av C)))::oT (.slice i.2.1.1 (i.1+1) i.2.1.2) i.2.2.2::i.2.2.2.map C1)) (fun i=>P.length-i.1)
  (0,(some ⟨g4,0,none⟩,1),(some ⟨g5,0,none⟩,1),[(.slice (some ⟨g3,0,none⟩) 1 1,txV [C.c])])
  ⟨oV,by unfold Yi Ae;rfl,aw⟩ ?_
 clear aw;rintro J ⟨i,⟨ya,N⟩,⟨ra,rc⟩,m⟩ hJ u5 m5 l5 ⟨hi,n,z⟩;simp only at hi n z hJ;have be:=(l1.trans l2).trans l5;have b6:m.length=i+1:=by have:=congrArg List.length n;rw[A0k,A0k]at this;rw[this];simp[Yi];omega
 by_cases b2:i<P.length
 ·refine G.lT i P.length ?_;obtain⟨p,af⟩:∃ p,P[i]?=some p:=⟨_,A0i b2⟩;have b8:(Ae P).take (i+1+1)=(Ae P).take (i+1)++[some p]:=by rw[Ez,Ez,A0t,af];simp
  obtain⟨bp,op,e0,ep⟩:=Ab.at' (hL.mono (l2.trans l5)) (j:=i) (e:=An p) (by simp[af]);subst e0;refine G.a bp op P.length V i 2 b2<|G.lU (some 2) bp (op+i*2) (.agg #[.int .i64 p.1,.string (mkS p.2)]) ep ?_;obtain⟨W,co,eo⟩:=z.ptr 1 rfl (fun e=>by
   have:(m.map (·.1)).length=0:=by rw[show m.map (·.1) = [] from e];rfl
   rw[A0k]at this;omega)
  have bm:(Value.slice ya (i+1) N)=.slice (some ⟨W,0,none⟩) (i+1) co:=by
   have e1:(oT (.slice ya (i+1) N) m).v=Value.slice ya (i+1) N:=rfl;rw[e1]at eo;rw[eo];have:(oT (.slice ya (i+1) N) m).es.length=i+1:=by show (m.map (·.1)).length=_;rw[A0k,b6]
   rw[this]
  cases bm;obtain⟨⟨v0,e0⟩,Y⟩:∃ x,m[0]?=some x:=⟨_,A0i oV⟩;have bu:e0=txV (((Ae P).take (i+1)).map (Aq C none)):=by
   have h1:=congrArg (fun l=>l[0]?) n;simp only[A0n,Y]at h1;simpa[Yi] using h1
  subst bu;have ae:(txV (((Ae P).take (i+1)).map (Aq C none))).length=i+1:=by rw[Cw,A0k,A0q];omega
  obtain⟨z0,a6,ez⟩:=z.shape 2 (x:=C1 (v0,txV (((Ae P).take (i+1)).map (Aq C none)))) (by simp[Y]);simp only[C1]at ez;rw[ae]at ez;subst ez;have b3:ElP m5 W (0+0*1) (.slice z0 (i+1) a6):=z.el 1 (x:=oT (.slice (some ⟨W,0,none⟩) (i+1) N) m) rfl rfl (by show (m.map (·.1))[0]?=_;rw[A0n,Y];rfl);refine G.a W 0 (i+1) N 0 1 oV<|G.lM none W (0+0*1) (.slice z0 (i+1) a6) b3<|G.c call128 (hS u5 be p) ?_;rintro v6 u6 l6 rfl;refine G.B 30 1 16 (.string (mkS [])) [.string (mkS (Ag (C.s p)))] (Do _) ?_;intro g7 u7 l7 e7;obtain⟨m0,I,E⟩:=z.focus 2 (x:=C1 (.slice z0 (i+1) a6,txV (((Ae P).take (i+1)).map (Aq C none)))) (by simp[Y]);rw[Fi]at I;refine G.append 30 1 16 (.string (mkS [])) m0 (txV (((Ae P).take (i+1)).map (Aq C none))) [.string (mkS (Ag (C.s p)))] (.slice z0 (i+1) a6) g7 0 1 1 kV rfl rfl oV I e7 (Do _) rfl oV (by rw[ae];omega) (by rw[ae];omega) ?_;intro v8 m8 a0;have e8:txV (((Ae P).take (i+1)).map (Aq C none))++[.string (mkS (Ag (C.s p)))]=txV (((Ae P).take (i+1+1)).map (Aq C none)):=by rw[b8,A02,Hs];rfl
  rw[e8]at a0;have bw:(txV (((Ae P).take (i+1+1)).map (Aq C none))).length=i+1+1:=by rw[Cw,A0k,A0q];omega
  obtain⟨a8,c8,rfl⟩:=a0.shape;rw[bw]at a0⊢;have ax:=E (C1 (.slice a8 (i+1+1) c8,txV (((Ae P).take (i+1+1)).map (Aq C none)))) m8 a0;obtain⟨m1,ah,X⟩:=ax.focus 1 rfl;rw[Aer]at ah;refine G.a W 0 (i+1) N 0 1 oV<|G.storeA 1 m1 _ W (i+1) N 0 (.slice a8 (i+1+1) c8) kV ah gV rfl rfl ?_;intro m9 bt;have ay:=X (oT (.slice (some ⟨W,0,none⟩) (i+1) N) (m.set 0 (.slice a8 (i+1+1) c8,txV (((Ae P).take (i+1+1)).map (Aq C none))))) m9 (by rw[Aer,A10];exact bt);obtain⟨d,H⟩:∃ r,r=m.set 0 (.slice a8 (i+1+1) c8,txV (((Ae P).take (i+1+1)).map (Aq C none))):=⟨_,rfl⟩;have a9:Bag m9 (C1 (.slice ra (i+1) rc,txV (((Ae P).take (i+1)).map (Av C)))::oT (.slice (some ⟨W,0,none⟩) (i+1) N) d::d.map C1):=by
   rw[H,A10];simpa using ay
  have c0:d.map (·.2)=(((Ae P).take (i+1+1)).map (Aq C none)::(P.take i).map fun p=>(Ae P).map (Aq C (some p))).map txV:=by
   rw[H,A10,n];rfl
  have b7:d.length=i+1:=by rw[H,A3r];exact b6
  clear ay ax E X I ah z n Y b3;have bf:=(be.trans l6).trans l7;refine G.c call128 (hS u7 bf p) ?_;rintro cp cj ai rfl;refine G.buildM 30 1 16 (.string (mkS [])) [.string (mkS (Ag (C.s p)))] kV (Do _) rfl oV mV mV ?_;intro bn ch a7;have bb:=bf.trans ai;have ao:=hL.mono ((((l2.trans l5).trans l6).trans l7).trans ai);refine G.l (ι:=Nat×(Option Addr×Nat)) (fun j=>[(3,.p 1 0),(4,.p 2 0),(6,sV (some ⟨bp,op,none⟩) P.length V),(8,.p 6001 0),(9,.p 7010 0),(11,.p 10002 0),(12,sV j.2.1 (j.1+1) j.2.2),(40,sV (some ⟨bp,op,none⟩) P.length V),(41,iV P.length),(42,iV i),(62,sV (some ⟨bp,op,none⟩) P.length V),(63,iV P.length),(64,iV j.1)])
   (fun j=>[(1,⟨34,[tV (Ag C.c),sV a1 n1 c1,sV a2 n2 c2]⟩),(2,⟨72,[sV none 0 0,sV none 0 0,sV none 0 0]⟩),(6001,⟨78,[iV (-1),tV []]⟩),
    (7010,⟨72,[.v (.slice (some ⟨bp,op,none⟩) P.length V),.v (.slice (some ⟨W,0,none⟩) (i+1) N),.v (.slice ra (i+1) rc)]⟩),(10002,⟨78,[.v (.int .i64 p.1),.v (.string (mkS p.2))]⟩)])
   (fun j u' m'=>j.1<=P.length/\Bag m' (C1 (.slice j.2.1 (j.1+1) j.2.2,txV (((Ae P).take (j.1+1)).map (Aq C (some p))))::C1 (.slice ra (i+1) rc,txV (((Ae P).take (i+1)).map (Av C)))::oT (.slice (some ⟨W,0,none⟩) (i+1) N) d::d.map C1)) (fun j=>P.length-j.1)
   (0,some ⟨bn,0,none⟩,1) ⟨oV,m9,a7,a9⟩ ?_
  clear a9 a7;rintro J2 ⟨j,la,Z⟩ ad cb ci a5 ⟨hj,a4⟩;simp only at hj a4 ad;have aa:=bb.trans a5;by_cases az:j<P.length
  ·refine G.lT j P.length ?_;obtain⟨q,b5⟩:∃ q,P[j]?=some q:=⟨_,A0i az⟩;have c3:(Ae P).take (j+1+1)=(Ae P).take (j+1)++[some q]:=by rw[Ez,Ez,A0t,b5];simp
   obtain⟨bq,oq,e0,eq⟩:=Ab.at' (ao.mono a5) (j:=j) (e:=An q) (by simp[b5]);cases e0;refine G.a bp op P.length V j 2 az<|G.lU (some 2) bp (op+j*2) (.agg #[.int .i64 q.1,.string (mkS q.2)]) eq<|G.c call129 (hQ cb aa p q) ?_;rintro cq ck c4 rfl;refine G.B 30 1 16 (.string (mkS [])) [.string (mkS (Ag (C.t (Aw p q))))] (Do _) ?_;intro bo cl c5 bh;obtain⟨m0,I,E⟩:=a4.focus 0 rfl;rw[Fi]at I;have b0:(txV (((Ae P).take (j+1)).map (Aq C (some p)))).length=j+1:=by rw[Cw,A0k,A0q];omega
   refine G.append 30 1 16 (.string (mkS [])) m0 (txV (((Ae P).take (j+1)).map (Aq C (some p)))) [.string (mkS (Ag (C.t (Aw p q))))] (.slice la (j+1) Z) bo 0 1 1 kV rfl rfl oV I bh (Do _) rfl oV (by rw[b0];omega) (by rw[b0];omega) ?_;intro cr c9 O;have bi:txV (((Ae P).take (j+1)).map (Aq C (some p)))++[.string (mkS (Ag (C.t (Aw p q))))]=txV (((Ae P).take (j+1+1)).map (Aq C (some p))):=by rw[c3,A02,Hs];rfl
   rw[bi]at O;have bx:(txV (((Ae P).take (j+1+1)).map (Aq C (some p)))).length=j+1+1:=by rw[Cw,A0k,A0q];omega
   obtain⟨aj,al,rfl⟩:=O.shape;rw[bx]at O⊢;have ap:=E (C1 (.slice aj (j+1+1) al,txV (((Ae P).take (j+1+1)).map (Aq C (some p))))) c9 O;exact G.i j<|G.b (ad (j+1,aj,al) _ _ _ cV ((a5.trans c4).trans c5) ⟨dV,ap⟩ dV)
  obtain rfl:j=P.length:=oV
  refine G.lF P.length P.length ?_;clear ad;rw[show (Ae P).take (P.length+1)=Ae P by rw[A00 oV]]at a4;refine G.B 70 1 24 (.slice none 0 0) [.slice la (P.length+1) Z] (B6 _ _ _) ?_;intro br cc ba bj;obtain⟨m0,I,E⟩:=a4.focus 2 rfl;rw[Aer]at I;refine G.k 70 1 24 (.slice none 0 0) m0 (d.map (·.1)) [.slice la (P.length+1) Z] (.slice (some ⟨W,0,none⟩) (i+1) N) br 0 1 1 I bj (B6 _ _ _) ?_;intro cs bg Q;have em:d.map (·.1)++[Value.slice la (P.length+1) Z]=(d++[(Value.slice la (P.length+1) Z,txV ((Ae P).map (Aq C (some p))))]).map (·.1):=mV
  rw[em]at Q;obtain⟨ab,ac,rfl⟩:=Q.shape;have el:((d++[(Value.slice la (P.length+1) Z,txV ((Ae P).map (Aq C (some p))))]).map (·.1)).length=i+1+1:=by simp[b7]
  rw[el]at Q⊢;have aq:=E (oT (.slice ab (i+1+1) ac) (d++[(Value.slice la (P.length+1) Z,txV ((Ae P).map (Aq C (some p))))])) bg Q;have ar:=Bag.perm Aas aq;have bd:=aa.trans ba;refine G.c call129 (hQ cc bd Eb p) ?_;rintro ct cm c6 rfl;refine G.B 30 1 16 (.string (mkS [])) [.string (mkS (Ag (C.t (Aw Eb p))))] (Do _) ?_;intro bs cn c7 bk;have au:Bag bg (C1 (.slice ra (i+1) rc,txV (((Ae P).take (i+1)).map (Av C)))::oT (.slice ab (i+1+1) ac) (d++[(Value.slice la (P.length+1) Z,txV ((Ae P).map (Aq C (some p))))])::(d++[(Value.slice la (P.length+1) Z,txV ((Ae P).map (Aq C (some p))))]).map C1):=by simpa using ar
  obtain⟨m2,b9,ag⟩:=au.focus 0 rfl;rw[Fi]at b9;have b1:(txV (((Ae P).take (i+1)).map (Av C))).length=i+1:=by rw[Cw,A0k,A0q];omega
  refine G.append 30 1 16 (.string (mkS [])) m2 (txV (((Ae P).take (i+1)).map (Av C))) [.string (mkS (Ag (C.t (Aw Eb p))))] (.slice ra (i+1) rc) bs 0 1 1 kV rfl rfl oV b9 bk (Do _) rfl oV (by rw[b1];omega) (by rw[b1];omega) ?_;intro cu ca U;have bl:txV (((Ae P).take (i+1)).map (Av C))++[.string (mkS (Ag (C.t (Aw Eb p))))]=txV (((Ae P).take (i+1+1)).map (Av C)):=by rw[b8,A02,Hs];rfl
  rw[bl]at U;have bz:(txV (((Ae P).take (i+1+1)).map (Av C))).length=i+1+1:=by rw[Cw,A0k,A0q];omega
  obtain⟨ak,am,rfl⟩:=U.shape;rw[bz]at U⊢;have av:=ag (C1 (.slice ak (i+1+1) am,txV (((Ae P).take (i+1+1)).map (Av C)))) ca U;refine G.i i<|G.b (hJ (i+1,(ab,ac),(ak,am),d++[(Value.slice la (P.length+1) Z,txV ((Ae P).map (Aq C (some p))))]) _ _ _ cV (((((((l5.trans l6).trans l7).trans ai).trans a5).trans ba).trans c6).trans c7) ⟨dV,?_,av⟩ dV);dsimp only;rw[A02,c0];unfold Yi;rw[show P.take (i+1)=P.take i++[p] by rw[A0t,af];rfl];simp
 obtain rfl:i=P.length:=oV
 refine G.lF P.length P.length ?_;rw[Amz]at n;rw[show (Ae P).take (P.length+1)=Ae P by rw[A00 oV]]at z;exact G.r (.tuple #[.agg #[.slice pa P.length V,.slice ya (P.length+1) N,.slice ra (P.length+1) rc],.int .i64 0]) ⟨P,pa,V,ya,N,ra,rc,m,a3,rfl,hL.mono (l2.trans l5),n,z⟩
end
end
section
section
variable {P:List Par} {C:CF} {q:Rat} {N k:Nat} {b:Option Par->Rat}
end
end
section
section
variable {u:PH} {v cv mv:Value} {T:List (List UInt8×Nat)} {R:List Bw} {F:List Ao} {lab:Int} {C:CF} {K k:Nat} {P:List Par} {m0:Rat} {M:List (Par×Rat)}
end
end
section
section
variable {u:PH} {v cv av bv:Value} {T:List (List UInt8×Nat)} {R:List Bw} {F:List Ao} {lab:Int} {C:CF} {K k:Nat} {P:List Par} {a0 b0:Rat} {A B:List (Par×Rat)}
end
end
section
section
variable {P:List Par} {C:CF} {k:Rat} {m0:Rat} {M:List (Par×Rat)}
end
end
section
section
variable {u:PH} {v cv av bv:Value} {T:List (List UInt8×Nat)} {R:List Bw} {F:List Ao} {lab:Int} {C:CF} {K k:Nat} {P:List Par} {a0 b0:Rat} {A B:List (Par×Rat)}
end
end
def Auo (l:List UInt8):Nat:=l.foldl (fun a b=>a*10+(b.toNat-48)) 0
def Rt (u:Nat):Auo (Lib.decDigits u)=u:=by
 induction u using Nat.strongRecOn with
 |_ u ih =>
  unfold Lib.decDigits;split
  ·rename_i h;show 0*10+((UInt8.ofNat (48+u)).toNat-48)=u;rw[UInt8.toNat_ofNat'];omega
  rename_i h;have d:=ih (u/10) oV;unfold Auo at d⊢;rw[A6m,d];show u/10*10+((UInt8.ofNat (48+u%10)).toNat-48)=u;rw[UInt8.toNat_ofNat'];omega
def Tk {z w:Int}(h:Lib.itoa z=Lib.itoa w):z=w:=by
 have key:∀ a b:Int,a<0->0<=b->Lib.itoa a=Lib.itoa b->False:=fun a b m n e=>by
  unfold Lib.itoa at e;rw[if_pos m,if_neg oV]at e;have d:=Mo b.toNat 45 (by rw[<-e];simp);simp at d
 by_cases j:z<0
 ·by_cases g:w<0
  ·unfold Lib.itoa at h;rw[if_pos j,if_pos g]at h;have d:=congrArg Auo (List.cons.inj h).2;rw[Rt,Rt]at d;omega
  exact (key z w j oV h).elim
 by_cases g:w<0
 ·exact (key w z g oV h.symm).elim
 unfold Lib.itoa at h;rw[if_neg j,if_neg g]at h;have d:=congrArg Auo h;rw[Rt,Rt]at d;omega
def All {a b:List UInt8}(d:∀ x∈a,x≠47):(a++47::b).takeWhile (fun x=>decide (x≠47))=a/\(a++47::b).dropWhile (fun x=>decide (x≠47))=47::b:=by
 induction a with
 |nil=>simp
 |cons x a ih =>
  obtain⟨g,h⟩:=ih fun y j=>d y (by simp[j]);have e:x≠47:=d x mV;refine⟨?_,?_⟩
  ·rw[A5a,List.takeWhile_cons,if_pos (by simpa using e),g]
  rw[A5a,List.dropWhile_cons,if_pos (by simpa using e),h]
def Af9 {q r:Rat}(h:Ag q=Ag r):q=r:=by
 have no:∀ a b c:Rat,a.den=1->¬ b.den=1->Ag a=Ag b->False:=fun a b c u z e=>by
  unfold Ag at e;rw[if_pos u,if_neg z]at e;exact Hi a.num 47 (by rw[e];simp) rfl
 by_cases g:q.den=1
 ·by_cases d:r.den=1
  ·unfold Ag at h;rw[if_pos g,if_pos d]at h;exact Rat.ext (Tk h) (by rw[g,d])
  exact (no q r 0 g d h).elim
 by_cases d:r.den=1
 ·exact (no r q 0 d g h.symm).elim
 unfold Ag at h;rw[if_neg g,if_neg d]at h;obtain⟨j,m⟩:=All (b:=Lib.itoa (q.den:Int)) (Hi q.num);obtain⟨n,t⟩:=All (b:=Lib.itoa (r.den:Int)) (Hi r.num);rw[h]at j m;refine Rat.ext (Tk (j.symm.trans n)) ?_;have:=Tk (List.cons.inj (m.symm.trans t)).2;omega
section
section
variable {u:PH} {v cv mv:Value} {T:List (List UInt8×Nat)} {R:List Bw} {F:List Ao} {lab:Int} {C:CF} {K k:Nat} {P:List Par} {m0:Rat} {M:List (Par×Rat)}
end
end
section
section
variable [Cj] {P:Program} [A6 P] {fn:Func} {Post:Ca} {st:List KI×S} {u m:PH}
end
end
section
def Agm {q:Rat}(h:0<q):0<q.num:=by
 have d:0<=q.num:=Rat.num_nonneg.2 (A84 h);have g:q.num≠0:=fun e=>by
  rw[A4d]at e;rw[e]at h;exact absurd h jV
 omega
section
variable {u:PH} {v cv:Value} {T:List (List UInt8×Nat)} {R:List Bw} {F:List Ao} {lab:Int} {C:CF} {K k:Nat} {q:Rat}
end
end
section
variable [Cj] [Dd]
section
variable {P:Program} [A6 P] {id:Nat} {ops:Array Oper} {Fin:S->PH->PH->Prop} {a d:Nat} {kk:List KI} {s:S} {u m:PH}
end
section rules
variable {P:Program} [A6 P] {fn:Func} {Post:Ca} {st:List KI×S} {u m:PH}
end rules
end
section
section
variable [Cj] [Dd] {P:Program} [A6 P] {fn:Func} {Post:Ca} {st:List KI×S} {u m:PH}
end
def Ang:Value:=.agg #[.slice none 0 0,.slice none 0 0,.slice none 0 0]
section
variable {u:PH} {v cv:Value} {T:List (List UInt8×Nat)} {R:List Bw} {F:List Ao} {lab:Int} {C:CF} {K k:Nat} {q:Rat}
def Mx.cellDe (h:Mx u v cv T R F lab C K k)(e f:Option Par):De 75 18 (Aq C e f):=by
 cases e<;>cases f
 ·show De 75 18 C.c;rw[h.mom.c];exact (De.nat (a:=2) (by have:=h.mom.lt;omega)).mono oV oV
 ·exact h.mom.s _
 ·exact h.mom.s _
 exact h.mom.t _
end
end
section
variable {m0:Rat}{qs:List Rat}
def Anq {u:PH}{q:Rat}(h:Tx q):Fn0 prog 104 [.string (mkS (Ag q))] u fun v _=>v=.bool false:=by
 refine Fn0.o func104<|G.c call59 (Ge h) ?_;rintro g e d rfl;exact G.r (.bool false) ⟨rfl,rfl⟩
def Amn {u:PH}{pv lv:Value}{P:List Par}(U:Ab u pv 2 (P.map An))(z:Ck u lv ((m0::qs).map Ag))(hs:D5 Bf P)(n:qs.length=P.length)(hl:P.length<=1000)(h0:Tx m0)(hT:∀ q∈qs,Tx q) :
 Fn0 prog 43 [pv,lv] u fun r u'=>∃ mv,r=.tuple #[mv,.int .i64 0]/\Of u' mv m0 (P.zip qs):=by
 have m:=Ajv U hs oV;obtain⟨a,c,rfl⟩:=U.opn;obtain⟨la,lc,rfl⟩:=Ab.opn z;have hn:(B4 ((m0::qs).map Ag)).length=P.length+1:=by rw[Du,A0k,A1y,n]
 rw[A0k]at U m⊢;rw[hn]at z⊢;have X:∀ i q,(m0::qs)[i]?=some q->Tx q:=fun i q hq=>by
  rcases A0v.1 (A0w hq) with rfl|h
  ·exact h0
  exact hT q h
 refine Fn0.o func43<|G.c call102 m ?_;rintro v1 u1 l1 rfl;refine G.p P.length 1 (P.length+1:Nat)<|G.nF (P.length+1:Nat) (P.length+1:Nat)<|G.c call103 (Pl (fid:=104) (Ab.mono z l1) (by rw[A0k,A1y,n];omega) call104 (fun t ht u' _=>?_)) ?_
 ·obtain⟨q,Z,rfl⟩:=A0r.1 ht;obtain⟨i,hi⟩:=List.mem_iff_getElem?.1 Z;exact Anq (X i q hi)
 rintro v2 u2 l2 rfl;have N:=l1.trans l2;obtain⟨b,o,rfl,e⟩:=Ab.at' (Ab.mono z N) (j:=0) (e:=.string (mkS (Ag m0))) rfl;refine G.a b o (P.length+1) lc 0 1 oV<|G.lU none b (o+0*1) (.string (mkS (Ag m0))) e<|G.l (ι:=Nat×(Option Addr×Nat)) (fun i=>[(1,sV (some ⟨b,o,none⟩) (P.length+1) lc),(4,.p 0 0),(6,.p 7004 0),(30,sV a P.length c),(31,iV P.length),(32,iV i.1)]) (fun i=>[(0,⟨55,[tV [],sV none 0 0]⟩),(7004,⟨55,[tV (Ag m0),sV i.2.1 i.1 i.2.2]⟩)])
  (fun i u' m'=>i.1<=P.length/\Af PH.mt m' (.slice i.2.1 i.1 i.2.2) 80 3 (((P.zip qs).take i.1).map As)) (fun i=>P.length-i.1) (0,none,0) ⟨oV,Af.nil _ _ _⟩ ?_
 rintro J ⟨i,pa,pc⟩ hJ u3 m3 l3 ⟨Y,Q⟩;simp only at Y Q hJ;have O:=N.trans l3;have L:(P.zip qs).length=P.length:=by rw[A6j];omega
 by_cases E:i<P.length
 ·refine G.lT i P.length ?_;obtain⟨p,H⟩:∃ p,P[i]?=some p:=⟨_,A0i E⟩;obtain⟨q,I⟩:∃ q,qs[i]?=some q:=⟨_,A0i oV⟩;have hz:(P.zip qs)[i]?=some (p,q):=by rw[List.getElem?_zip_eq_some];exact⟨H,I⟩
  have a0:(P.zip qs).take (i+1)=(P.zip qs).take i++[(p,q)]:=by rw[A0t,hz];rfl
  obtain⟨bp,op,rfl,ep⟩:=Ab.at' (U.mono O) (j:=i) (e:=An p) (by simp[H]);obtain⟨V,W⟩:=p;refine G.a bp op P.length c i 2 E<|G.lU (some 2) bp (op+i*2) (.agg #[.int .i64 V,.string (mkS W)]) ep ?_;obtain⟨b2,o2,e0,e2⟩:=Ab.at' (Ab.mono z O) (j:=i+1) (e:=.string (mkS (Ag q))) (by unfold B4;rw[A0n,A0n,A2v,I];rfl);cases e0;refine G.i i<|G.a b o (P.length+1) lc (i+1) 1 oV<|G.lU none b (o+(i+1)*1) (.string (mkS (Ag q))) e2<|G.B 80 3 40 (.agg #[.int .i64 0,.string (mkS []),.string (mkS [])]) [As ((V,W),q)] (Gt _) ?_;intro g4 u4 l4 e4;refine G.k 80 3 40 (.agg #[.int .i64 0,.string (mkS []),.string (mkS [])]) PH.mt (((P.zip qs).take i).map As) [As ((V,W),q)] (.slice pa i pc) g4 0 1 1 Q e4 (Gt _) ?_;intro v5 m5 d;have e6:((P.zip qs).take i).map As++[As ((V,W),q)]=((P.zip qs).take (i+1)).map As:=by rw[a0];simp
  rw[e6]at d;obtain⟨a5,c5,rfl⟩:=d.shape;have el:(((P.zip qs).take (i+1)).map As).length=i+1:=by rw[A0k,A0q];omega
  rw[el]at d⊢;exact G.i i<|G.b (hJ (i+1,a5,c5) _ _ _ cV (l3.trans l4) ⟨dV,d⟩ dV)
 obtain rfl:i=P.length:=oV;refine G.lF P.length P.length ?_;rw[A00 oV]at Q;refine G.give _ _ _ kV Q (fun g=>.inl rfl) ?_;intro u6 l6 hF;exact G.r (.tuple #[.agg #[.string (mkS (Ag m0)),.slice pa P.length pc],.int .i64 0]) ⟨rfl,_,rfl,⟨pa,pc,by rw[L],by rw[L];exact hF⟩⟩
section
variable {P:List Par} {C:CF} {q:Rat}
theorem At4 (J:P.Nodup)(N:0<C.c)(Q:0<q)(t:∀ z,0<=Cp z P C)(y:Nat->Rat)(h:∀ i,i<(Nx C P q).length->Bx (Nx C P q).length (fun j=>en (Nx C P q) i j*y j)=0):∀ j,j<(Nx C P q).length->y j=0:=by
 have H:=O4 (P:=P) (C:=C) (q:=q);have E:∀ j,j<P.length+1->cfE (y 0) (P.zip ((List.range P.length).map fun j=>y (j+1))) ((Ae P).getD j none)=y j:=fun j d=>by
  rw[P9 J mV j d];cases j with
  |zero=>rfl
  |succ j=>exact Um (by rw[A2v,A0n,A4c oV];rfl)
 generalize cfE (y 0) (P.zip ((List.range P.length).map fun j=>y (j+1)))=bE at E;have U:∀ e∈Ae P,bE e=0:=Rp Q N t fun e O=>by
  obtain⟨i,m,rfl⟩:=A2b.1 O;have I:(Ae P)[i]=(Ae P).getD i none:=by rw[A0j,A0i m];rfl
  rw[I];rw[Ba]at m;have L:=h i (by rw[H.1];exact m);rw[H.1,A3 (g:=fun j=>Aq C ((Ae P).getD i none) ((Ae P).getD j none)*bE ((Ae P).getD j none)+(if i=j/\0<i then q else 0)*y j) (fun j d=>by
   rw[Aha m d,E j d];grind),Ju,V5]at L
  have n:Hk q bE ((Ae P).getD i none)=if i<P.length+1/\0<i then q*y i else 0:=by
   cases i with
   |zero=>rw[if_neg oV];rfl
   |succ j =>
    rw[if_pos ⟨m,oV⟩,<-E _ m];unfold Ae;rw[A4p,A0j,A0n,A0i oV];rfl
  rw[Jm _ (Ae P) none,Ba,n];exact L
 intro j d;rw[H.1]at d;rw[<-E j d];exact U _ (Oy d)
def Au8 (g:D5 Bf P)(h:qs.length=P.length)(h0:Tx m0)(hT:∀ x∈qs,Tx x):Q6 P m0 (P.zip qs):=by
 have e:(P.zip qs).map (·.1)=P:=A6u oV;refine⟨h0,fun x d=>hT _ (List.of_mem_zip (show (x.1,x.2)∈P.zip qs from d)).2,by rw[e];exact g,fun x d=>?_,gV⟩;rw[<-e];exact List.mem_map_of_mem d
end
section
variable {u:PH} {v cv:Value} {T:List (List UInt8×Nat)} {R:List Bw} {F:List Ao} {lab:Int} {C:CF} {K k:Nat} {q:Rat}
def Xl:Value:=.agg #[.string (mkS []),.slice none 0 0]
end
end
section
variable {F:List Ao}{R:List Bw}{T:List (List UInt8×Nat)}{lab:Int}{ss:List (List UInt8)}{tv v:Value}{u:PH}
def Aro {p:Ao->Bool}{i:Nat}{f:Ao}(h:F[i]?=some f):(F.take (i+1)).any p=((F.take i).any p||p f):=by
 rw[A0t,h,List.any_append];simp
def An0 {l:List UInt8}(h:l≠[]):l.isEmpty=false:=by cases l with|nil=>exact absurd rfl h|cons _ _=>rfl
def Yl {e x d b:Bool}(h:b=(e && !x)):(b && !d)=(e && !(x||d)):=by subst h;cases e<;>cases x<;>cases d<;>rfl
def Ags (h:Y9 u v tv T R F lab ss) :
 Fn0 prog 10 [v,tv] u fun r _=>r=.bool (Df F lab ss):=by
 have U:=Tj h;have a0:=h.lt;obtain⟨⟨xa,xc,xb,xd,xe,xf,rfl,a4,a3,Y⟩,ok,O,hT⟩:=h;obtain⟨ya,yc,rfl⟩:=O.opn;rw[A0k]at O U⊢;have f2:=ok.f2;refine Fn0.o func10<|G.c call35 U ?_;rintro v1 u1 l1 rfl;refine G.nF 0 0 ?_;unfold Df;refine dite (lab<0) (fun z=>?A) (fun z=>?B)
 case' A =>
  refine G.lT' lab 0 z ?_;rw[decide_eq_false oV,Bool.false_and];obtain⟨g,d⟩:∃ g,true=g:=⟨_,rfl⟩;rw[show (!false)=g from d]
 case' B =>
  obtain⟨l,rfl⟩:∃ l:Nat,lab=(l:Int):=⟨lab.toNat,oV⟩;have Q:=a0 l rfl;rw[decide_eq_true oV,A2r,Bool.true_and];refine G.lF l 0 ?_;obtain⟨V,L,a1,e⟩:=R2 (O.mono l1) Q;subst a1;refine G.a V L ss.length yc l 1 Q<|G.lU none V (L+l*1) (.string (mkS (ss.getD l []))) e ?_;refine dite (ss.getD l [] = []) (fun h0=>?C) (fun h0=>?D)
 case' C =>
  refine G.y (ss.getD l []) [] h0 ?_;rw[h0,show ([]:List UInt8).isEmpty=true from rfl];obtain⟨g,d⟩:∃ g,false=g:=⟨_,rfl⟩;rw[show (!true)=g from d]
 case' D =>
  refine G.x (ss.getD l []) [] h0 ?_;rw[An0 h0];obtain⟨g,d⟩:∃ g,true=g:=⟨_,rfl⟩;rw[show (!false)=g from d]
 case' C|D=>generalize (some ⟨V,L,none⟩:Option Addr)=ya at O⊢
 case A|C|D =>
  refine G.loop (ι:=Nat×Bool) (fun i=>[(1,sV ya ss.length yc),(5,bV i.2),(24,sV xe F.length xf),(25,iV F.length),(26,iV i.1)]) (fun _=>[])
   (fun i u' m'=>i.1<=F.length/\i.2=(g && !(F.take i.1).any (Kq ss))/\m'=PH.mt) (fun i=>F.length-i.1) (0,g) kV (fun _=>kV) (by subst d;exact cV) ⟨oV,mV,rfl⟩ ?_
  clear d;rintro J ⟨i,b⟩ N u2 m2 l2 ⟨hi,t,rfl⟩;simp only at hi t N;by_cases P:i<F.length
  ·refine G.lT i F.length ?_;obtain⟨f,Z⟩:∃ f,F[i]?=some f:=⟨_,A0i P⟩;obtain⟨ba,oa,rfl,ea⟩:=Ab.at' (Y.mono (l1.trans l2)) (j:=i) (e:=C4 f) (by simp[Z]);refine G.a ba oa F.length xf i 3 P ?_;have K:=Uy ok.feat hT (A0w Z);have n:=Aro (p:=Kq ss) Z;obtain⟨m,E,H⟩:=f;simp only at K;refine G.lU (some 3) ba (oa+i*3) (.agg #[.int .i64 m,.int .i64 E,.int .i64 H]) ea ?_;cases b with
   |false =>
    exact G.i i<|G.b (N (i+1,false) _ _ _ cV l2 ⟨dV,by rw[n,<-Yl t];rfl,rfl⟩ dV)
   |true =>
    by_cases W:E=1
    ·refine G.nF E 1 ?_;by_cases X:H=1
     ·refine G.nF H 1 ?_;obtain⟨bt,ot,a2,et⟩:=R2 (O.mono (l1.trans l2)) K;subst a2;refine G.a bt ot ss.length yc m 1 K<|G.lU none bt (ot+m*1) (.string (mkS (ss.getD m []))) et ?_;by_cases h0:ss.getD m [] = []
      ·refine G.y (ss.getD m []) [] h0 ?_;have I:Kq ss (m,E,H)=true:=by unfold Kq;simp only;rw[W,X,h0];rfl
       exact G.i i<|G.b (N (i+1,false) _ _ _ cV l2 ⟨dV,by rw[n,<-Yl t,I];rfl,rfl⟩ dV)
      refine G.x (ss.getD m []) [] h0 ?_;have I:Kq ss (m,E,H)=false:=by unfold Kq;simp only;rw[W,X,An0 h0];rfl
      exact G.i i<|G.b (N (i+1,true) _ _ _ cV l2 ⟨dV,by rw[n,<-Yl t,I];rfl,rfl⟩ dV)
     refine G.nT H 1 ?_;have I:Kq ss (m,E,H)=false:=by simp[Kq,X]
     exact G.i i<|G.b (N (i+1,true) _ _ _ cV l2 ⟨dV,by rw[n,<-Yl t,I];rfl,rfl⟩ dV)
    refine G.nT E 1 ?_;have I:Kq ss (m,E,H)=false:=by simp[Kq,W]
    exact G.i i<|G.b (N (i+1,true) _ _ _ cV l2 ⟨dV,by rw[n,<-Yl t,I];rfl,rfl⟩ dV)
  obtain rfl:i=F.length:=oV;refine G.lF F.length F.length ?_;rw[A05]at t;exact G.r (.bool b) ⟨rfl,by rw[t]⟩
def Z5 (z:Int)(s w:List UInt8):Bm 3 [.agg #[.int .i64 z,.string (mkS s),.string (mkS w)]]:=fun e d=>by
 obtain rfl:=A07.1 d;exact⟨rfl,A06.1 rfl⟩
def Ayk (h:Y9 u v tv T R F lab ss) :
 Fn0 prog 55 [v,tv] u fun r u'=>∃ lv,r=.tuple #[lv,.int .i64 0]/\Ab u' lv 3 ((J9 F ss F.length).map As):=by
 have W:=Tj h;obtain⟨⟨xa,xc,xb,xd,xe,xf,rfl,a3,a2,a0⟩,ok,hS,hT⟩:=h;obtain⟨ya,yc,rfl⟩:=hS.opn;rw[A0k]at hS W⊢;have f2:=ok.f2;refine Fn0.o func55<|G.c call35 W ?_;rintro v1 u1 l1 rfl;refine G.nF 0 0<|G.l (ι:=Nat×Option Addr×Nat) (fun i=>[(1,sV ya ss.length yc),(7,sV i.2.1 (J9 F ss i.1).length i.2.2),(18,sV xe F.length xf),(19,iV F.length),(20,iV i.1)]) (fun _=>[])
  (fun i u' m'=>i.1<=F.length/\Af PH.mt m' (.slice i.2.1 (J9 F ss i.1).length i.2.2) 80 3 ((J9 F ss i.1).map As)) (fun i=>F.length-i.1) (0,none,0) ⟨oV,Af.nil _ _ _⟩ ?_
 rintro J ⟨i,a,c⟩ hJ u2 m2 l2 ⟨hi,Q⟩;simp only at hi Q hJ;have Z:=l1.trans l2;by_cases V:i<F.length
 ·refine G.lT i F.length ?_;obtain⟨f,hf⟩:∃ f,F[i]?=some f:=⟨_,A0i V⟩;have U:=A0w hf;have K:=Uy ok.feat hT U;have m:=fun L h0=>Xq ok.feat hT U L h0;have n:=Zx (ss:=ss) hf;have a1:=Aqt F ss i;obtain⟨ba,oa,rfl,ea⟩:=Ab.at' (a0.mono Z) (j:=i) (e:=C4 f) (by simp[hf]);refine G.a ba oa F.length xf i 3 V ?_;obtain⟨d,I,m1⟩:=f;simp only at K m;refine G.lU (some 3) ba (oa+i*3) (.agg #[.int .i64 d,.int .i64 I,.int .i64 m1]) ea ?_;obtain⟨bt,ot,rfl,et⟩:=R2 (hS.mono Z) K;refine G.a bt ot ss.length yc d 1 K<|G.lU none bt (ot+d*1) (.string (mkS (ss.getD d []))) et ?_;have Y:Bcc ss i (d,I,m1)=none->J9 F ss (i+1)=J9 F ss i:=fun e=>by rw[n,e];simp
  have O:∀ x,Bcc ss i (d,I,m1)=some x->J9 F ss (i+1)=J9 F ss i++[x]:=fun x e=>by rw[n,e];simp
  refine dite (I=2) (fun L=>?A) (fun L=>?B)
  case' A =>
   refine G.eT I 2 ?_;have X:Bcc ss i (d,I,m1)=some (((i:Int),ss.getD d []),1):=by unfold Bcc;rw[if_pos L]
   refine G.B 80 3 40 (.agg #[.int .i64 0,.string (mkS []),.string (mkS [])]) [.agg #[.int .i64 i,.string (mkS (ss.getD d [])),.string (mkS [49])]] (Z5 _ _ _) ?_;rw[<-Vs];obtain⟨x,hx⟩:∃ x:Par×Rat,x=(((i:Int),ss.getD d []),1):=⟨_,rfl⟩;rw[<-hx]at X
  case' B =>
   refine G.eF I 2 ?_;have t:Bcc ss i (d,I,m1)=if ss.getD d [] = []\/ss.getD d [] = [48] then none else some (((i:Int),[]),Lq (ss.getD d [])):=by unfold Bcc;rw[if_neg L]
   have m:=m L;generalize ss.getD d []=w at t m et⊢;refine dite (w = []) (fun N=>?C) (fun N=>?D)
  case' C =>
   refine G.y w [] N ?_;rw[if_pos (.inl N)]at t
  case' D =>
   refine G.x w [] N ?_;refine dite (w = [48]) (fun P=>?E) (fun P=>?H)
  case' E =>
   refine G.y w [48] P ?_;rw[if_pos (.inr P)]at t
  case' H =>
   refine G.x w [48] P ?_;have X:=t;rw[if_neg (fun e=>e.elim N P)]at X;refine G.B 80 3 40 (.agg #[.int .i64 0,.string (mkS []),.string (mkS [])]) [.agg #[.int .i64 i,.string (mkS []),.string (mkS w)]] (Z5 _ _ _) ?_;obtain⟨x,hx⟩:∃ x:Par×Rat,x=(((i:Int),[]),Lq w):=⟨_,rfl⟩;rw[<-hx]at X;have hw:=(m N).2
  case C|E =>
   rw[<-Y t]at Q⊢;exact G.i i<|G.b (hJ (i+1,a,c) _ _ _ cV l2 ⟨dV,Q⟩ dV)
  case A|H =>
   intro g u3 l3 e3;have hg:=O _ X;have e3:He u3 g 0 3 [As x]:=by subst hx;first|exact e3|(unfold As;simp only;rw[hw];exact e3)
   refine G.k 80 3 40 (.agg #[.int .i64 0,.string (mkS []),.string (mkS [])]) PH.mt ((J9 F ss i).map As) [As x] _ g 0 1 1 Q e3 (Gt _) ?_;intro v4 m4 z;rw[<-List.map_singleton (f:=As),<-A02,<-hg]at z;obtain⟨a4,c4,rfl⟩:=z.shape;rw[A0k]at z⊢;exact G.i i<|G.b (hJ (i+1,a4,c4) _ _ _ cV (l2.trans l3) ⟨dV,z⟩ dV)
 obtain rfl:i=F.length:=oV;refine G.lF F.length F.length<|G.give _ _ _ kV Q (fun g=>.inl rfl) ?_;intro u6 l6 hF;exact G.r (.tuple #[.slice a (J9 F ss F.length).length c,.int .i64 0]) ⟨rfl,_,rfl,hF⟩
end
section
section
variable {u:PH} {v cv mv:Value} {T:List (List UInt8×Nat)} {R:List Bw} {F:List Ao} {lab:Int} {C:CF} {K k:Nat} {q:Rat} {P:List Par} {m0:Rat} {M:List (Par×Rat)}
def Ayy (m:Dk F C P)(n:CFV C):∀ p∈P,Akf F p:=fun p hp=>by
 rcases (m.2 p).1 hp with ⟨i,f,rfl,e,_⟩|⟨g,i,f,h,e,j⟩
 ·exact⟨i,f,rfl,e,.inl rfl⟩
 refine⟨i,f,h,e,?_⟩;rcases (n.s p g).cat with d|d
 ·exact .inl d
 exact .inr ⟨j,d⟩
end
end
section
section
variable {u:PH} {v cv mv:Value} {T:List (List UInt8×Nat)} {R:List Bw} {F:List Ao} {lab:Int} {C:CF} {K k:Nat} {q:Rat} {P:List Par} {m0:Rat} {M:List (Par×Rat)}
end
end
section
def Acj {x:Rat}{N:Nat}(h:Dn 2 N x)(g:N<=28873454400):De 75 18 x:=by
 obtain⟨z,d,e⟩:=h;exact⟨z,144,by rw[<-d],oV,A2i e (A2i g jV),jV⟩
section
variable {P:List Par} {C:CF} {q:Rat} {N k:Nat}
def Auz (d:Ib N C)(g:N<=28873454400)(z:CFV C)(m:C.c=(k:Rat))(n:k<100):Aem C k:=by
 refine⟨m,n,fun p=>Acj (d.c none (some p)) g,fun p=>?_⟩;by_cases h:C.t p=0
 ·rw[h];exact Acj (Dn.zero 2 0) oV
 have j:=(z.t p h).2.2;have e:Aw p.1 p.2=p:=by unfold Aw;rw[if_neg j]
 have:=Acj (d.c (some p.1) (some p.2)) g;rw[show Aq C (some p.1) (some p.2)=C.t (Aw p.1 p.2) from rfl,e]at this;exact this
theorem Amj {b b':Option Par->Rat}(h:Fq P C q b)(g:Fq P C q b')(t:0<q)(n:0<C.c)(hp:∀ z,0<=Cp z P C):∀ e∈Ae P,b e=b' e:=fun e d=>by
 have:=Rp (P:=P) (C:=C) (z:=fun e=>b e-b' e) t n hp (fun e d=>by
  have E:=h e d;have H:=g e d;have j:Ap (fun f=>Aq C e f*(b f-b' f)) (Ae P)=Ap (fun f=>Aq C e f*b f) (Ae P)-Ap (fun f=>Aq C e f*b' f) (Ae P):=by
   have:Ap (fun f=>Aq C e f*b f) (Ae P)=Ap (fun f=>Aq C e f*(b f-b' f)+Aq C e f*b' f) (Ae P):=Aj fun f _=>by grind
   rw[this,C0];grind
  have m:Hk q (fun e=>b e-b' e) e=Hk q b e-Hk q b' e:=by
   cases e with
   |none=>show (0:Rat)=0-0;grind
   |some p=>show q*(b (some p)-b' (some p))=q*b (some p)-q*b' (some p);grind
  rw[j,m];grind) e d
 grind
def Ank (m:P.Nodup){m0 g:Rat}{qs d:List Rat}(E:qs.length=P.length)(n:d.length=P.length)(h:∀ e∈Ae P,cfE m0 (P.zip qs) e=cfE g (P.zip d) e):m0=g/\qs=d:=by
 refine⟨h none (by unfold Ae;simp),List.ext_getElem oV fun j t z=>?_⟩;have e:=h _ (Oy (P:=P) (i:=j+1) oV);rw[P9 m E _ oV,P9 m n _ oV]at e;rw[show gR (m0::qs) (j+1)=gR qs j from rfl,show gR (g::d) (j+1)=gR d j from rfl,E7 t,E7 z]at e;exact e
end
section
variable {u:PH} {v cv:Value} {T:List (List UInt8×Nat)} {R:List Bw} {F:List Ao} {lab:Int} {L:List Cr} {q:Rat} {K:Nat}
def Avm (t:Ic u v T R F lab)(ok:B2 u T R F lab)(j:T.length<=8)(hT:∀ y∈L,Bp T y.1/\y.2.1<=7)(h:L.length<=12)(hp:∀ P,Dk F (Ax F lab L) P->P.length<=24)(d:0<=lab)(m:J0 u cv (Ax F lab L) K)(n:K<=10000):∃ k,Mx u v cv T R F lab (Ax F lab L) K k:=by
 obtain⟨k,z,E⟩:=Ayz ok.feat ok.l1 (M9 ok) hT;obtain⟨H,g⟩:=Af6 ok j hT oV;have e:=Z0 ok ok.l1 (M9 ok) hT;exact⟨k,t,ok,m,H,g,n,Ati,Auz e oV g z oV,hp,d⟩
def Ayl {C:CF}{k:Nat}(h:Aem C k)(d:0<C.c):1<=C.c:=by
 rw[h.c]at d⊢;have e:((0:Nat):Rat)<(k:Rat):=d;have g:0<k:=Rat.natCast_lt_natCast.1 e;have:((1:Nat):Rat)<=(k:Rat):=A4t.2 g;simpa using this
end
end
section
theorem Ax6 (x:Rat):0<=x*x:=by
 rcases A7f (a:=0) (b:=x) with h|h
 ·exact A1s h h
 have:=A1s (a:=-x) (b:=-x) (by grind) (by grind);grind
section
variable {P:List Par} {C:CF} {b d:Option Par->Rat} {q:Rat} {N D:Nat}
theorem As0 {x y m n:Rat}(h:-m<=x/\x<=m)(u:-n<=y/\y<=n):-(m*n)<=x*y/\x*y<=m*n:=by
 have e:=A1s (a:=m-x) (b:=n+y) (by grind) (by grind);have g:=A1s (a:=m+x) (b:=n-y) (by grind) (by grind);have j:=A1s (a:=m-x) (b:=n-y) (by grind) (by grind);have t:=A1s (a:=m+x) (b:=n+y) (by grind) (by grind);constructor<;>grind
theorem Avi {z:Option Par->Rat}(n:0<q)(u:0<C.c)(hp:∀ z,0<=Cp z P C)(h:Cp z P C+q*Hm P z<=0):∀ e∈Ae P,z e=0:=by
 have I:=hp z;have E:=Wm P z;have J:=A1s (A84 n) E;have F:Hm P z=0:=by
  have:q*Hm P z=0:=by grind
  rcases A34.1 this with e|e
  ·rw[e]at n;exact absurd n jV
  exact e
 have j:∀ p∈P,z (some p)=0:=fun p hp=>by
  have:=Xx (fun q _=>Ax6 (z (some q))) F p hp;rcases A34.1 this with e|e<;>exact e
 have H:z none=0:=by
  have t:Cp z P C=0:=by grind
  have m:Ap (fun f=>z none*Aq C none f*z f) (Ae P)=z none*C.c*z none:=by
   rw[Gm,Bk fun p hp=>by rw[j p hp,A7g]];show z none*C.c*z none+0=_;grind
  unfold Cp at t;rw[Gm,m,Bk fun p hp=>by
   refine Bk fun f _=>?_;rw[j p hp];grind]at t
  have e:z none*C.c*z none=0:=by grind
  rcases A34.1 e with e|e
  ·rcases A34.1 e with e|e
   ·exact e
   rw[e]at u;exact absurd u jV
  exact e
 intro e g;unfold Ae at g;rcases A0v.1 g with rfl|g
 ·exact H
 obtain⟨p,hp,rfl⟩:=A0r.1 g;exact j p hp
end
end
section
variable {A:List (List Rat)}{u:PH}{v:Value}
def Ait (h:Fm u v (Dv A))(d:Sq A)(g:Aue A)(hT:∀ r∈A,∀ q∈r,Tq q):Fn0 prog 63 [v] u fun j _=>j=.int .i64 0:=by
 obtain⟨a,c,rfl⟩:=h.opn;rw[Bs]at h⊢;refine Fn0.o func63<|G.c call85 (Ss h d) ?_;rintro F t e rfl;refine G.nF 0 0<|G.c call135 (Aol (h.mono e) d g) ?_;rintro H z l2 rfl;refine G.c call87 (Su (n:=A.length) (h.mono (e.trans l2)) d.le d.row d.le hT d.le) ?_;rintro I E m rfl;exact G.r (.int .i64 0) ⟨rfl,rfl⟩
def As3 {B:Nat}(h:Fm u v (Dv A))(m:Sq A)(H:Aue A)(hT:∀ r∈A,∀ q∈r,Tq q)(E:B<=1000000)(g:∀ j,j<A.length->0<Cb (en A) j j j)(n:∀ j i k,j<=A.length->i<A.length->k<A.length->Sz (Cb (en A) j i k) B) :
 Fn0 prog 23 [v] u fun J _=>J=.tuple #[.bool true,.int .i64 0]:=by
 obtain⟨a,c,rfl⟩:=h.opn;rw[Bs]at h⊢;refine Fn0.o func23<|G.c call63 (Ait h m H hT) ?_;rintro X U I rfl;refine G.nF 0 0<|G.callO _ _ kV call65 (Zw (h.mono I) m) ?_;rintro Y V R O ⟨K,L,z,rfl,F,e⟩ _;rw[Cm];refine G.A call64 (Ahi ⟨rfl,fun i t=>by rw[Gx t];exact m.len t⟩ m.le E g n F e) ?_;rintro Z W T Q ⟨rfl,l,d,rfl⟩ _;rw[Cm];exact G.eT A.length A.length<|G.r (.tuple #[.bool true,.int .i64 0]) ⟨rfl,rfl⟩
section
variable {P:List Par} {C:CF} {q:Rat} {N:Nat}
theorem Axf {x:Rat}(h:Tq x):x*((21600:Int):Rat)=((x.num*((21600/x.den:Nat):Int):Int):Rat):=by
 obtain⟨k,d⟩:=h.den;have g:=Asf x;rw[show (21600/x.den:Nat)=k by rw[d,Nat.mul_div_cancel_left _ x.den_pos],A1v,<-g];have e:((21600:Int):Rat)=(x.den:Rat)*(k:Rat):=by rw[<-A4e,<-d];rfl
 rw[e,A1f];grind
end
end
section
variable {i:Nat}
def Pc (E:List (Option Par))(G:Option Par->Option Par->Rat):List (List Rat):=E.map fun e=>E.map (G e)
section
variable {E:List (Option Par)} {G:Option Par->Option Par->Rat} {z:Option Par->Rat} {x:Nat->Rat}
def Alj (d:i<E.length):gM (Pc E G) i=E.map (G (E.getD i none)):=by
 refine Apl ?_;unfold Pc;rw[A0n,A0i d,A0j,A0i d];rfl
def Aoi:Rec E.length E.length (Pc E G):=⟨by unfold Pc;rw[A0k],fun i d=>by rw[Alj d,A0k]⟩
def Ab7 {i j:Nat}(e:i<E.length)(d:j<E.length):en (Pc E G) i j=G (E.getD i none) (E.getD j none):=by
 unfold en;rw[Alj e];refine Um ?_;rw[A0n,A0i d,show E.getD j none=E[j] by rw[A0j,A0i d];rfl];rfl
def Wk (h:∀ j,j<E.length->z (E.getD j none)=x j)(e:i<E.length):Bx E.length (fun k=>en (Pc E G) i k*x k)=Ap (fun k=>G (E.getD i none) k*z k) E:=by
 rw[Jm _ E none];exact A3 fun j d=>by rw[Ab7 e d,h j d]
def Aoy (h:∀ j,j<E.length->z (E.getD j none)=x j):frm E.length (en (Pc E G)) x=Ap (fun e=>z e*Ap (fun k=>G e k*z k) E) E:=by
 unfold frm;rw[Jm (fun e=>z e*Ap (fun k=>G e k*z k) E) E none];exact A3 fun i d=>by rw[Wk h d,h i d]
end
def Ac5 {P:List Par}(d:P.Nodup)(y:Nat->Rat):∃ z:Option Par->Rat,∀ j,j<(Ae P).length->z ((Ae P).getD j none)=y j:=⟨cfE (y 0) (P.zip ((List.range P.length).map fun j=>y (j+1))),fun j e=>by
 rw[Ba]at e;rw[P9 d mV j e];cases j with
 |zero=>rfl
 |succ j=>exact Um (by rw[A2v,A0n,A4c oV];rfl)⟩
section
variable {P:List Par} {C:CF} {q:Rat} {f g:Int} {tg:List UInt8->List UInt8} {m ρ:Option Par->Rat}
def P7 (P:List Par)(f:Int)(tg:List UInt8->List UInt8):Option Par->Option Par->Rat
 |some a,some b=>(if a=b then 1 else 0)-if a.1=f/\b.1=f/\tg a.2=tg b.2 then 1/(1+Ct P f tg (tg a.2) fun _=>1) else 0
 |_,_=>0
def Q8 (a b:Par):P7 P f tg (some a) (some b)=(if a=b then 1 else 0)-if a.1=f/\b.1=f/\tg a.2=tg b.2 then 1/(1+Ct P f tg (tg a.2) fun _=>1) else 0:=rfl
def Xc (P:List Par)(C:CF)(q:Rat)(f:Int)(tg:List UInt8->List UInt8)(e k:Option Par):Rat:=Aq C e k+q*P7 P f tg e k
def Ed (C:CF)(P:List Par)(q:Rat)(f g:Int)(tg:List UInt8->List UInt8):List (List Rat):=Pc (Ae (Au P g)) (Xc P C q f tg)
def Abz (C:CF)(P:List Par)(g:Int):List Rat:=(Ae (Au P g)).map (Av C)
def Alz (e k:Option Par):P7 P f tg e k=P7 P f tg k e:=by
 cases e<;>cases k<;>try rfl
 rename_i a b;rw[Q8,Q8];by_cases h:a=b
 ·subst h;rfl
 rw[if_neg h,if_neg (Ne.symm h)];by_cases d:a.1=f/\b.1=f/\tg a.2=tg b.2
 ·rw[if_pos d,if_pos ⟨d.2.1,d.1,d.2.2.symm⟩,d.2.2]
 rw[if_neg d,if_neg fun h=>d ⟨h.2.1,h.1,h.2.2.symm⟩]
def Al3 (e k:Option Par):Xc P C q f tg e k=Xc P C q f tg k e:=by unfold Xc;rw[Alz,L8]
theorem Asx (n:f≠g)(K:P.Nodup):∀ e∈Ae (Au P g),Ap (fun k=>q*P7 P f tg e k*m k) (Ae (Au P g))=Am4 P q f tg m e:=by
 intro e t;cases e with
 |none =>
  show _=(0:Rat);exact Bk fun k _=>by unfold P7;grind
 |some a =>
  have J:a∈Au P g:=by
   unfold Ae at t;rcases A0v.1 t with h|h
   ·cases h
   obtain⟨x,L,e⟩:=A0r.1 h;cases e;exact L
  rw[Gm];show q*0*m none+Ap (fun b:Par=>q*P7 P f tg (some a) (some b)*m (some b)) (Au P g)=q*(m (some a)-if a.1=f then M3 P f tg m (tg a.2) else 0);have H:Ap (fun b:Par=>q*P7 P f tg (some a) (some b)*m (some b)) (Au P g)=Ap (fun b:Par=>if b=a then (fun b=>q*m (some b)) b else 0) (Au P g)+(-q)*Ap (fun b:Par=>if a.1=f/\b.1=f/\tg a.2=tg b.2 then m (some b)/(1+Ct P f tg (tg a.2) fun _=>1) else 0) (Au P g):=by
   rw[<-Cv,<-C0];refine Aj fun b _=>?_;rw[Q8];by_cases e:a=b
   ·subst e;rw[if_pos rfl,if_pos rfl];show _=q*m (some a)+_;split<;>grind
   rw[if_neg e,if_neg (Ne.symm e)];split<;>grind
  rw[H,Nb (f:=fun b=>q*m (some b)) (l:=Au P g) (K.sublist List.filter_sublist) J];by_cases d:a.1=f
  ·rw[if_pos d];have I:Ap (fun b:Par=>if a.1=f/\b.1=f/\tg a.2=tg b.2 then m (some b)/(1+Ct P f tg (tg a.2) fun _=>1) else 0) (Au P g)=M3 P f tg m (tg a.2):=by
    rw[Gd (fun p:Par=>decide (p.1=f)) _ (Au P g)];have F:(Au P g).filter (fun p=>decide (p.1=f))=onF P f:=by
     unfold Au onF;rw[List.filter_filter];refine List.filter_congr fun p _=>?_;by_cases e:p.1=f
     ·rw[decide_eq_true e,decide_eq_false (fun u=>n (e.symm.trans u))];rfl
     rw[decide_eq_false e];rfl
    rw[F,Bk (l:=List.filter _ _) fun p hp=>by
     rw[A3p]at hp;exact if_neg fun h=>by have:=hp.2;rw[decide_eq_true h.2.1]at this;cases this]
    unfold M3;rw[show ∀ x y:Rat,x/y=x*(1/y) from fun x y=>by grind];rw[show Ct P f tg (tg a.2) (fun a=>m (some a))*(1/(1+Ct P f tg (tg a.2) fun _=>1))=(1/(1+Ct P f tg (tg a.2) fun _=>1))*Ct P f tg (tg a.2) (fun a=>m (some a)) from Rat.mul_comm ..,<-Va];show Ap _ _+0=Ap _ _;rw[A5k];refine Aj fun b j=>?_;have j:=(Dj.1 j).2;by_cases e:tg b.2=tg a.2
    ·rw[if_pos ⟨d,j,e.symm⟩,if_pos e];grind
    rw[if_neg fun h=>e h.2.2.symm,if_neg e]
   rw[I];grind
  rw[if_neg d,Bk fun b _=>if_neg fun h=>d h.1];grind
theorem Adg (d:f≠g)(j:P.Nodup):∀ e∈Ae (Au P g),Ap (fun k=>Xc P C q f tg e k*m k) (Ae (Au P g))=Ap (fun k=>Aq C e k*m k) (Ae (Au P g))+Am4 P q f tg m e:=fun e h=>by
 rw[<-Asx d j e h,<-C0];exact Aj fun k _=>by unfold Xc;grind
def Iy (d:P.Nodup):(Au P g).Nodup:=d.sublist List.filter_sublist
def Mb:Rec ((Au P g).length+1) ((Au P g).length+1) (Ed C P q f g tg):=by
 have:=Aoi (E:=Ae (Au P g)) (G:=Xc P C q f tg);rwa[Ba]at this
def Alf:∀ i k,i<(Au P g).length+1->k<(Au P g).length+1->en (Ed C P q f g tg) i k=en (Ed C P q f g tg) k i:=fun i k d e=>by
 rw[<-Ba]at d e;unfold Ed;rw[Ab7 d e,Ab7 e d,Al3]
def Arc (d:Dep P C f g tg){y:Nat->Rat}{z:Option Par->Rat}(J:Sq (Ed C P q f g tg))(h:Te (Ed C P q f g tg).length (Ie (Ed C P q f g tg) (Abz C P g)) y)(L:∀ j,j<(Ae (Au P g)).length->z ((Ae (Au P g)).getD j none)=y j):Fq P C q (Fv P f g tg z):=by
 refine d.norm fun e I=>?_;rw[<-Adg d.ne d.nd e I];obtain⟨i,F,rfl⟩:=A2b.1 I;have t:(Ae (Au P g))[i]=(Ae (Au P g)).getD i none:=by rw[A0j,A0i F];rfl
 rw[t];have H:=Mb (P:=P) (C:=C) (q:=q) (f:=f) (g:=g) (tg:=tg);rw[<-Ba]at H;have n:i<(Ed C P q f g tg).length:=by rw[H.1];exact F
 have u:=h i n;rw[Aks J n,A3 (g:=fun j=>en (Ed C P q f g tg) i j*y j) (fun j K=>by rw[Vm J n K]),H.1]at u;unfold Ed at u;rw[Wk L F]at u;rw[u];refine Um ?_;unfold Abz;rw[A0n,A0i F,<-t];rfl
def Asv (d:Dep P C f g tg)(L:0<q)(K:0<C.c)(hp:∀ z,0<=Cp z P C)(y:Nat->Rat)(h:∀ i,i<(Ed C P q f g tg).length->Bx (Ed C P q f g tg).length (fun j=>en (Ed C P q f g tg) i j*y j)=0):∀ j,j<(Ed C P q f g tg).length->y j=0:=by
 have t:=Mb (P:=P) (C:=C) (q:=q) (f:=f) (g:=g) (tg:=tg);rw[<-Ba]at t;obtain⟨z,J⟩:=Ac5 (Iy (g:=g) d.nd) y;have h0:=d.inj L K hp (m:=z) fun e I=>by
  rw[<-Adg d.ne d.nd e I];obtain⟨i,F,rfl⟩:=A2b.1 I;have u:(Ae (Au P g))[i]=(Ae (Au P g)).getD i none:=by rw[A0j,A0i F];rfl
  have n:=h i (by rw[t.1];exact F);rw[t.1]at n;unfold Ed at n;rw[Wk J F]at n;rw[u];exact n
 intro j H;rw[t.1]at H;rw[<-J j H];exact h0 _ (Oy (by rw[<-Ba];exact H))
theorem Ay0 (d:Dep P C f g tg)(hq:0<q)(hc:0<C.c)(hp:∀ z,0<=Cp z P C)(x:Nat->Rat)(t:∃ i,i<(Au P g).length+1/\x i≠0):0<frm ((Au P g).length+1) (en (Ed C P q f g tg)) x:=by
 rw[<-Ba]at t⊢;obtain⟨z,X⟩:=Ac5 (Iy (g:=g) d.nd) x;unfold Ed;rw[Aoy X];have u:∀ e∈Ae (Au P g),∀ p,e=some p->p.1≠g:=fun e j p O=>by
  subst O;unfold Ae at j;rcases A0v.1 j with h|h
  ·cases h
  obtain⟨x,t,e⟩:=A0r.1 h;cases e;exact (F0.1 t).2
 obtain⟨R,V⟩:∃ R:Option Par->Rat,R=fun e=>Ap (fun k=>Xc P C q f tg e k*z k) (Ae (Au P g)):=⟨_,rfl⟩;obtain⟨ρ,Y⟩:∃ ρ:Option Par->Rat,ρ=fun e=>match e with
  |none=>R none
  |some p=>if p.1=g then Ct P f tg p.2 fun a=>R (some a) else R (some p):=⟨_,rfl⟩
 have I:∀ e∈Ae (Au P g),ρ e=R e:=fun e j=>by
  rw[Y];cases e with
  |none=>rfl
  |some p=>exact if_neg (u _ j p rfl)
 have H:∀ b∈P,b.1=g->ρ (some b)=Ct P f tg b.2 fun a=>ρ (some a):=fun b _ J=>by
  rw[Y];show (if b.1=g then _ else _)=_;rw[if_pos J];exact Ow fun a _ ha _=>(if_neg fun e=>d.ne (ha.symm.trans e)).symm
 have J:=d.back (q:=q) (m:=z) H fun e j=>by
  rw[<-Adg d.ne d.nd e j,I e j,V]
 have hs:=d.sum (m:=z) ρ H;have h1:Ap (fun e=>z e*Ap (fun k=>Xc P C q f tg e k*z k) (Ae (Au P g))) (Ae (Au P g))=Cp (Fv P f g tg z) P C+q*Hm P (Fv P f g tg z):=by
  rw[Aj (g:=fun e=>ρ e*z e) fun e j=>by rw[I e j,V];exact Rat.mul_comm ..,<-hs];generalize Fv P f g tg z=b at J;rw[Aj (g:=fun e=>b e*Ap (fun k=>Aq C e k*b k) (Ae P)+b e*Hk q b e) fun e j=>by rw[<-J e j];grind,C0,Gm (f:=fun e=>b e*Hk q b e),K9];have Z:Ap (fun p=>b (some p)*Hk q b (some p)) P=q*Hm P b:=by unfold Hm;rw[<-Cv];exact Aj fun p _=>by unfold Hk;grind
  rw[Z];unfold Sg Hk;grind
 rw[h1];refine Rat.not_le.1 fun N=>?_;have h0:=Avi hq hc hp N;obtain⟨i,W,T⟩:=t;refine T ?_;rw[<-X i W];have n:=Oy (P:=Au P g) (by rw[<-Ba];exact W);generalize (Ae (Au P g)).getD i none=e at n⊢;cases e with
 |none=>exact h0 none (by unfold Ae;simp)
 |some p =>
  have Q:=u _ n p rfl;have F:p∈P:=by
   unfold Ae at n;rcases A0v.1 n with h|h
   ·cases h
   obtain⟨x,t,e⟩:=A0r.1 h;cases e;exact (F0.1 t).1
  have K:=h0 (some p) (by unfold Ae;exact A01 _ (List.mem_map_of_mem F));rw[Qm Q]at K;by_cases L:p.1=f
  ·have U:=h0 (some (g,tg p.2)) (by unfold Ae;exact A01 _ (List.mem_map_of_mem (d.into p F L)));rw[Yj (p:=(g,tg p.2)) rfl]at U;rw[if_pos L,U]at K;grind
  rw[if_neg L]at K;grind
end
end
section
section
variable {P:List Par} {C:CF} {q:Rat} {f g:Int} {tg:List UInt8->List UInt8} {z:Option Par->Rat} {D:Nat} {s:Par->Rat} {m0:Rat} {M V:List (Par×Rat)}
def Ajb {e:Option Par}(d:e∈Ae (Au P g)):e=none\/∃ p,e=some p/\p∈P/\p.1≠g:=by
 unfold Ae at d;rcases A0v.1 d with h|h
 ·exact .inl h
 obtain⟨x,j,e⟩:=A0r.1 h;exact .inr ⟨x,e.symm,F0.1 j⟩
def Nr {p:Par}(hp:p∈P):some p∈Ae P:=A01 _ (List.mem_map_of_mem hp)
theorem Ajn (d:Dep P C f g tg):∀ e∈Ae (Au P g),z e=Fv P f g tg z e\/∃ p∈P,e=some p/\(g,tg p.2)∈P/\z e=Fv P f g tg z e+Fv P f g tg z (some (g,tg p.2)):=fun e m=>by
 rcases Ajb m with rfl|⟨p,rfl,hp,j⟩
 ·exact .inl rfl
 by_cases h:p.1=f
 ·refine .inr ⟨p,hp,rfl,d.into p hp h,?_⟩;rw[Qm j,Yj (p:=(g,tg p.2)) rfl,if_pos h];grind
 refine .inl ?_;rw[Qm j,if_neg h];grind
theorem Ayr (d:Dep P C f g tg)(h0:0<D)(H:D<10^157)(u:∀ e∈Ae P,∃ x:Int,Fv P f g tg z e*(D:Rat)=x)(E:∀ e∈Ae P,-100000000000000<=Fv P f g tg z e/\Fv P f g tg z e<=100000000000000):∀ e∈Ae (Au P g),De (15+157) 157 (z e):=fun e n=>by
 have j:e∈Ae P:=by
  rcases Ajb n with rfl|⟨p,rfl,hp,_⟩
  ·unfold Ae;simp
  exact Nr hp
 have F:((200000000000000:Nat):Rat)=200000000000000:=jV;refine Arv 15 (m:=200000000000000) h0 H ?_ ?_ fV
 ·rcases Ajn (z:=z) d e n with h|⟨p,hp,rfl,t,h⟩
  ·rw[h];exact u e j
  rw[h,Rat.add_mul];exact IsZ.add (u _ j) (u _ (Nr t))
 rw[F];have I:=E e j;rcases Ajn (z:=z) d e n with h|⟨p,hp,rfl,t,h⟩
 ·rw[h];constructor<;>grind
 rw[h];have J:=E _ (Nr t);constructor<;>grind
theorem Azv (d:Dep P C f g tg)(n:∀ b∈P,b.1=g->s b=Ct P f tg b.2 s)(h0:∀ p∈P,p.1=g->z (some p)=0):Sv z P s=Sv (Fv P f g tg z) P s:=by
 have h:=d.sum (m:=z) (Abe s) n;rw[<-Sb (Fv P f g tg z),Aj (g:=fun e=>Abe s e*Fv P f g tg z e) fun e _=>Rat.mul_comm ..,h,Gm];unfold Sv;rw[Gd (fun p:Par=>decide (p.1=g)) _ P,Bk (l:=P.filter fun p=>decide (p.1=g)) fun p hp=>by
  obtain⟨h,j⟩:=Dj.1 hp;rw[h0 p h j,A32]]
 show _=1*z none+Ap (fun p=>s p*z (some p)) (P.filter fun p=>!decide (p.1=g));rw[Aj (g:=fun p=>z (some p)*s p) (f:=fun p=>s p*z (some p)) fun p _=>Rat.mul_comm ..];grind
theorem Aw3 {t:Rat}(h:SmW t):-(1545:Rat)<=t/\t<=1545:=by
 obtain⟨k,m,E⟩:=h.dn;have e:((12^1:Nat):Rat)=12:=jV
 rw[e]at m;have n:(k:Rat)<=((18540:Int):Rat):=A22.2 oV;have u:((-18540:Int):Rat)<=(k:Rat):=A22.2 oV;have d:((18540:Int):Rat)=18540:=jV
 have j:((-18540:Int):Rat) = -18540:=jV
 rw[d]at n;rw[j]at u;constructor<;>grind
theorem Akq {α:Type}{f:α->Rat}{m:Rat}:∀ {l:List α},(∀ a∈l,-m<=f a/\f a<=m)->-((l.length:Rat)*m)<=Ap f l/\Ap f l<=(l.length:Rat)*m
 |[],_=>by
  show -(((0:Nat):Rat)*m)<=(0:Rat)/\(0:Rat)<=((0:Nat):Rat)*m;rw[show ((0:Nat):Rat)=0 from rfl];constructor<;>grind
 |a::l,h=>by
  have e:=h a (A1g ..);have j:=Akq fun b d=>h b (A01 _ d);rw[A1y,A4f];show _<=f a+_/\f a+_<=_;rw[show ((1:Nat):Rat)=1 from rfl];constructor<;>grind
theorem Azy (h0:0<D)(F:D<10^157)(e:IsZ (m0*(D:Rat)))(I:-100000000000000<=m0/\m0<=100000000000000)(K:∀ x∈V,IsZ (B8 x.1 M*(D:Rat)))(H:∀ x∈V,-100000000000000<=B8 x.1 M/\B8 x.1 M<=100000000000000)(j:∀ x∈V,SmW x.2)(J:V.length<=8):Tx (Aom m0 M V):=by
 have n:((D*12:Nat):Rat)=(D:Rat)*12:=by rw[A4e];rfl
 have u:((10000000000000000000:Nat):Rat)=10000000000000000000:=jV;refine (Arv 20 (D:=D*12) (b:=159) (m:=10000000000000000000) (A5e h0 oV) (by
  have:12<10^2:=fV;exact L6 (a:=157) (b:=2) F this) ?_ ?_ fV).tx oV oV oV oV
 ·unfold Aom;rw[n,Rat.add_mul,<-Fc];refine IsZ.add ?_ (IsZ.sum fun x d=>?_)
  ·rw[<-Rat.mul_assoc];exact e.mul (IsZ.nat 12)
  obtain⟨k,h,_⟩:=(j x d).dn;rw[show x.2*B8 x.1 M*((D:Rat)*12)=(x.2*12)*(B8 x.1 M*(D:Rat)) by grind];exact IsZ.mul ⟨k,h⟩ (K x d)
 rw[u];unfold Aom;have h:=Akq (f:=fun t:Par×Rat=>t.2*B8 t.1 M) (m:=1545*100000000000000) (l:=V) fun x d=>As0 (Aw3 (j x d)) (H x d);have E:(V.length:Rat)<=8:=A4t (b:=8).2 J;have L:(V.length:Rat)*(1545*100000000000000)<=8*(1545*100000000000000):=Rat.mul_le_mul_of_nonneg_right E jV;constructor<;>grind
end
end
section
def Axu {q:Rat}{z:Int}(h:q*((21600:Nat):Rat)=(z:Rat))(j:z.natAbs<=3000000000000):Tq q:=by
 obtain⟨d,e⟩:=Xg h oV;exact⟨De.tx (a:=13) (b:=5) ⟨z,21600,h,oV,oV,oV⟩ oV oV oV oV,d,oV⟩
section
variable {P:List Par} {C:CF} {q:Rat} {f g:Int} {N:Nat}
theorem Ao8 {x t:Rat}(h:Dn 2 N x)(I:N<=14436727200)(E:∃ p:Int,t*1800=p/\p.natAbs<=5400):Tq (x+t):=by
 obtain⟨z,d,F⟩:=h;obtain⟨p,u,H⟩:=E;refine Axu (z:=z*150+p*12) ?_ oV;have e:((12^2:Nat):Rat)=144:=jV
 have j:((21600:Nat):Rat)=21600:=jV
 have m:((150:Int):Rat)=150:=jV
 have n:((12:Int):Rat)=12:=jV
 rw[e]at d;rw[A44,A1v,A1v,<-d,<-u,j,m,n];grind
theorem Ayh {n:Nat}(h:n<=5):∃ w:Int,1/(1+(n:Rat))*60=w/\0<=w/\w<=60:=by
 have key:∀ k w:Nat,k*w=60->0<k->1+(n:Rat)=(k:Rat)->∃ w:Int,1/(1+(n:Rat))*60=w/\0<=w/\w<=60:=fun k w d h0 e=>⟨(w:Int),by
  have m:=Jf h0;have j:(60:Rat)=(k:Rat)*(w:Rat):=by rw[<-A4e,d];rfl
  rw[e,j,A1f];grind,oV,by
  have:w<=k*w:=Nat.le_mul_of_pos_left _ h0;omega⟩
 have e:∀ k:Nat,n+1=k->1+(n:Rat)=(k:Rat):=fun k d=>by rw[<-d,A4f];exact A39 ..
 rcases (by omega:n=0\/n=1\/n=2\/n=3\/n=4\/n=5) with r|r|r|r|r|r
 ·exact key 1 60 rfl oV (e 1 oV)
 ·exact key 2 30 rfl oV (e 2 oV)
 ·exact key 3 20 rfl oV (e 3 oV)
 ·exact key 4 15 rfl oV (e 4 oV)
 ·exact key 5 12 rfl oV (e 5 oV)
 exact key 6 10 rfl oV (e 6 oV)
theorem Ao3 (j:∀ c,Pe C P f g c<=5)(e k:Option Par):∃ w:Int,P7 P f (tgL C P f g) e k*60=w/\w.natAbs<=60:=by
 have zero:∃ w:Int,(0:Rat)*60=w/\w.natAbs<=60:=⟨0,by rw[A32];rfl,oV⟩;cases e with
 |none=>exact zero
 |some a =>
  cases k with
  |none=>exact zero
  |some b =>
   rw[Q8,Xu];obtain⟨w,h,m,n⟩:=Ayh (j (tgL C P f g a.2));by_cases d:a=b
   ·rw[if_pos d];split
    ·exact⟨60-w,by rw[A8d,<-h,show ((60:Int):Rat)=60 from rfl];grind,oV⟩
    exact⟨60,by rw[show ((60:Int):Rat)=60 from rfl];grind,oV⟩
   rw[if_neg d];split
   ·exact⟨-w,by rw[A6e,<-h];grind,oV⟩
   exact⟨0,by rw[show ((0:Int):Rat)=0 from rfl];grind,oV⟩
theorem Akg (j:Ib N C)(m:N<=14436727200)(n:Gw q)(t:∀ c,Pe C P f g c<=5)(e k:Option Par):Tq (Xc P C q f (tgL C P f g) e k):=by
 obtain⟨p,hp,d⟩:=n.thirty;obtain⟨w,u,h⟩:=Ao3 t e k;refine Ao8 (j.c e k) m ⟨p*w,?_,?_⟩
 ·rw[A1v,<-hp,<-u];grind
 rw[A2t];have:=A2p d h;omega
def Avd (d:Ib N C)(j:N<=14436727200)(m:Gw q)(n:∀ c,Pe C P f g c<=5):∀ r∈Ed C P q f g (tgL C P f g),∀ x∈r,Tq x:=by
 intro r h x t;unfold Ed Pc at h;obtain⟨e,u,rfl⟩:=A0r.1 h;obtain⟨k,z,rfl⟩:=A0r.1 t;exact Akg d j m n e k
def Ass (d:Ib N C)(h:N<=14436727200):∀ x∈Abz C P g,Tq x:=by
 intro x j;obtain⟨e,m,rfl⟩:=A0r.1 j;have:=Ao8 (t:=0) (d.r e) h ⟨0,by rw[A32];rfl,oV⟩;rwa[A5k]at this
def Awt (hT:∀ r∈Ed C P q f g (tgL C P f g),∀ x∈r,Tq x)(m:(Au P g).length<=11):Sq (Ed C P q f g (tgL C P f g)):=by
 have d:=Mb (P:=P) (C:=C) (q:=q) (f:=f) (g:=g) (tg:=tgL C P f g);refine⟨by rw[d.1];omega,fun r e=>?_,fun r e x j=>(hT r e x j).tx⟩;obtain⟨i,h,rfl⟩:=A2b.1 e;have:=d.2 i (by have:=d.1;omega);rw[Gx h]at this;rw[this,d.1]
def Ay7 {tg:List UInt8->List UInt8}:Aue (Ed C P q f g tg):=fun i k m n e j=>by
 have d:=Mb (P:=P) (C:=C) (q:=q) (f:=f) (g:=g) (tg:=tg);have h:=Alf (P:=P) (C:=C) (q:=q) (f:=f) (g:=g) (tg:=tg) i k (by have:=d.1;omega) (by have:=d.1;omega);unfold en at h;rwa[Gx m,Gx n,E7 e,E7 j]at h
def Azw (d:Dep P C f g (tgL C P f g))(hT:∀ r∈Ed C P q f g (tgL C P f g),∀ x∈r,Tq x)(O:(Au P g).length<=11)(R:0<q)(Q:0<C.c)(hp:∀ z,0<=Cp z P C) :
 (∀ j,j<(Ed C P q f g (tgL C P f g)).length->0<Cb (en (Ed C P q f g (tgL C P f g))) j j j)/\∀ j i k,j<=(Ed C P q f g (tgL C P f g)).length->i<(Ed C P q f g (tgL C P f g)).length->k<(Ed C P q f g (tgL C P f g)).length->Sz (Cb (en (Ed C P q f g (tgL C P f g))) j i k) 20000:=by
 have E:=Mb (P:=P) (C:=C) (q:=q) (f:=f) (g:=g) (tg:=tgL C P f g);obtain⟨A,F⟩:∃ A,A=Ed C P q f g (tgL C P f g):=⟨_,rfl⟩;have h:∀ j,j<A.length->0<Cb (en A) j j j:=fun j H=>by
  rw[F]at H⊢;exact Atu Alf (Ay0 d R Q hp) (by rw[<-E.1];exact H)
 rw[<-F]at hT E⊢;rw[E.1]at h⊢;refine⟨h,fun j i k H m u=>?_⟩;have e:∀ i k,i<(Au P g).length+1->k<(Au P g).length+1->Tq (en A i k):=fun i k m u=>by
  have J:i<A.length:=by rw[E.1];exact m
  have I:=E.2 i m;unfold en;exact hT _ (Aim J) _ (V4 (by rw[I];exact u))
 refine (Awh (n:=(Au P g).length+1) (d:=21600) (K:=2) (M:=fun i k=>(en A i k).num*((21600/(en A i k).den:Nat):Int)) fV (fun i k m u=>Axf (e i k m u)) (nlM fV) (fun i k m u=>?_) H (fun t T=>?_) m u).mono (A0l (Apd 2 (show j<=12 by omega)) fV)
 ·refine nlM ?_;rw[A2t,A1e];have L:=(e i k m u).num;have I:21600/(en A i k).den<=21600:=A24 _ _;have:=A2p L I;omega
 exact Ahq (h t oV)
end
end
section
section
variable {P:List Par} {C:CF} {q:Rat} {f g:Int} {N:Nat} {tg:List UInt8->List UInt8}
structure Aq7 (P:List Par)(C:CF)(q:Rat)(f g:Int)(tg:List UInt8->List UInt8)(y:Nat->Rat)(z:Option Par->Rat):Prop where
 at':∀ j,j<(Au P g).length+1->z ((Ae (Au P g)).getD j none)=y j
 norm:Fq P C q (Fv P f g tg z)
 de:∀ e∈Ae (Au P g),De (15+157) 157 (z e)
 full:∀ e∈Ae P,De 172 157 (Fv P f g tg z e)
 com:∃ D:Nat,0<D/\D<10^157/\(∀ e∈Ae P,∃ x:Int,Fv P f g tg z e*(D:Rat)=x)/\∀ e∈Ae P,-100000000000000<=Fv P f g tg z e/\Fv P f g tg z e<=100000000000000
theorem Ak6 (d:Dep P C f g tg)(n:Ib N C)(U:N<=14436727200)(E:Gw q)(V:P.length<=11)(J:1<=C.c)(e:∀ z,0<=Cp z P C)(Q:∀ z,0<=sqC z P C)(X:Sq (Ed C P q f g tg)){y:Nat->Rat}(h:Te (Ed C P q f g tg).length (Ie (Ed C P q f g tg) (Abz C P g)) y){z:Option Par->Rat}(W:∀ j,j<(Au P g).length+1->z ((Ae (Au P g)).getD j none)=y j):Aq7 P C q f g tg y z:=by
 have I:0<C.c:=by
  have t:(0:Rat)<1:=jV
  grind
 have O:=Arc d X h (z:=z) (by rw[Ba];exact W);obtain⟨D,h0,t,H⟩:=Aj3 n U V E.thirty E.pos I e O;have K:=Alo n U V E.thirty E.pos J e (Q _) O;exact⟨W,O,Ayr d h0 t H K,Ar3 h0 t H K,D,h0,t,H,K⟩
def Asy (d:Dep P C f g tg)(n:Ib N C)(J:N<=14436727200)(Q:Gw q)(K:P.length<=11)(t:1<=C.c)(j:∀ z,0<=Cp z P C)(E:∀ z,0<=sqC z P C)(V:Sq (Ed C P q f g tg))(y:Nat->Rat)(h:Te (Ed C P q f g tg).length (Ie (Ed C P q f g tg) (Abz C P g)) y):∀ i,i<(Ed C P q f g tg).length->Tx (y i):=fun i O=>by
 obtain⟨z,H⟩:=Ac5 (Iy (g:=g) d.nd) y;rw[Ba]at H;have I:=Mb (P:=P) (C:=C) (q:=q) (f:=f) (g:=g) (tg:=tg);have e:i<(Au P g).length+1:=by rw[<-I.1];exact O
 have U:=Ak6 d n J Q K t j E V h H;rw[<-H i e];exact (U.de _ (Oy e)).tx oV oV oV oV
def R8:(Au P g).length<=P.length:=A3h _ _
def U7 {c:List UInt8}:Pe C P f g c<=(A2 P f).length:=A3h _ _
end
section
variable {u:PH} {T:List (List UInt8×Nat)} {R:List Bw} {F:List Ao} {lab:Int} {ss:List (List UInt8)} {L:List Cr} {P:List Par} {i a m:Nat}
def Adq (ok:B2 u T R F lab)(hT:∀ y∈L,Bp T y.1/\1<=y.2.1)(d:Dk F (Ax F lab L) P)(e:F[i]?=some (a,2,m)){names:List (List UInt8)}(h:∀ y∈L,y.1.getD a []∈names):(A2 P (i:Int)).length<=names.length :=
 List.Nodup.length_le_of_subset (Jj (d.1.nodup Dl)) fun x j=>by
  obtain⟨y,n,_,rfl⟩:=(Fz ok hT d e).1 j;exact h y n
def Azf {C:CF}(n:Dk F C P)(hF:F.length<=3):P.length<=(A2 P 0).length+((A2 P 1).length+(A2 P 2).length):=by
 have j:=List.Nodup.length_le_of_subset (l₂:=onF P 0++(onF P 1++onF P 2)) (n.1.nodup Dl) fun p hp=>by
  have:∃ i:Nat,i<3/\p.1=(i:Int):=by
   rcases (n.2 p).1 hp with ⟨i,f,rfl,d,_⟩|⟨_,i,f,h,d,_⟩
   ·exact⟨i,by have:=(A0o.1 d).1;omega,rfl⟩
   exact⟨i,by have:=(A0o.1 d).1;omega,h⟩
  obtain⟨i,t,e⟩:=this;rw[A04,A04,Dj,Dj,Dj];rcases (by omega:i=0\/i=1\/i=2) with rfl|rfl|rfl
  ·exact .inl ⟨hp,e⟩
  ·exact .inr (.inl ⟨hp,e⟩)
  exact .inr (.inr ⟨hp,e⟩)
 unfold A2;rw[A03,A03]at j;simpa using j
def Arz {C:CF}(h:Dk F C P)(n:∀ f:Ao,F[i]?=some f->f.2.1=1):(A2 P (i:Int)).length<=1:=by
 have:=List.Nodup.length_le_of_subset (l₂:=[[]]) (Jj (h.1.nodup Dl) (f:=(i:Int))) fun x t=>by
  rcases (h.2 _).1 (Qv.1 t) with ⟨k,f,e,j,_⟩|⟨_,k,f,e,j,d⟩
  ·rw[(Prod.mk.inj e).2];exact A07.2 rfl
  obtain rfl:i=k:=by have e:(i:Int)=(k:Int):=e;omega
  rw[n f j]at d;cases d
 simpa using this
def Azx {j t O:Nat}(ok:B2 u T R F lab)(K:Bp T ss)(E:Df F lab ss=true)(H:F[i]?=some (a,2,m))(I:F[j]?=some (t,2,O)){tg:List UInt8->List UInt8}
 (n:tg (ss.getD a [])=ss.getD t []) (J:P.Nodup) (e:((i:Int),ss.getD a [])∈P):∀ b∈P,b.1=(j:Int)->(cfT F lab ss).s b=Ct P (i:Int) tg b.2 (cfT F lab ss).s:=fun b U d=>by
 have h:=Akr ok K E H I n J e 1 b.2;obtain⟨z,Q⟩:=b;obtain rfl:z=(j:Int):=d;rw[Rat.one_mul]at h;refine h.symm.trans ?_;exact Ow fun a _ _ _=>Rat.one_mul _
end
end
section
variable {m:Nat}{u:PH}
def t18:Bool->List (List UInt8×Nat)
 |false=>[([99,105,116,121],3),([99,111,117,110,116,114,121],3),([121],2)]
 |true=>[([99,105,116,121],3),([99,111,117,110,116,114,121],3),([121],2),([118],2)]
def i18:Bool->List Nat
 |false=>[0,1,2]
 |true=>[0,1,2,3]
def r18 (b:Bool)(g c:Nat):List Bw:=[([114],i18 b,(some ⟨g,0,none⟩,c))]
def f18 (m:Nat):Bool->List Ao
 |false=>[(0,2,0),(1,2,0)]
 |true=>[(0,2,0),(1,2,0),(3,1,m)]
def Ay5 {g c m:Nat}(b:Bool)(C:m<=1)(h:Ab u (.slice (some ⟨g,0,none⟩) (i18 b).length c) 1 (Ai (i18 b))):B2 u (t18 b) (r18 b g c) (f18 m b) 2 where
 att:=⟨Ae4 (by cases b<;>decide +kernel),fun a j=>by
  cases b<;>simp only[t18,A0v,A1q,or_false]at j
  ·rcases j with rfl|rfl|rfl<;>decide
  rcases j with rfl|rfl|rfl|rfl<;>decide⟩
 rel:=by
  have n:∀ r∈r18 b g c,r=([114],i18 b,(some ⟨g,0,none⟩,c)):=fun r n=>A07.1 n;refine⟨Ae4 (by show (([[114]]:List (List UInt8)).all Kh&&decide ([[114]]:List (List UInt8)).Nodup)=true;decide +kernel),fun r h=>?_,fun r h a j=>?_,fun r h=>?_,fun r h k x y e d=>?_,fun a j=>⟨_,A07.2 rfl,?_⟩,fun r z=>?_⟩
  ·rw[n r h];cases b<;>simp[i18]
  ·rw[n r h]at j;cases b<;>simp[i18]at j<;>simp[t18]<;>omega
  ·rw[n r h];cases b<;>simp[i18]
  ·rw[n r h]at e d;cases b
   ·match k,e,d with
    |0,e,d=>simp[i18]at e d;omega
    |1,e,d=>simp[i18]at e d;omega
    |k+2,e,d=>simp[i18]at d
   match k,e,d with
   |0,e,d=>simp[i18]at e d;omega
   |1,e,d=>simp[i18]at e d;omega
   |2,e,d=>simp[i18]at e d;omega
   |k+3,e,d=>simp[i18]at d
  ·cases b<;>simp[t18]at j<;>simp[i18]<;>omega
  rw[n r z];exact h
 feat:=⟨fun f t=>by
  cases b<;>simp only[f18,A0v,A1q,or_false]at t
  ·rcases t with rfl|rfl
   ·exact⟨_,3,rfl,.inr ⟨rfl,rfl,rfl⟩,fV⟩
   exact⟨_,3,rfl,.inr ⟨rfl,rfl,rfl⟩,fV⟩
  rcases t with rfl|rfl|rfl
  ·exact⟨_,3,rfl,.inr ⟨rfl,rfl,rfl⟩,fV⟩
  ·exact⟨_,3,rfl,.inr ⟨rfl,rfl,rfl⟩,fV⟩
  exact⟨_,2,rfl,.inl ⟨rfl,rfl,C⟩,by show ((3:Nat):Int)≠2;decide⟩,by cases b<;>simp[f18]⟩
 t1:=by cases b<;>decide
 t2:=by cases b<;>decide
 r1:=by show 0<1;omega
 r2:=by show 1<=6;omega
 f2:=by cases b<;>show _<=8<;>simp[f18]
 l1:=fV
 l2:=fun l E=>by
  have:l=2:=oV;subst this;exact⟨[121],by cases b<;>rfl⟩
def Fp:List (List UInt8):=[[97],[98],[99],[100],[]]
def Gq:List (List UInt8):=[[120],[122],[],[119]]
def N18 (L:List Cr):Prop:=∀ y∈L,y.1.getD 0 []∈Fp/\y.1.getD 1 []∈Gq
def T0 (m:Nat)(b:Bool):(f18 m b)[0]?=some (0,2,0):=by cases b<;>rfl
def Yc (m:Nat)(b:Bool):(f18 m b)[1]?=some (1,2,0):=by cases b<;>rfl
def Asp {b:Bool}{R:List Bw}{L:List Cr}{P:List Par}(ok:B2 u (t18 b) R (f18 m b) 2)(hT:∀ y∈L,Bp (t18 b) y.1/\1<=y.2.1)(d:Dk (f18 m b) (Ax (f18 m b) 2 L) P)(h:N18 L) :
 (A2 P 0).length<=5/\(A2 P 1).length<=4/\P.length<=10:=by
 have h0:(A2 P 0).length<=5:=Adq (i:=0) (names:=Fp) ok hT d (T0 m b) fun y e=>(h y e).1;have j:(A2 P 1).length<=4:=Adq (i:=1) (names:=Gq) ok hT d (Yc m b) fun y e=>(h y e).2;have n:(A2 P 2).length<=1:=Arz (i:=2) d fun f g=>by
  cases b
  ·cases g
  cases g;rfl
 have t:=Azf d (by cases b<;>simp[f18])
 exact⟨h0,j,oV⟩
end
def Pi {u:PH}{v:Value}{T:List (List UInt8×Nat)}{R:List Bw}{F:List Ao}{lab:Int}{a:Option Addr}{c:Nat}{L:List Cr}(W:Ic u v T R F lab)(ok:B2 u T R F lab)(E:T.length<=8)(hL:Ab u (.slice a L.length c) 2 (L.map Fy))(hW:WOK u T L)(hl:L.length<=12) :
 Fn0 prog 29 [v,.slice a L.length c] u fun r K=>Azr K r (Ax F lab L) (255*L.length):=by
 have X:=fun (K:PH) (l:PH.le u K)=>S8 (W.mono l) (ok.mono l);obtain⟨xa,xc,xb,xd,xe,xf,rfl,ag,af,ae⟩:=id W;have ah:=Av1 E;have H:∀ n,∀ y∈L.take n,Bp T y.1/\y.2.1<=7:=fun n y hy=>by
  obtain⟨_,q1,_,q2⟩:=hW y (A23 hy);exact⟨q1,q2⟩
 have d:∀ n,CFS (Ax F lab (L.take n)):=fun n=>(Af6 ok E (H n) (by rw[A0q];omega)).1;refine Fn0.o func29<|G.c call53 (X u (PH.le_refl _)) ?_;rintro v1 u1 l1 rfl;refine G.nF 0 0<|G.gF L.length 2000<|G.callO _ _ kV call73 (I2 (n:=0) oV oV) ?_;intro v2 u2 m2 l2 k2 _;rw[Cm];have n0:(⟨((0:Int):Rat),fun _=>0,fun _=>0⟩:CF)=CF.num 0:=by rw[show ((0:Int):Rat)=0 by decide +kernel];rfl
 rw[n0]at k2;obtain⟨b,a2,n,c2,b',a',n',c',g1,g2,rfl⟩:=Oa k2;refine G.l (ι:=Nat×(Bool×SlI)×(Bool×SlI)×Nat×Nat) (fun i=>[(2,.p 0 0),(4,.p 1 0),(7,.p 6001 0),(22,sV a L.length c),(23,iV L.length),(24,iV i.1)])
  (fun i=>[(0,⟨28,[sV xa T.length xc,sV xb R.length xd,sV xe F.length xf,iV lab]⟩),(1,⟨34,[tV [],sV none 0 0,sV none 0 0]⟩),(6001,⟨157,[bV i.2.1.1,sV i.2.1.2.1 i.2.1.2.2.1 i.2.1.2.2.2,bV i.2.2.1.1,sV i.2.2.1.2.1 i.2.2.1.2.2.1 i.2.2.1.2.2.2,.v (.map (some i.2.2.2.1)),.v (.map (some i.2.2.2.2))]⟩)])
  (fun i K m'=>i.1<=L.length/\J7 m' K (.agg #[.bool i.2.1.1,.slice i.2.1.2.1 i.2.1.2.2.1 i.2.1.2.2.2,.bool i.2.2.1.1,.slice i.2.2.1.2.1 i.2.2.1.2.2.1 i.2.2.1.2.2.2,.map (some i.2.2.2.1),.map (some i.2.2.2.2)]) (Ax F lab (L.take i.1)) (255*i.1))
  (fun i=>L.length-i.1) (0,(b,a2,n,c2),(b',a',n',c'),g1,g2) ⟨oV,k2⟩ ?_
 rintro J ⟨i,⟨b,a2,n,c2⟩,⟨b',a',n',c'⟩,g1,g2⟩ hJ u3 m3 l3 ⟨hi,N⟩;simp only at hi N hJ;have t:=(l1.trans l2).trans l3;by_cases I:i<L.length
 ·refine G.lT i L.length ?_;obtain⟨y,h⟩:∃ y,L[i]?=some y:=⟨_,A0i I⟩;obtain⟨hS,hT,Z,m⟩:=hW y (A0w h);obtain⟨ba,oa,rfl,ea⟩:=Ab.at' (hL.mono t) (j:=i) (e:=Fy y) (by simp[h]);obtain⟨ss,w,ya,yc⟩:=y;simp only at hS hT Z m;have Y:L.take (i+1)=L.take i++[(ss,w,ya,yc)]:=by rw[A0t,h];rfl
  have hP:Y9 u (.agg #[.slice xa T.length xc,.slice xb R.length xd,.slice xe F.length xf,.int .i64 lab]) (.slice ya ss.length yc) T R F lab ss:=⟨W,ok,hS,hT⟩;have a3:=hT.len;obtain⟨d1,d2⟩:=Apf ok hT;have sK:CFS ((cfT F lab ss).scale (w:Rat)):=(d1.scale (Ats m)).cfs oV oV;have g:Ax F lab (L.take (i+1))=(Ax F lab (L.take i)).add ((cfT F lab ss).scale (w:Rat)):=by rw[Y,F9]
  refine G.a ba oa L.length c i 2 I<|G.lU (some 2) ba (oa+i*2) (.agg #[.slice ya ss.length yc,.int .i64 w]) ea<|G.c call35 (Tj (hP.mono t)) ?_;rintro v4 u4 l4 rfl;refine G.nF 0 0<|G.lF w (-1000000000000)<|G.gF w 1000000000000<|G.c call75 (Aqr (hP.mono (t.trans l4)) oV) ?_;rintro v5 u5 l5 ⟨k5,sF⟩;obtain⟨b5,a5,n5,c5,a9,a4,ai,aa,ac,ad,rfl⟩:=Rk k5;refine G.c call24 (Od (z:=(w:Int)) oV oV) ?_;intro v6 u6 l6 k6;rw[A1f]at k6;obtain⟨b6,a6,n6,c6,a8,aj,ab,rfl,_⟩:=k6.opn;have a0:SB (w:Rat):=(Ats m).small oV oV;refine G.callA _ _ kV kV call74 (Cm m3).symm (Jl m3)
   (Aqa (((N.grow l4).grow l5).grow l6) (k5.mono l6) k6 a0 (d i) sF sK (by rw[<-g];exact d (i+1))) ?_
  intro v7 u7 m7 l7 C _;rw[<-g]at C;rw[Cm];obtain⟨b7,a7,n7,c7,P,O,a1,Q,U,V,rfl⟩:=Oa C;exact G.i i<|G.b (hJ (i+1,(b7,a7,n7,c7),(P,O,a1,Q),U,V) _ _ _ cV ((((l3.trans l4).trans l5).trans l6).trans l7) ⟨dV,C.congr rfl dV⟩ dV)
 obtain rfl:i=L.length:=oV;refine G.lF L.length L.length ?_;have hc:=d L.length;rw[A05]at N hc;refine G.callK _ _ kV call76 (And N.i hc oV) ?_;rintro v7 u7 l7 ⟨r,rfl,C⟩;obtain⟨e1,f1,h1,e2,f2,h2,rfl⟩:=C.opn;exact G.drop PH.mt kV (PH.mt_le _)<|G.r (.tuple #[.agg #[.string (mkS (Ag (Ax F lab L).c)),.slice e1 f1 h1,.slice e2 f2 h2],.int .i64 0]) ⟨rfl,_,rfl,C⟩
def Az2:Value:=.agg #[.string (mkS []),.slice none 0 0]
def Afr {u:PH}:Ah prog 30 [] u PH.mt fun r h z=>∃ (g1 g2 g3 e:Nat),r=.agg #[.slice (some ⟨g1,0,none⟩) 3 3,.slice (some ⟨g3,0,none⟩) 1 1,.slice (some ⟨e,0,none⟩) 2 2,.int .i64 2] /\
 Ab h (.slice (some ⟨g1,0,none⟩) 3 3) 2 ((t18 false).map Ia)/\Ab h (.slice (some ⟨g2,0,none⟩) 3 3) 1 (Ai [0,1,2])/\Ab h (.slice (some ⟨e,0,none⟩) 2 2) 3 ((f18 0 false).map C4) /\
 Af PH.mt z (.slice (some ⟨g3,0,none⟩) 1 1) 96 2 [.agg #[.string (mkS [114]),.slice (some ⟨g2,0,none⟩) 3 3]]:=by
 refine Ah.o func30<|G.buildU 94 2 24 (.agg #[.string (mkS []),.int .i64 0]) ((t18 false).map Ia) kV (fun x d=>by
  simp only[t18,A1t,A38,A0v,A1q,or_false]at d;rcases d with rfl|rfl|rfl<;>exact⟨rfl,A06.1 rfl⟩) rfl oV (by simp[t18]) (by simp[t18]) ?_
 intro g1 F C m;refine G.buildU 3 1 8 (.int .i64 0) (Ai [0,1,2]) kV (A4 [0,1,2]) rfl oV (by simp[Ai]) (by simp[Ai]) ?_;intro g2 H l2 n;refine G.buildM 96 2 40 Az2 [.agg #[.string (mkS [114]),.slice (some ⟨g2,0,none⟩) 3 3]] kV (fun x d=>by
  simp only[A0v,A1q,or_false]at d;subst d;exact⟨rfl,A06.1 rfl⟩) rfl oV mV mV ?_
 intro g3 E g;refine G.buildU 98 3 24 (.agg #[.int .i64 0,.int .i64 0,.int .i64 0]) ((f18 0 false).map C4) kV (fun x d=>by
  simp only[f18,A1t,A38,A0v,A1q,or_false]at d;rcases d with rfl|rfl<;>exact⟨rfl,A06.1 rfl⟩) rfl oV (by simp[f18]) (by simp[f18]) ?_
 intro e I j t;exact G.r (.agg #[.slice (some ⟨g1,0,none⟩) 3 3,.slice (some ⟨g3,0,none⟩) 1 1,.slice (some ⟨e,0,none⟩) 2 2,.int .i64 2])
  ⟨g1,g2,g3,e,rfl,m.listP.mono (l2.trans j),n.listP.mono j,t.listP,g⟩
section
variable [Cj] [Dd]
section rules
variable {P:Program} [A6 P] {fn:Func} {Post:Ca} {st:List KI×S} {u m:PH}
def Y7 (z:Array Value)(n:Nat):(Builtin.zeroCells z n).toList.length=n*z.size:=by simp[Builtin.zeroCells]
def Arb {z:Array Value}(h:z.toList.all Be=true)(n:Nat):∀ x∈(Builtin.zeroCells z n).toList,Be x=true:=fun x d=>by
 rw[A06]at h;simp only[Builtin.zeroCells,Array.toList_map,Array.toList_range,A0r,A5x]at d;obtain⟨i,g,rfl⟩:=d;have h0:0<z.size:=Nat.pos_of_ne_zero fun e=>by rw[e,A29]at g;omega
 have j:=A2l i h0;rw[getElem!_pos z (i%z.size) j];exact h _ mV
def G.clearM (W e:TypeId)(sz g o n c:Nat)(t:TypeId)(d:List Value)(z:Value)(h:Ak P (adv P st)=.blt .clear [W] [.slice (some ⟨g,o,none⟩) n c])(U:Q7 (adv P st)=true)
 (hu:P.underlying W=some (.slice e)) (hz:Pn P e=some z) (hs:z.cells.size=sz) (hn:0<n) (hb:m g=some (.cells d.toArray t (0,0))) (a0:o+n*sz<=d.length) (O:z.cells.toList.all Be=true) (h2:∀ x∈d,Be x=true)
 (k:∀ zs:List Value,zs.length=n*sz->(∀ x∈zs,Be x=true)->G P fn Post (nx (adv P st) (.tuple #[])) u (m.upd g (.cells (d.take o++zs++d.drop (o+zs.length)).toArray t (0,0)))):G P fn Post st u m:=by
 obtain⟨zs,H⟩:∃ zs,(Builtin.zeroCells z.cells n).toList=zs:=⟨_,rfl⟩;have hl:zs.length=n*sz:=by rw[<-H,Y7,hs]
 have E:∀ x∈zs,Be x=true:=by rw[<-H];exact Arb O n
 refine G.bigN (K:=fun v' u' m'=>u'=u/\v'=.tuple #[]/\m'=m.upd g (.cells (d.take o++zs++d.drop (o+zs.length)).toArray t (0,0))) h mV U (fun R op hv=>by obtain⟨c,rfl,O,_⟩:=Np hv;obtain⟨callee,args,a1⟩:=c;simp only at O;subst O;rfl) (fun R op F w I=>?_) (fun v' u' m' _ hk=>?_)
 ·obtain⟨a3,a4,N,pos,Q,T⟩:=op;obtain⟨cc,rfl,X,Y,Z⟩:=Np F;obtain⟨a2,ar,ty⟩:=cc;simp only at X Y Z;subst X Y;have V:=I.pm g _ hb;have L:=run_storeCells_at P g o t zs 0 d.toArray w V (by simp[hl];omega) (fun x j=>Ja (E x j));have J:(Builtin.clear_ #[W] N #[.slice (some ⟨g,o,none⟩) n c]).run P w=.ok (.tuple #[]) (w.setRow g (d.take o++zs++d.drop (o+zs.length)).toArray):=by
   simp only[A2w,A3v]at L;obtain⟨n,rfl⟩:∃ k,n=k+1:=⟨n-1,oV⟩;simp[Builtin.clear_,run_underlying hu,K5 hz,H];rw[L];simp
  have C:∀ x∈(d.take o++zs++d.drop (o+zs.length)).toArray.toList,Be x=true:=by
   intro x j;simp only[A3v,A04]at j;rcases j with (j|j)|j
   ·exact h2 x (A23 j)
   ·exact E x j
   exact h2 x (A3w j)
  obtain⟨g1,g2⟩:=I.setM hb C;refine B0 (w':=w.setRow g (d.take o++zs++d.drop (o+zs.length)).toArray) (v:=.tuple #[]) ?_ ⟨u,_,g1,g2,rfl,rfl,rfl⟩;simp only[execOp,resolve,invoke,builtin,Z];simp[J]
 obtain⟨rfl,rfl,rfl⟩:=hk;exact k zs hl E
def G.clearA {t:TypeId}(O e:TypeId)(sz:Nat)(m0:PH)(es:List Value)(g n c i Q:Nat)(z:Value)(h:Ak P (adv P st)=.blt .clear [O] [.slice (some ⟨g,0+i*sz,none⟩) (n-i) Q])(J:Q7 (adv P st)=true)
 (hu:P.underlying O=some (.slice e)) (hz:Pn P e=some z) (Z:z.cells.size=sz) (U:z.cells.toList.all Be=true) (W:Af m0 m (.slice (some ⟨g,0,none⟩) n c) t sz es) (hi:i<n)
 (k:∀ T,Af m0 T (.slice (some ⟨g,0,none⟩) i c) t sz (es.take i)->G P fn Post (nx (adv P st) (.tuple #[])) u T):G P fn Post st u m:=by
 obtain⟨j,X⟩:=W;rcases X with ⟨I,_⟩|⟨g',cap,rest,K,rfl,I,R,H,F⟩
 ·cases I
 simp only[Value.slice.injEq,A0u,Addr.mk.injEq]at I;obtain⟨⟨rfl,_⟩,rfl,rfl⟩:=I;have E:=B7 j;have Y:i*sz+(es.length-i)*sz=es.length*sz:=by rw[<-A1m,show i+(es.length-i)=es.length by omega]
 have d:∀ x∈Bb es++rest,Be x=true:=fun x C=>(A04.1 C).elim (Gu j x) (F x);refine G.clearM O e sz g (0+i*sz) (es.length-i) Q t (Bb es++rest) z h J hu hz Z oV (Ac _ _ _) (by rw[A03,E];omega) U d ?_;intro zs L N;rw[Ds];refine k _ ⟨fun x C=>j x (A23 C),.inr ⟨g,c,zs++(Bb es++rest).drop (0+i*sz+zs.length),K,?_,by rw[A0q,A3o oV],by rw[A0q];omega,?_,fun x C=>?_⟩⟩
 ·rw[A2e,A47 oV,Z8 j,A2m]
 ·rw[<-H];have V:(Bb (es.take i)).length=i*sz:=by rw[<-Z8 j,A0q,E];omega
  simp only[A03,A7y,V,L,E,A2e];omega
 rcases A04.1 C with C|C
 ·exact N x C
 exact d x (A3w C)
end rules
end
end Go.Proofs.YtdgncafgglafjaaGreatDoor
