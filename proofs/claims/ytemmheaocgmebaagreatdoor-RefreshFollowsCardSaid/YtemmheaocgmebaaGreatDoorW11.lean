/- Parts of one proof, joined by a program. -/
import Derived.Test.YtemmheaocgmebaaGreatDoorW10
set_option linter.defProp false
set_option linter.unusedVariables false
set_option linter.unusedSimpArgs false
set_option linter.unusedSectionVars false
set_option maxHeartbeats 16000000
namespace Go.Proofs.YtemmheaocgmebaaGreatDoor
open Go.Proofs.Tryz
open Go.RowKit Go.MapKept
def A6c:=@List.map_eq_nil_iff
def A5r:=@List.perm_append_comm
def Ba8:=@Int.one_mul
section
variable {k:Nat}{s:Src}{ts:List Int}{u:PH}{v:Value}
def Asx {L:zW}(h:J0 u s ts)(I:k<=s.n)(z:Ac u v 1 (L.map nmV))(E:0<L.length)(F:L.length<=1000000) :
 Ag prog 51 [s.ptr,v] u (s.M k) fun v _ K=>∃ t∈L,∃ m:Nat,v=zS t/\m<=s.n/\K=s.M m:=by
 obtain⟨a,c,rfl⟩:=z.opn;rw[A03]at z⊢;refine Ag.o func51<|G.A call14 (I4 h I E F) ?_;rintro R Q P J ⟨r,m,rfl,H,C,rfl⟩ _;rw[By];obtain⟨b,off,rfl,e⟩:=Ac.at' (z.mono J) (j:=r) (e:=zS L[r]) (by simp[nmV,A01 H]);exact G.N L.length c H e<|G.r _ ⟨L[r],A09 H,m,rfl,C,rfl⟩
structure Fd (q:Rat):Prop where
 pos:0<q
 thirty:∃ p:Int,q*30=p/\p.natAbs<=90
 tx:Tx q
def Awd:∀ t∈[[49],[49,47,50],[51],[49,47,49,48],[55,47,51]],∃ q:Rat,t=Ae q/\Fd q:=by
 intro t e;simp only[A1g,A11,or_false]at e;rcases e with rfl|rfl|rfl|rfl|rfl
 ·exact⟨1,jV,jV,⟨30,jV,fV⟩,jV,jV⟩
 ·exact⟨1/2,jV,jV,⟨15,jV,fV⟩,jV,jV⟩
 ·exact⟨3,jV,jV,⟨90,jV,fV⟩,jV,jV⟩
 ·exact⟨1/10,jV,jV,⟨3,jV,fV⟩,jV,jV⟩
 exact⟨7/3,jV,jV,⟨70,jV,fV⟩,jV,jV⟩
def Afm (h:J0 u s ts)(z:k<=s.n) :
 Ag prog 12 [s.ptr] u (s.M k) fun v _ H=>∃ (q:Rat) (e:Nat),v=zS (Ae q)/\Fd q/\e<=s.n/\H=s.M e:=by
 refine Ag.o func12<|G.B 9 1 16 zE ([[49],[49,47,50],[51],[49,47,49,48],[55,47,51]].map nmV) (G6 _) ?_;intro g J F m;refine G.A call51 (Asx (L:=[[49],[49,47,50],[51],[49,47,49,48],[55,47,51]]) (h.mono F) z m.listP mV mV) ?_;rintro P K I l2 ⟨t,E,e,rfl,j,rfl⟩ _;rw[By];obtain⟨q,rfl,C⟩:=Awd t E;exact G.r (zS (Ae q)) ⟨q,e,rfl,C,j,rfl⟩
def Afs {v t:Value}{T:zC}{R:List Br}{F:List Al}{lab:Int}{C:CF}{K k:Nat}{P:List Par}{q:Rat}(h:Te u v t T R F lab C K k P)(m:Fd q) :
 Fn0 prog 59 [t,zS (Ae q)] u fun r _=>r=zI (if k=0 then 12 else 0):=by
 have e:=h.mom;obtain⟨a1,n1,c1,a2,n2,c2,rfl⟩:=id h.cof.opn;refine Fn0.o func59<|G.c call24 (Ee m.tx) ?_;rintro L H z rfl;refine G.c call25 (Agd m.tx) ?_;rintro Q I l2 rfl;refine G.kF' (sgn q.num) 0 (by rw[Acy,Ait m.pos];omega)<|G.c call25 (Agd e.tx) ?_;rintro U J E rfl;by_cases h0:k=0
 ·have j:C.c=0:=by rw[e.c,h0];rfl
  exact G.kT' (sgn C.c.num) 0 (by rw[j];decide)<|G.r (zI 12) ⟨rfl,by rw[if_pos h0]⟩
 exact G.kF' (sgn C.c.num) 0 (by rw[Acy,Ait (e.cpos h0)];omega)<|G.r zO ⟨rfl,by rw[if_neg h0]⟩
end
section
variable {X:zM}{c i n p r w:Nat}
def El (X:zM)(c:Nat):Nat->Nat->Nat
 |0,p=>p
 |f+1,p=>if gR (gM X p) c=0 then El X c f (p+1) else p
def If (X:zM)(p r:Nat):zM:=(X.set p (gM X r)).set r (gM X p)
def Kn (f:Rat)(row:zR):zR:=row.map (· / f)
def P9 (g:Rat)(R row:zR):zR:=(List.range row.length).map fun k=>gR row k-g*gR R k
def Js (r c:Nat):Nat->Nat->zM->zM
 |0,_,X=>X
 |f+1,i,X=>Js r c f (i+1) (if i=r\/gR (gM X i) c=0 then X else X.set i (P9 (gR (gM X i) c) (gM X r) (gM X i)))
def Xt (X:zM)(r c:Nat):zM:=X.set r (Kn (gR (gM X r) c) (gM X r))
def J8 (X:zM)(r c p:Nat):zM:=Js r c X.length 0 (Xt (if p=r then X else If X p r) r c)
def Bn:Nat->Nat->zK->zM->Rat->zK×zM×Rat
 |0,_,P,X,d=>(P,X,d)
 |f+1,c,P,X,d =>
  if P.length<X.length then
   if El X c (X.length-P.length) P.length=X.length then Bn f (c+1) P X d
   else Bn f (c+1) (P++[c]) (J8 X P.length c (El X c (X.length-P.length) P.length)) ((if El X c (X.length-P.length) P.length=P.length then d else 0-d)*gR (gM X (El X c (X.length-P.length) P.length)) c)
  else (P,X,d)
def Rec (n w:Nat)(X:zM):Prop:=X.length=n/\∀ i,i<n->(gM X i).length=w
def en (X:zM)(i j:Nat):Rat:=gR (gM X i) j
def Ss (X:zM)(c:Nat):∀ f p,p<=El X c f p/\El X c f p<=p+f
 |0,p=>by simp[El]
 |f+1,p=>by
  unfold El;split
  ·have:=Ss X c f (p+1);omega
  omega
def Yq (X:zM)(c:Nat):∀ f p i,p<=i->i<El X c f p->en X i c=0
 |0,p,i,h1,h2=>by simp[El]at h2;omega
 |f+1,p,i,h1,h2=>by
  unfold El at h2;split at h2
  ·rename_i h;by_cases e:i=p
   ·subst e;exact h
   exact Yq X c f (p+1) i oV h2
  omega
def W7 (X:zM)(c:Nat):∀ f p,El X c f p<p+f->en X (El X c f p) c≠0
 |0,p,h=>by simp[El]at h
 |f+1,p,h=>by
  unfold El at h⊢;split at h
  ·rename_i h0;rw[if_pos h0];exact W7 X c f (p+1) oV
  rename_i h0;rw[if_neg h0];exact h0
def I8 {r:zR}(h:Rec n w X)(hi:i<n)(m:r.length=w):Rec n w (X.set i r):=by
 refine⟨by simp[h.1],fun j e=>?_⟩;rw[Kb (by rw[h.1];exact hi)];split
 ·exact m
 exact h.2 j e
def Mk (h:Rec n w X)(hp:p<n)(e:r<n):Rec n w (If X p r) :=
 I8 (I8 h hp (h.2 r e)) e (h.2 p hp)
def Si (h:Rec n w X)(hp:p<n)(t:r<n)(i j:Nat):en (If X p r) i j=if i=r then en X p j else if i=p then en X r j else en X i j:=by
 unfold en If;rw[Kb (by simp[h.1];exact t),Kb (by rw[h.1];exact hp)];by_cases e:r=i
 ·rw[if_pos e,if_pos e.symm]
 rw[if_neg e,if_neg (show ¬ i=r by omega)];by_cases m:p=i
 ·rw[if_pos m,if_pos m.symm]
 rw[if_neg m,if_neg (show ¬ i=p by omega)]
theorem Ahx (f:Rat)(row:zR)(j:Nat):gR (Kn f row) j=gR row j/f:=by
 unfold gR Kn;rw[A02,A02,A1a];cases row[j]?<;>simp<;>grind
def Ai0 (g:Rat)(R row:zR){j:Nat}(e:j<row.length):gR (P9 g R row) j=gR row j-g*gR R j:=by
 unfold P9;exact Axo _ e
def R8 (h:Rec n w X)(e:r<n):Rec n w (Xt X r c) :=
 I8 h e (by simp[Kn,h.2 r e])
theorem Jd (h:Rec n w X)(t:r<n)(i j:Nat):en (Xt X r c) i j=if i=r then en X i j*(1/en X r c) else en X i j:=by
 unfold en Xt;rw[Kb (by rw[h.1];exact t)];by_cases e:r=i
 ·subst e;rw[if_pos rfl,if_pos rfl,Ahx];grind
 rw[if_neg e,if_neg (fun m=>e m.symm)]
def Al9 {n w r c:Nat}(e:r<n):∀ f i X,i+f<=n->Rec n w X->Rec n w (Js r c f i X)
 |0,i,X,_,h=>h
 |f+1,i,X,hf,h=>by
  unfold Js;refine Al9 e f (i+1) _ oV ?_;split
  ·exact h
  exact I8 h oV (by simp[P9,h.2 i oV])
theorem Abq (h:Rec n w X)(hi:i<n)(k j:Nat)(u:j<w):en (if i=r\/gR (gM X i) c=0 then X else X.set i (P9 (gR (gM X i) c) (gM X r) (gM X i))) k j=if k=i/\i≠r then en X i j-en X i c*en X r j else en X k j:=by
 by_cases e:i=r
 ·rw[if_pos (.inl e),if_neg oV]
 by_cases m:gR (gM X i) c=0
 ·rw[if_pos (.inr m)];split
  ·rename_i hk;rw[hk.1];unfold en;rw[m];grind
  rfl
 rw[if_neg (by simp[e,m])];unfold en;rw[Kb (by rw[h.1];exact hi)];by_cases t:i=k
 ·subst t;rw[if_pos rfl,if_pos ⟨rfl,e⟩,Ai0 _ _ _ (by rw[h.2 i hi];exact u)]
 rw[if_neg t,if_neg oV]
def Acm {n w r c:Nat}(z:r<n)(m:c<w):∀ f i X,i+f<=n->Rec n w X->∀ k j,j<w->en (Js r c f i X) k j=if i<=k/\k<i+f/\k≠r then en X k j-en X k c*en X r j else en X k j
 |0,i,X,_,h,k,j,hj=>by rw[if_neg oV];rfl
 |f+1,i,X,hf,h,k,j,hj=>by
  unfold Js;have u:Rec n w (if i=r\/gR (gM X i) c=0 then X else X.set i (P9 (gR (gM X i) c) (gM X r) (gM X i))):=by
   split
   ·exact h
   exact I8 h oV (by simp[P9,h.2 i oV])
  rw[Acm z m f (i+1) _ oV u k j hj,Abq h oV k j hj,Abq h oV k c m,Abq h oV r j hj];rw[if_neg (show ¬ (r=i/\i≠r) by omega)];by_cases t:k=i
  ·subst t;rw[if_neg oV];by_cases e:k=r
   ·rw[if_neg oV,if_neg oV]
   rw[if_pos ⟨rfl,e⟩,if_pos ⟨oV,oV,e⟩]
  rw[if_neg (show ¬ (k=i/\i≠r) by omega),if_neg (show ¬ (k=i/\i≠r) by omega)];by_cases e:i+1<=k/\k<i+1+f/\k≠r
  ·rw[if_pos e,if_pos ⟨oV,oV,e.2.2⟩]
  rw[if_neg e,if_neg oV]
def Xw (h:Rec n w X)(e:r<n)(hp:p<n):Rec n w (J8 X r c p):=by
 unfold J8;rw[h.1];refine Al9 e n 0 _ oV (R8 ?_ e);split
 ·exact h
 exact Mk h hp e
def Yb:∀ f c P X d,(Bn f c P X d).1.length<=P.length+f
 |0,c,P,X,d=>by simp[Bn]
 |f+1,c,P,X,d=>by
  unfold Bn;split
  ·split
   ·have:=Yb f (c+1) P X d;omega
   have:=Yb f (c+1) (P++[c]) (J8 X P.length c (El X c (X.length-P.length) P.length)) ((if El X c (X.length-P.length) P.length=P.length then d else 0-d)*gR (gM X (El X c (X.length-P.length) P.length)) c);rw[A1d]at this;simp at this⊢;omega
  simp
end
def And {u:PH}{v:Value}{A:zM}(h:C7 u v (Cv A))(E:Sq A):Fn0 prog 61 [v] u fun v' _=>v'=.tuple #[zI A.length,zI A.length,zO]:=by
 obtain⟨a,c,rfl⟩:=h.opn;rw[A3]at h⊢;have a0:=E.le;refine Fn0.o func61 ?_;by_cases h0:0<A.length
 ·refine G.gT A.length 0 ?_;obtain⟨K,Q,a1,c1,rfl,t,z⟩:=h.row (Dw (A01 h0));rw[A03,E.len h0]at t z;refine G.N A.length c h0 t ?_;clear t z;obtain⟨a,Y⟩:∃ a:zP,a=some ⟨K,Q,none⟩:=⟨_,rfl⟩;rw[<-Y]at h⊢;clear Y;refine G.gF A.length 12<|G.l (ι:=Nat) (fun i=>[(0,sV a A.length c),(5,iV A.length),(21,iV A.length),(22,iV i)]) (fun _=>[])
   (fun i U C=>i<=A.length/\C=PH.mt) (fun i=>A.length-i) 0 ⟨oV,rfl⟩ ?_
  rintro Z i F u1 m1 L ⟨hi,rfl⟩;by_cases m:i<A.length
  ·refine G.lT i A.length ?_;obtain⟨K,Q,a1,c1,rfl,t,z⟩:=(h.mono L).row (Dw (A01 m));rw[A03,E.len m]at t z;exact G.N A.length c m t<|G.gF A.length 12<|G.i i<|G.b (F (i+1) _ _ _ cV L ⟨oV,rfl⟩ oV)
  obtain rfl:i=A.length:=oV;clear m;refine G.lF A.length A.length ?_;clear F;refine G.l (ι:=Nat) (fun i=>[(0,sV a A.length c),(5,iV A.length),(33,iV A.length),(34,iV i)]) (fun _=>[])
   (fun i U C=>i<=A.length/\C=PH.mt) (fun i=>A.length-i) 0 ⟨oV,rfl⟩ ?_
  rintro J2 i H u2 m2 l2 ⟨hi,rfl⟩;by_cases m:i<A.length
  ·refine G.lT i A.length ?_;obtain⟨K,Q,a1,c1,rfl,t,z⟩:=(h.mono (L.trans l2)).row (Dw (A01 m));rw[A03,E.len m]at t z;exact G.N A.length c m t<|G.nF A.length A.length<|G.i i<|G.b (H (i+1) _ _ _ cV l2 ⟨oV,rfl⟩ oV)
  obtain rfl:i=A.length:=oV;clear m;refine G.lF A.length A.length ?_;clear H;refine G.l (ι:=Nat) (fun i=>[(0,sV a A.length c),(5,iV A.length),(46,iV A.length),(47,iV i)]) (fun _=>[])
   (fun i U C=>i<=A.length/\C=PH.mt) (fun i=>A.length-i) 0 ⟨oV,rfl⟩ ?_
  rintro J3 i R u3 m3 V ⟨hi,rfl⟩;by_cases m:i<A.length
  ·refine G.lT i A.length ?_;obtain⟨K,Q,a1,c1,rfl,t,z⟩:=(h.mono ((L.trans l2).trans V)).row (Dw (A01 m));rw[A03,E.len m]at t z;refine G.N A.length c m t<|G.l (ι:=Nat) (fun k=>[(0,sV (some ⟨K,Q,none⟩) A.length c),(5,iV A.length),(46,iV A.length),(47,iV i),(8,iV i),(54,iV A.length),(55,iV k)]) (fun _=>[])
    (fun k U C=>k<=A.length/\C=PH.mt) (fun k=>A.length-k) 0 ⟨oV,rfl⟩ ?_
   rintro J4 k T u4 m4 P ⟨hk,rfl⟩;by_cases J:k<A.length
   ·refine G.lT k A.length ?_;have I:k<A[i].length:=by rw[E.len m];exact J
    obtain⟨b2,o2,rfl,W⟩:=Ac.at' (Ac.mono z P) (j:=k) (e:=zS (Ae A[i][k])) (by simp[Cc,A01 I]);refine G.N A.length c m (t.mono P)<|G.N A.length c1 J W<|G.c call24 (Ee (E.tx' m I)) ?_;rintro v5 u5 X rfl;exact G.i k<|G.b (T (k+1) _ _ _ cV (P.trans X) ⟨oV,rfl⟩ oV)
   exact G.lF k A.length<|G.i i<|G.b (R (i+1) _ _ _ cV (V.trans P) ⟨oV,rfl⟩ oV)
  exact G.lF i A.length<|G.r (.tuple #[zI A.length,zI A.length,zO]) ⟨rfl,rfl⟩
 refine G.gF A.length 0 ?_;have hz:(A.length:Int)=0:=oV;refine G.gF A.length 12<|G.l (ι:=Nat) (fun i=>[(0,sV a A.length c),(5,iV 0),(21,iV A.length),(22,iV i)]) (fun _=>[])
  (fun i U C=>i<=A.length/\C=PH.mt) (fun i=>A.length-i) 0 ⟨oV,rfl⟩ ?_
 rintro Z i F u1 m1 L ⟨hi,rfl⟩;by_cases m:i<A.length
 ·refine G.lT i A.length ?_;obtain⟨K,Q,a1,c1,rfl,t,z⟩:=(h.mono L).row (Dw (A01 m));rw[A03,E.len m]at t z;exact G.N A.length c m t<|G.gF A.length 12<|G.i i<|G.b (F (i+1) _ _ _ cV L ⟨oV,rfl⟩ oV)
 obtain rfl:i=A.length:=oV;clear m;refine G.lF A.length A.length ?_;clear F;refine G.l (ι:=Nat) (fun i=>[(0,sV a A.length c),(5,iV 0),(33,iV A.length),(34,iV i)]) (fun _=>[])
  (fun i U C=>i<=A.length/\C=PH.mt) (fun i=>A.length-i) 0 ⟨oV,rfl⟩ ?_
 rintro J2 i H u2 m2 l2 ⟨hi,rfl⟩;by_cases m:i<A.length
 ·refine G.lT i A.length ?_;obtain⟨K,Q,a1,c1,rfl,t,z⟩:=(h.mono (L.trans l2)).row (Dw (A01 m));rw[A03,E.len m]at t z;exact G.N A.length c m t<|G.nF A.length 0<|G.i i<|G.b (H (i+1) _ _ _ cV l2 ⟨oV,rfl⟩ oV)
 obtain rfl:i=A.length:=oV;clear m;refine G.lF A.length A.length ?_;clear H;refine G.l (ι:=Nat) (fun i=>[(0,sV a A.length c),(5,iV 0),(46,iV A.length),(47,iV i)]) (fun _=>[])
  (fun i U C=>i<=A.length/\C=PH.mt) (fun i=>A.length-i) 0 ⟨oV,rfl⟩ ?_
 rintro J3 i R u3 m3 V ⟨hi,rfl⟩;by_cases m:i<A.length
 ·refine G.lT i A.length ?_;obtain⟨K,Q,a1,c1,rfl,t,z⟩:=(h.mono ((L.trans l2).trans V)).row (Dw (A01 m));rw[A03,E.len m]at t z;refine G.N A.length c m t<|G.l (ι:=Nat) (fun k=>[(0,sV (some ⟨K,Q,none⟩) A.length c),(5,iV 0),(46,iV A.length),(47,iV i),(8,iV i),(54,iV A.length),(55,iV k)]) (fun _=>[])
   (fun k U C=>k<=A.length/\C=PH.mt) (fun k=>A.length-k) 0 ⟨oV,rfl⟩ ?_
  rintro J4 k T u4 m4 P ⟨hk,rfl⟩;by_cases J:k<A.length
  ·refine G.lT k A.length ?_;have I:k<A[i].length:=by rw[E.len m];exact J
   obtain⟨b2,o2,rfl,W⟩:=Ac.at' (Ac.mono z P) (j:=k) (e:=zS (Ae A[i][k])) (by simp[Cc,A01 I]);refine G.N A.length c m (t.mono P)<|G.N A.length c1 J W<|G.c call24 (Ee (E.tx' m I)) ?_;rintro v5 u5 X rfl;exact G.i k<|G.b (T (k+1) _ _ _ cV (P.trans X) ⟨oV,rfl⟩ oV)
  exact G.lF k A.length<|G.i i<|G.b (R (i+1) _ _ _ cV (V.trans P) ⟨oV,rfl⟩ oV)
 exact G.lF i A.length<|G.r (.tuple #[zI A.length,zO,zO]) ⟨rfl,by rw[hz]⟩
section
variable {n:Nat}
structure B3 where
 b:Bool
 a:zP
 n:Nat
 c:Nat
def bv (f:B3):Value:=.agg #[.bool f.b,.slice f.a f.n f.c]
def bc (f:B3):List SV:=[.v (.bool f.b),.v (.slice f.a f.n f.c)]
def Do.opB {u:PH}{v:Value}{z:Int}(h:Do u v z):∃ f,v=bv f:=by
 obtain⟨b,a,n,c,rfl,_⟩:=h.opn;exact⟨⟨b,a,n,c⟩,rfl⟩
def nl1 (h:n<1000000000):nl n<=1:=A4 (by simpa using h)
def nlN (h:n<1000000000):nl ((n:Int)).natAbs<=1:=by rw[A1s];exact nl1 h
end
structure Q4 where
 b:Bool
 a:zP
 n:Nat
 c:Nat
 a':zP
 n':Nat
 c':Nat
def qv (f:Q4):Value:=.agg #[.bool f.b,.slice f.a f.n f.c,zL,.slice f.a' f.n' f.c']
def qc (f:Q4):List SV:=[.v (.bool f.b),.v (.slice f.a f.n f.c),.v zL,.v (.slice f.a' f.n' f.c')]
def QP.opQ {u:PH}{v:Value}{q:Rat}(h:QP u v q):∃ f,v=qv f:=by
 obtain⟨b,a,n,c,e,m,j,rfl,_⟩:=h.opn;exact⟨⟨b,a,n,c,e,m,j⟩,rfl⟩
section
variable {M:zM}{m m0 u:PH}{q:zR}{r:Value×zV}{rows:List (Value×zV)}{v:Value}
def zQ:Value:=.agg #[zL,zN,zL,zN]
def Akh (f:Q4):A9 4 [qv f]:=by
 intro x e;simp at e;subst e;exact⟨rfl,fun y h=>by simp[qv,Value.cells]at h;rcases h with rfl|rfl|rfl|rfl<;>rfl⟩
def Ej (r:Value×zV):Arr:=⟨r.1,69,4,r.2⟩
def oQ (v:Value)(rows:List (Value×zV)):Arr:=⟨v,131,1,rows.map (·.1)⟩
def Rg :(Ej r).At m0 m=Af m0 m r.1 69 4 r.2:=rfl
def Al7 :(oQ v rows).At m0 m=Af m0 m v 131 1 (rows.map (·.1)):=rfl
def QAt (u:PH)(rows:List (Value×zV))(M:zM):Prop:=rows.length=M.length/\∀ (i:Nat) (r:Value×zV),rows[i]?=some r->AtP QP u r.2 (gM M i)
def QAt.mono {u e:PH}{rows:List (Value×zV)}{M:zM}(h:QAt u rows M)(j:PH.le u e):QAt e rows M:=⟨h.1,fun i r t=>(h.2 i r t).mono (fun _ _ k=>k.mono j)⟩
def QAt.set {i:Nat}(h:QAt u rows M)(hi:i<rows.length)(z:AtP QP u r.2 q):QAt u (rows.set i r) (M.set i q):=by
 refine⟨by simp[h.1],fun j r' t=>?_⟩;rw[Kb (by rw[<-h.1];exact hi)];rw[A1z]at t;by_cases e:i=j
 ·subst e;rw[if_pos rfl,if_pos hi]at t;simp only[A1f]at t;rw[if_pos rfl,<-t];exact z
 rw[if_neg e]at t⊢;exact h.2 j r' t
def QAt.snoc (h:QAt u rows M)(j:AtP QP u r.2 q):QAt u (rows++[r]) (M++[q]):=by
 refine⟨by simp[h.1],fun i r' hi=>?_⟩;rw[Avd];by_cases e:i<rows.length
 ·rw[A1r e]at hi;rw[if_pos (by rw[<-h.1];exact e)];exact h.2 i r' hi
 rw[A18 oV]at hi;have t:i-rows.length=0:=by
  rcases A2a (i-rows.length) with h0|h0
  ·exact h0
  rw[A1v gV]at hi;cases hi
 rw[t]at hi;simp at hi;subst hi;rw[if_neg (by rw[<-h.1];exact e),if_pos (by rw[<-h.1];omega)];exact j
def M2 {α:Type}{l:List α}{k:Nat}(h:k<l.length):l.take (k+1)=l.take k++[l[k]]:=by
 rw[A1n,A01 h];rfl
def Ane {A:zM}(h:C7 u v (Cv A))(hs:Sq A) :
 Ag prog 62 [v] u PH.mt fun v' u' Z=>∃ a c rows,v'=.slice a A.length c/\QAt u' rows A/\Bag Z (oQ (.slice a A.length c) rows::rows.map Ej):=by
 obtain⟨a0,c0,rfl⟩:=h.opn;rw[A3]at h⊢;have a5:=hs.le;refine Ag.o func62<|G.l (ι:=Nat×(zP×Nat)×List (Value×zV)) (fun i=>[(0,sV a0 A.length c0),(3,sV i.2.1.1 i.1 i.2.1.2),(9,iV A.length),(10,iV i.1)]) (fun _=>[])
  (fun i u' Z=>i.1<=A.length/\QAt u' i.2.2 (A.take i.1)/\Bag Z (oQ (.slice i.2.1.1 i.1 i.2.1.2) i.2.2::i.2.2.map Ej))
  (fun i=>A.length-i.1) (0,(none,0),[]) ⟨A1t _,⟨rfl,fun j r hj=>by simp at hj⟩,PH.mt,Af.nil _ _ _,trivial⟩ ?_
 rintro J ⟨i,⟨a,c⟩,rows⟩ hJ u1 m1 l1 ⟨hi,X,E⟩;simp only at hi X E hJ;have a4:rows.length=i:=by rw[X.1,A1e];omega
 by_cases F:i<A.length
 ·refine G.lT i A.length ?_;obtain⟨b1,o1,a1,c1,rfl,e1,e2⟩:=(h.mono l1).row (Dw (A01 F));have R:=hs.len F;rw[A03,R]at e1 e2;refine G.N A.length c0 F e1<|G.l (ι:=Nat×(zP×Nat)×zV) (fun j=>[(0,sV (some ⟨b1,o1,none⟩) A.length c0),(3,sV a i c),(9,iV A.length),(10,iV i),(5,sV j.2.1.1 j.1 j.2.1.2),(16,sV a1 A.length c1),(17,iV A.length),(18,iV j.1)]) (fun _=>[])
   (fun j u' Z=>j.1<=A.length/\AtP QP u' j.2.2 (A[i].take j.1)/\Bag Z (Ej (.slice j.2.1.1 j.1 j.2.1.2,j.2.2)::oQ (.slice a i c) rows::rows.map Ej))
   (fun j=>A.length-j.1) (0,(none,0),[]) ⟨A1t _,AtP.nil,m1,Af.nil _ _ _,E⟩ ?_
  rintro J2 ⟨j,⟨I,K⟩,es⟩ W u2 m2 l2 ⟨hj,C,z⟩;simp only at hj C z W;have a3:es.length=j:=by rw[C.1,A1e];omega
  by_cases L:j<A.length
  ·refine G.lT j A.length ?_;have T:j<A[i].length:=by rw[R];exact L
   obtain⟨b2,o2,rfl,e3⟩:=Ac.at' (Ac.mono e2 l2) (j:=j) (e:=zS (Ae A[i][j])) (by simp[Cc,A01 T]);refine G.N A.length c1 L e3<|G.c call27 (G8 (hs.tx' F T)) ?_;intro v4 u4 l4 k4;obtain⟨V,rfl⟩:=k4.opQ;refine G.B 69 4 64 zQ [qv V] (Akh V) ?_;intro g5 u5 U e5;obtain⟨mm,H,a2⟩:=z;rw[Rg]at H;refine G.append 69 4 64 zQ mm es [qv V] (.slice I j K) g5 0 1 1 kV rfl rfl oV H e5 (Akh V) rfl oV oV oV ?_;intro v6 m6 t;obtain⟨a6,c6,rfl⟩:=t.shape;have el:(es++[qv V]).length=j+1:=by simp[a3]
   rw[el]at t⊢;refine G.i j<|G.b (W (j+1,(a6,c6),es++[qv V]) _ _ _ cV ((l2.trans l4).trans U) ⟨dV,?_,mm,t,a2⟩ dV);dsimp only;rw[M2 T];exact (C.mono (fun _ _ k=>k.mono (l4.trans U))).snoc (k4.mono U)
  obtain rfl:j=A.length:=oV;refine G.lF A.length A.length ?_;have hA:A[i].take A.length=A[i]:=by rw[<-R];exact A15
  rw[hA]at C;refine G.B 131 1 24 zN [.slice I A.length K] (B5 _ _ _) ?_;intro g5 u5 U e5;obtain⟨m0,H,Y⟩:=z.focus 1 rfl;rw[Al7]at H;refine G.k 131 1 24 zN m0 (rows.map (·.1)) [.slice I A.length K] (.slice a i c) g5 0 1 1 H e5 (B5 _ _ _) ?_;intro v6 m6 t;have em:rows.map (·.1)++[Value.slice I A.length K]=(rows++[(Value.slice I A.length K,es)]).map (·.1):=mV;rw[em]at t;obtain⟨a6,c6,rfl⟩:=t.shape;have el:((rows++[(Value.slice I A.length K,es)]).map (·.1)).length=i+1:=by simp[a4]
  rw[el]at t⊢;have P:=Y (oQ (.slice a6 (i+1) c6) (rows++[(Value.slice I A.length K,es)])) m6 t;have Q:=Bag.perm Aff P;refine G.i i<|G.b (hJ (i+1,(a6,c6),rows++[(Value.slice I A.length K,es)]) _ _ _ cV ((l1.trans l2).trans U) ⟨dV,?_,by simpa using Q⟩ dV);dsimp only;rw[M2 F];exact (X.mono (l2.trans U)).snoc (C.mono (fun _ _ k=>k.mono U))
 obtain rfl:i=A.length:=oV;refine G.lF A.length A.length ?_;rw[A15]at X;exact G.r (.slice a A.length c) ⟨a,c,rows,rfl,X,E⟩
end
section
variable {R Y:zR}{X:zM}{i k n s w:Nat}{r:Value×zV}{rows:List (Value×zV)}{v:Value}
def Np (v:Value)(P:zK):Arr:=⟨v,3,1,Ai P⟩
def Aka {P:zK}{m0 m:PH}:(Np v P).At m0 m=Af m0 m v 3 1 (Ai P):=rfl
def Ka {s o:Arr}(h:rows[i]?=some r):(s::o::rows.map Ej)[i+2]?=some (Ej r):=by simp[h]
def Afw {s o:Arr}:(s::o::rows.map Ej).set (i+2) (Ej r)=s::o::(rows.set i r).map Ej:=by
 rw[A2j,A2j,A2g]
def Apm {x:Value}{es es':zV}(h:rows[i]?=some (x,es)):oQ v (rows.set i (x,es'))=oQ v rows:=by
 unfold oQ;rw[Un (r':=(x,es')) h rfl]
def Agr {u m:PH}{pa:Arr}{g n c w i:Nat}(z:Bag m (pa::oQ (.slice (zA g) n c) rows::rows.map Ej))(P:QAt u rows X)(K:Rec n w X)(hi:i<n)(V:0<w) :
 ∃ F I E,rows[i]?=some (.slice (zA F) w I,E)/\E.length=w/\AtP QP u E (gM X i)/\ElP m g (0+i*1) (.slice (zA F) w I)/\∀ j,j<w->∃ f,E[j]?=some (qv f)/\QP u (qv f) (gR (gM X i) j)/\ElP m F (0+j*4) (qv f):=by
 have U:rows.length=n:=by rw[P.1,K.1]
 have h:rows[i]?=some rows[i]:=A01 oV;have t:=P.2 i _ h;obtain⟨⟨W,E⟩,Q⟩:∃ x,rows[i]=x:=⟨_,rfl⟩;rw[Q]at h t;simp only at t;have C:E.length=w:=by rw[t.1,K.2 i hi]
 obtain⟨F,I,e⟩:=z.ptr (i+2) (Ka h) (by intro e;simp only[Ej]at e;rw[e]at C;simp at C;omega);simp only[Ej]at e;rw[C]at e;subst e;refine⟨F,I,E,h,C,t,z.el 1 (x:=oQ _ rows) rfl rfl (by show (rows.map (·.1))[i]?=_;rw[A1a,h];rfl),fun j T=>?_⟩;have H:j<(gM X i).length:=by rw[K.2 i hi];exact T
 obtain⟨e,L,J⟩:=t.at H;obtain⟨f,rfl⟩:=J.opQ;rw[<-Cu H]at J;exact⟨f,L,J,z.el (i+2) (x:=Ej _) (Ka h) rfl L⟩
def es (s:Nat):Nat->Nat
 |0=>s
 |k+1=>4*es s k+2
def Apd (s : Nat) {k l : Nat} (h : k ≤ l) : es s k ≤ es s l := by
  induction l with
  | zero => have : k = 0 := by omega
            subst this; exact A08 _
  | succ l ih =>
    rcases A2e k (l + 1) with e | e
    · have := ih oV
      show es s k ≤ 4 * es s l + 2
      omega
    have : k = l + 1 := by omega
    subst this; exact A08 _
def Axr (h:1<=s)(k:Nat):1<=es s k:=A04 h (Apd s (A1t k))
def SzM.at {n w s i j:Nat}(h:SzM X s)(e:Rec n w X)(hi:i<n)(m:j<w):Sz (gR (gM X i) j) s:=h i j (by rw[e.1];exact hi) (by rw[e.2 i hi];exact m)
def Aco (e:Rec n w X)(h:∀ i j,i<n->j<w->Sz (gR (gM X i) j) s):SzM X s:=fun i j hi m=>by
 rw[e.1]at hi;rw[e.2 i hi]at m;exact h i j hi m
def Az7 {q:Rat}:decide (q.num=0)=decide (q=0):=decide_eq_decide.2 A4r
def Tj (Y R:zR)(k:Nat):zR:=Y.take k++R.drop k
def Aa3 (Y R:zR):Tj Y R 0=R:=by simp[Tj]
def Ad7 (h:Y.length=k)(e:R.length=k):Tj Y R k=Y:=by
 unfold Tj;rw[A1j oV,A2b oV,A1x]
def Agl (h:Y.length=R.length)(e:k<=R.length):(Tj Y R k).length=R.length:=by simp[Tj];omega
def Af8 (h:Y.length=R.length)(e:k<R.length):(Tj Y R k).set k (gR Y k)=Tj Y R (k+1):=by
 unfold Tj;rw[A4t _ _ gV];simp only[A1e];rw[show k-min k Y.length=0 by omega,A5z e,A2p,M2 oV,A2k,Cu oV];rfl
def Al3 (h:Y.length=R.length)(e:k<R.length):gR (Tj Y R k) k=gR R k:=by
 unfold Tj gR;rw[A02,A18 gV,A02];simp only[A1e];rw[show k-min k Y.length=0 by omega,A39];rfl
end
structure ES where
 c:Nat
 P:zK
 pa:zP
 pc:Nat
 rows:List (Value×zV)
 X:zM
 f:Q4
 d:Rat
structure E2 where
 rows:List (Value×zV)
 X:zM
 f:Q4
 d:Rat
def Ai8 {n w p r E:Nat}{X:zM}(h:Rec n w X)(hp:p<n)(m:r<n)(t:SzM X E):Rec n w (if p=r then X else If X p r)/\SzM (if p=r then X else If X p r) E/\∀ j,gR (gM (if p=r then X else If X p r) r) j=gR (gM X p) j:=by
 by_cases e:p=r
 ·rw[if_pos e];exact⟨h,t,fun j=>by rw[e]⟩
 rw[if_neg e];refine⟨Mk h hp m,Aco (Mk h hp m) (fun i j hi u=>?_),fun j=>?_⟩
 ·show Sz (en (If X p r) i j) E;rw[Si h hp m];split
  ·exact t.at h hp u
  split
  ·exact t.at h m u
  exact t.at h hi u
 show en (If X p r) r j=_;rw[Si h hp m,if_pos rfl];rfl
def Ny {α:Type}{l:List α}{i:Nat}{x:α}(h:l[i]?=some x):l.set i x=l:=by
 obtain⟨e,j⟩:=A05.1 h;rw[<-j];exact A9w e
def Ary (F:Rat)(R:zR):(Kn F R).length=R.length:=by simp[Kn]
def Apn (g:Rat)(R S:zR):(P9 g R S).length=S.length:=by simp[P9]
def Apb {u m:PH}{a:zP}{C:Nat}{a7:List (Value×zV)}{X0:zM}{n w h s:Nat}(d8:Rec n w X0)(hn:n<=100)(hw:w<=100)(dw:h<=w)(bi:SzM X0 s)(hs:1<=s)(bs:es s h<=1000000000)
 (cc:QAt u a7 X0) (ap:Bag m (oQ (.slice a n C) a7::a7.map Ej)) :
 Ag prog 139 [.slice a n C,zI h] u m fun v u' m'=>∃ pa pc f T,v=.tuple #[.slice pa (Bn h 0 [] X0 1).1.length pc,qv f]/\QP u' (qv f) (Bn h 0 [] X0 1).2.2/\QAt u' T (Bn h 0 [] X0 1).2.1 /\
  Bag m' (Np (.slice pa (Bn h 0 [] X0 1).1.length pc) (Bn h 0 [] X0 1).1::oQ (.slice a n C) T::T.map Ej):=by
 refine Ag.o func139<|G.c call22 (P6 (z:=1) oV oV) ?_;intro v1 u1 l1 k1;rw[show ((1:Int):Rat)=1 from by decide]at k1;obtain⟨f1,rfl⟩:=k1.opQ;refine G.l (ι:=ES) (fun i=>[(0,sV a n C),(1,iV h),(5,.p 1 0),(6,sV i.pa i.P.length i.pc),(7,.p 2001 0),(8,iV i.c)]) (fun i=>[(1,⟨69,[bV false,sV none 0 0,bV false,sV none 0 0]⟩),(2001,⟨69,qc i.f⟩)])
  (fun i u' m'=>i.c<=h/\i.P.length<=i.c/\Bn (h-i.c) i.c i.P i.X i.d=Bn h 0 [] X0 1/\Rec n w i.X/\SzM i.X (es s i.c)/\Sz i.d (es s i.c)/\QP u' (qv i.f) i.d/\QAt u' i.rows i.X/\Bag m' (Np (.slice i.pa i.P.length i.pc) i.P::oQ (.slice a n C) i.rows::i.rows.map Ej))
  (fun i=>h-i.c) ⟨0,[],none,0,a7,X0,f1,1⟩ ⟨A1t _,A08 _,rfl,d8,bi,(Adt (z:=1) fV).mono hs,k1,cc.mono l1,m,Af.nil _ _ _,ap⟩ ?_
 rintro J ⟨c,P,pa,pc,I,X,f,d⟩ hJ u2 m2 l2 ⟨hc,d7,a0,hX,an,ad,hf,hQ,V⟩;simp only at hc d7 a0 hX an ad hf hQ V hJ;clear ap cc bi k1;have aq:Bn (h-c) c P X d=(P,X,d)->∃ d3 d4 f' T,(Value.tuple #[.slice pa P.length pc,qv f])=.tuple #[.slice d3 (Bn h 0 [] X0 1).1.length d4,qv f']/\QP u2 (qv f') (Bn h 0 [] X0 1).2.2/\QAt u2 T (Bn h 0 [] X0 1).2.1/\Bag m2 (Np (.slice d3 (Bn h 0 [] X0 1).1.length d4) (Bn h 0 [] X0 1).1::oQ (.slice a n C) T::T.map Ej):=by
  intro e;rw[e]at a0;rw[<-a0];exact⟨pa,pc,f,I,rfl,hf,hQ,V⟩
 by_cases dh:h<=c
 ·exact G.lF c h<|G.r (.tuple #[.slice pa P.length pc,qv f]) (aq (by rw[show h-c=0 by omega];rfl))
 have dh:c<h:=oV;refine G.lT c h ?_;obtain⟨K,hK⟩:∃ K,h-c=K+1:=⟨h-c-1,oV⟩;by_cases hP:n<=P.length
 ·exact G.lF P.length n<|G.r (.tuple #[.slice pa P.length pc,qv f]) (aq (by rw[hK,Bn,if_neg (by rw[hX.1];omega)]))
 clear aq;have hP:P.length<n:=oV;refine G.lT P.length n ?_;have b1:0<w:=oV;have c0:I.length=n:=by rw[hQ.1,hX.1]
 obtain⟨go,ds,eo⟩:=V.ptr 1 rfl (by intro e;simp only[oQ,A6c]at e;rw[e]at c0;simp at c0;omega);simp only[oQ,A03,c0,Value.slice.injEq,true_and]at eo;obtain⟨rfl,rfl⟩:=eo;have df:=Axr hs c;have cn:4*es s c+2<=1000000000:=A04 (Apd s (show c+1<=h by omega)) bs;obtain⟨E,hE⟩:∃ E,E=es s c:=⟨_,rfl⟩;have c7:es s (c+1)=4*E+2:=by rw[hE];rfl
 rw[<-hE]at an ad df cn;refine G.l (ι:=Nat) (fun p=>[(0,sV (zA go) n C),(1,iV h),(5,.p 1 0),(6,sV pa P.length pc),(7,.p 2001 0),(8,iV c),(9,iV P.length),(10,iV p)]) (fun _=>[(1,⟨69,[bV false,sV none 0 0,bV false,sV none 0 0]⟩),(2001,⟨69,qc f⟩)])
  (fun p u' m'=>P.length<=p/\p<=n/\El X c (n-p) p=El X c (n-P.length) P.length/\m'=m2) (fun p=>n-p) P.length ⟨A08 _,oV,rfl,rfl⟩ ?_
 rintro J2 p ca u3 m3 l3 ⟨dy,dz,aw,rfl⟩;have L:=hQ.mono l3;have b8:=hf.mono l3;by_cases ab:n<=p
 ·obtain rfl:p=n:=oV;refine G.lF p p<|G.eT' p p rfl<|G.i c<|G.b (hJ ⟨c+1,P,pa,pc,I,X,f,d⟩ _ _ _ cV (l2.trans l3) ⟨dV,dV,?_,hX,an.mono dV,ad.mono dV,b8,L,V⟩ dV);dsimp only;rw[<-a0,hK,Bn,if_pos (by rw[hX.1];exact hP),hX.1,<-aw,if_pos (by rw[A4i];rfl),show h-(c+1)=K by omega]
 have ab:p<n:=oV;refine G.lT p n ?_;obtain⟨K2,bm⟩:∃ K2,n-p=K2+1:=⟨n-p-1,oV⟩;obtain⟨gp,cp,ep,cv,dk,c6,av,cl⟩:=Agr V L hX ab b1;obtain⟨fp,dj,cq,ct⟩:=cl c oV;have bj:=an.at hX ab (show c<w by omega);refine G.O n C ab av<|G.o w cp ct<|G.c call81 (Nt cq (A04 bj.1 oV)) ?_;rintro v4 u4 l4 rfl;rw[Az7];by_cases hz:gR (gM X p) c=0
 ·rw[decide_eq_true hz];refine G.i p<|G.b (ca (p+1) _ _ _ cV (l3.trans l4) ⟨oV,oV,?_,rfl⟩ oV);rw[<-aw,bm,El,if_pos hz,show n-(p+1)=K2 by omega]
 rw[decide_eq_false hz];rw[bm,El,if_neg hz]at aw;clear ca;refine G.eF p n<|G.join (ι:=E2) zL (fun i=>[(0,sV (zA go) n C),(1,iV h),(5,.p 1 0),(6,sV pa P.length pc),(7,.p 2001 0),(8,iV c),(9,iV P.length)]) (fun i=>[(1,⟨69,[bV false,sV none 0 0,bV false,sV none 0 0]⟩),(2001,⟨69,qc i.f⟩)])
  (fun i u' m'=>i.X=(if p=P.length then X else If X p P.length)/\i.d=(if p=P.length then d else 0-d)/\QAt u' i.rows i.X/\QP u' (qv i.f) i.d/\Bag m' (Np (.slice pa P.length pc) P::oQ (.slice (zA go) n C) i.rows::i.rows.map Ej)) (fun _=>kV) kV ?tail ?way
 case way =>
  intro au;by_cases bb:p=P.length
  ·refine G.nF p P.length ?_;exact au ⟨I,X,f,d⟩ _ _ _ kV cV (PH.le_refl _) ⟨by rw[if_pos bb],by rw[if_pos bb],L.mono l4,b8.mono l4,V⟩
  refine G.nT p P.length ?_;obtain⟨gr,cr,er,am,bh,ao,al,bq⟩:=Agr V L hX hP b1;refine G.O n C hP al<|G.O n C ab av ?_;obtain⟨m0,a1,a8⟩:=V.focus 1 rfl;rw[Al7]at a1;refine G.a go 0 n C p 1 ab<|G.storeA 1 m0 _ go n C p (.slice (zA gr) w cr) kV a1 gV rfl rfl ?_;intro m5 dm;refine G.a go 0 n C P.length 1 hP<|G.storeA 1 m0 _ go n C P.length (.slice (zA gp) w cp) kV dm gV rfl rfl ?_;intro m6 cy;have c1:((I.map (·.1)).set p (Value.slice (zA gr) w cr)).set P.length (Value.slice (zA gp) w cp)=((I.set p (Value.slice (zA gr) w cr,er)).set P.length (Value.slice (zA gp) w cp,ep)).map (·.1):=by rw[A2g,A2g]
  rw[c1]at cy;have d9:=a8 (oQ (.slice (zA go) n C) ((I.set p (Value.slice (zA gr) w cr,er)).set P.length (Value.slice (zA gp) w cp,ep))) m6 cy;have bx:((I.set p (Value.slice (zA gr) w cr,er)).set P.length (Value.slice (zA gp) w cp,ep)).Perm I:=by
   obtain⟨q1,q2⟩:=A05.1 cv;obtain⟨q3,q4⟩:=A05.1 am;rw[<-q2,<-q4];exact List.set_set_perm q1 q3
  have da:=Bag.perm (List.Perm.cons _ (List.Perm.cons _ (bx.symm.map Ej))) d9;have aa:=(L.set (i:=p) (r:=(Value.slice (zA gr) w cr,er)) oV ao).set (i:=P.length) (r:=(Value.slice (zA gp) w cp,ep)) gV c6;refine G.c call22 (P6 (z:=0) oV oV) ?_;intro v8 u8 l8 k8;rw[show ((0:Int):Rat)=0 from by decide]at k8;obtain⟨f8,rfl⟩:=k8.opQ;refine G.c call32 (Adl k8 (b8.mono (l4.trans l8)) (Q3.mono oV) (ad.mono oV)) ?_;intro v9 u9 l9 k9;obtain⟨f9,rfl⟩:=k9.opQ;exact au ⟨(I.set p (Value.slice (zA gr) w cr,er)).set P.length (Value.slice (zA gp) w cp,ep),If X p P.length,f9,0-d⟩ _ _ _ kV cV (l8.trans l9) ⟨by rw[if_neg bb],by rw[if_neg bb],aa.mono (l4.trans (l8.trans l9)),k9,da⟩
 rintro⟨rows1,X1,f1',d1⟩ u5 m5 l5 ⟨hX1e,hd1e,aa,hf1,hbag1⟩;simp only at hX1e hd1e aa hf1 hbag1;obtain⟨a5,ah,af⟩:=Ai8 hX ab hP an;have ay:Sz (if p=P.length then d else 0-d) (E+2):=by
  split
  ·exact ad.mono oV
  exact (Akj Q3 ad).mono oV
 have az:Bn (h-c) c P X d=Bn (h-(c+1)) (c+1) (P++[c]) (Js P.length c n 0 (Xt X1 P.length c)) (d1*gR (gM X1 P.length) c):=by
  rw[hK,Bn,if_pos (by rw[hX.1];exact hP),hX.1,<-aw,if_neg oV,show h-(c+1)=K by omega,hX1e,hd1e,af];unfold J8;rw[hX.1]
 rw[<-hX1e]at a5 ah af;rw[<-hd1e]at ay;rw[az]at a0;have bd:gR (gM X1 P.length) c≠0:=by rw[af];exact hz
 clear az hX1e hd1e af V hQ L b8 hf an ad aw cv dk c6 av cl dj cq ct bj hz bm;have cu:rows1.length=n:=by rw[aa.1,a5.1]
 obtain⟨gr,cr,er,am,bh,ao,al,bq⟩:=Agr hbag1 aa a5 hP b1;obtain⟨fr,h5,h6,h7⟩:=bq c oV;obtain⟨R,hR⟩:∃ R,R=gM X1 P.length:=⟨_,rfl⟩;have cd:R.length=w:=by rw[hR];exact a5.2 _ hP
 have bp:∀ j,j<w->Sz (gR R j) E:=fun j hj=>by rw[hR];exact ah.at a5 hP hj
 rw[<-hR]at h6 ao a0;obtain⟨F,hF⟩:∃ F,F=gR R c:=⟨_,rfl⟩;have b4:Sz F E:=by rw[hF];exact bp c oV
 rw[<-hF]at h6 a0;rw[<-hR,<-hF]at bd;refine G.O n C hP al<|G.o w cr h7<|G.c call28 (Gh hf1 h6 (ay.mono oV) (b4.mono oV)) ?_;intro v6 u6 l6 k6;obtain⟨f6,rfl⟩:=k6.opQ;refine G.O n C hP al<|G.o w cr h7<|G.O n C hP al ?_;have br:=Ary F R;have c8:F≠0:=bd;refine G.l (ι:=Nat×zV) (fun i=>[(0,sV (zA go) n C),(1,iV h),(5,.p 1 0),(6,sV pa P.length pc),(7,.p 2001 0),(8,iV c),(9,iV P.length),(11,.p 15007 0),(92,iV w),(93,iV i.1)]) (fun i=>[(1,⟨69,[bV false,sV none 0 0,bV false,sV none 0 0]⟩),(2001,⟨69,qc f6⟩),(15007,⟨69,qc fr⟩)])
  (fun i u' m'=>i.1<=w/\AtP QP u' i.2 (Tj (Kn F R) R i.1)/\Bag m' (Np (.slice pa P.length pc) P::oQ (.slice (zA go) n C) rows1::(rows1.set P.length ((Value.slice (zA gr) w cr),i.2)).map Ej)) (fun i=>w-i.1) (0,er)
  ⟨A1t _,by rw[Aa3];exact ao.mono (fun _ _ k=>k.mono l6),by rw[Ny am];exact hbag1⟩ ?_
 rintro J3 ⟨k,es1⟩ bl u7 m7 l7 ⟨hk,U,H⟩;simp only at hk U H bl;have ba:=Agl (k:=k) (br.trans rfl) oV;have cm:es1.length=w:=by rw[U.1,ba,cd]
 have a2:(rows1.set P.length ((Value.slice (zA gr) w cr),es1))[P.length]?=some ((Value.slice (zA gr) w cr),es1):=by rw[A1z];simp[cu,hP]
 by_cases b9:k<w
 ·refine G.lT k w ?_;obtain⟨e,e1,e2⟩:=U.at (j:=k) oV;obtain⟨fe,rfl⟩:=e2.opQ;rw[<-Cu oV,Al3 br oV]at e2;have ho:ElP m7 go (0+P.length*1) (Value.slice (zA gr) w cr):=H.el 1 (x:=oQ (.slice (zA go) n C) rows1) rfl rfl (by show (rows1.map (·.1))[P.length]?=_;rw[A1a,am];rfl);have he:ElP m7 gr (0+k*4) (qv fe):=H.el (P.length+2) (x:=Ej ((Value.slice (zA gr) w cr),es1)) (Ka a2) rfl e1;refine G.O n C hP ho<|G.O n C hP ho<|G.O w cr b9 he<|G.c call82 (At6 e2 (h6.mono (l6.trans l7)) ((bp k b9).mono oV) (b4.mono oV) c8) ?_;intro v8 u8 l8 k8;obtain⟨f8,rfl⟩:=k8.opQ;obtain⟨m0,a1,a8⟩:=H.focus (P.length+2) (Ka a2);rw[Rg]at a1;refine G.a gr 0 w cr k 4 b9<|G.storeA 4 m0 es1 gr w cr k (qv f8) kV a1 oV rfl rfl ?_;intro m9 dp;have cj:=a8 (Ej ((Value.slice (zA gr) w cr),es1.set k (qv f8))) m9 dp;rw[Afw,A6r]at cj;refine G.i k<|G.b (bl (k+1,es1.set k (qv f8)) _ _ _ cV (l7.trans l8) ⟨dV,?_,cj⟩ dV);dsimp only;rw[<-Af8 br oV,Ahx];exact (U.mono (fun _ _ k=>k.mono l8)).set k k8
 obtain rfl:k=w:=oV;refine G.lF k k ?_;rw[Ad7 oV cd]at U;clear bl ba b9 hk h7 al bq h5;have b6:Rec n k (X1.set P.length (Kn F R)):=I8 a5 hP oV;have be:Xt X1 P.length c=X1.set P.length (Kn F R):=by unfold Xt;rw[<-hR,<-hF]
 rw[be]at a0;have bo:=(aa.mono (l6.trans l7)).set (i:=P.length) (r:=((Value.slice (zA gr) k cr),es1)) oV U;rw[<-Apm (es':=es1) am]at H;have a6:∀ i,gM (X1.set P.length (Kn F R)) i=if P.length=i then Kn F R else gM X1 i:=fun i=>Kb (by rw[a5.1];exact hP)
 generalize rows1.set P.length ((Value.slice (zA gr) k cr),es1)=rows2 at *
 obtain⟨X2,bf⟩:∃ X2,X2=X1.set P.length (Kn F R):=⟨_,rfl⟩;rw[<-bf]at b6 bo a0 a6;have b7:∀ j,j<k->Sz (gR (Kn F R) j) (2*E):=fun j hj=>by rw[Ahx];exact (Arz (bp j hj) b4 c8).mono oV
 have b0:∀ i j,i<n->j<k->i≠P.length->Sz (gR (gM X2 i) j) E:=fun i j hi hj bu=>by rw[a6,if_neg (fun e=>bu e.symm)];exact ah.at a5 hi hj
 have ax:gM X2 P.length=Kn F R:=by rw[a6,if_pos rfl]
 clear bf be aa hbag1 a6 ah a5 am bh ao U a2 cm cu;refine G.l (ι:=Nat×List (Value×zV)×zM) (fun i=>[(0,sV (zA go) n C),(1,iV h),(5,.p 1 0),(6,sV pa P.length pc),(7,.p 2001 0),(8,iV c),(9,iV P.length),(113,iV n),(114,iV i.1)]) (fun i=>[(1,⟨69,[bV false,sV none 0 0,bV false,sV none 0 0]⟩),(2001,⟨69,qc f6⟩)])
  (fun i u' m'=>i.1<=n/\Js P.length c (n-i.1) i.1 i.2.2=Js P.length c n 0 X2/\Rec n k i.2.2/\gM i.2.2 P.length=Kn F R/\(∀ x j,i.1<=x->x<n->j<k->x≠P.length->Sz (gR (gM i.2.2 x) j) E)/\SzM i.2.2 (4*E+2)/\QAt u' i.2.1 i.2.2/\Bag m' (Np (.slice pa P.length pc) P::oQ (.slice (zA go) n C) i.2.1::i.2.1.map Ej))
  (fun i=>n-i.1) (0,rows2,X2) ⟨A1t _,rfl,b6,ax,fun x j _ hx hj bu=>b0 x j hx hj bu,Aco b6 (fun x j hx hj=>?_),bo,H⟩ ?_
 ·by_cases e:x=P.length
  ·rw[e,ax];exact (b7 j hj).mono oV
  exact (b0 x j hx hj e).mono oV
 clear H bo b0 ax b6;rintro J4 ⟨i,t,X3⟩ b5 u8 m8 l8 ⟨hi,aj,Z,a3,a4,a9,L,Q⟩;simp only at hi aj Z a3 a4 a9 L Q b5;have dl:t.length=n:=by rw[L.1,Z.1]
 by_cases W:i<n
 ·refine G.lT i n ?_;obtain⟨K3,bn⟩:∃ K3,n-i=K3+1:=⟨n-i-1,oV⟩;by_cases ak:i=P.length
  ·refine G.eT i P.length<|G.i i<|G.b (b5 (i+1,t,X3) _ _ _ cV l8 ⟨dV,?_,Z,a3,fun x j h1=>a4 x j (by dsimp only at h1;omega),a9,L,Q⟩ dV);dsimp only;rw[<-aj,bn,Js,if_pos (.inl ak),show n-(i+1)=K3 by omega]
  refine G.eF i P.length ?_;obtain⟨gi,ci,ei,bz,dg,c5,bw,dc⟩:=Agr Q L Z W b1;obtain⟨fg,g5,g6,g7⟩:=dc c oV;have ar:=a4 i c (A08 _) W (show c<k by omega) ak;refine G.O n C W bw<|G.o k ci g7<|G.c call81 (Nt g6 (A04 ar.1 oV)) ?_;rintro v9 u9 l9 rfl;rw[Az7];by_cases ag:gR (gM X3 i) c=0
  ·rw[decide_eq_true ag];refine G.i i<|G.b (b5 (i+1,t,X3) _ _ _ cV (l8.trans l9) ⟨dV,?_,Z,a3,fun x j h1=>a4 x j (by dsimp only at h1;omega),a9,L.mono l9,Q⟩ dV);dsimp only;rw[<-aj,bn,Js,if_pos (.inr ag),show n-(i+1)=K3 by omega]
  rw[decide_eq_false ag];obtain⟨S,hS⟩:∃ S,S=gM X3 i:=⟨_,rfl⟩;have ce:S.length=k:=by rw[hS];exact Z.2 i W
  have cg:∀ j,j<k->Sz (gR S j) E:=fun j hj=>by rw[hS];exact a4 i j (A08 _) W hj ak
  have ck:Js P.length c (n-(i+1)) (i+1) (X3.set i (P9 (gR S c) (Kn F R) S))=Js P.length c n 0 X2:=by
   rw[<-aj,bn,Js,if_neg (by simp[ak,ag]),show n-(i+1)=K3 by omega,hS,a3]
  rw[<-hS]at g6 ar c5;generalize hg:gR S c=g at *
  have c2:=Apn g (Kn F R) S;refine G.O n C W bw<|G.o k ci g7<|G.O n C W bw ?_;obtain⟨gs,cs,c4,cw,dr,dv,dx,dd⟩:=Agr Q L Z hP b1;refine G.l (ι:=Nat×zV) (fun y=>[(0,sV (zA go) n C),(1,iV h),(5,.p 1 0),(6,sV pa P.length pc),(7,.p 2001 0),(8,iV c),(9,iV P.length),(113,iV n),(114,iV i),(13,iV i),(14,.p 25007 0),(141,iV k),(142,iV y.1)]) (fun y=>[(1,⟨69,[bV false,sV none 0 0,bV false,sV none 0 0]⟩),(2001,⟨69,qc f6⟩),(25007,⟨69,qc fg⟩)])
   (fun y u' m'=>y.1<=k/\AtP QP u' y.2 (Tj (P9 g (Kn F R) S) S y.1)/\Bag m' (Np (.slice pa P.length pc) P::oQ (.slice (zA go) n C) t::(t.set i ((Value.slice (zA gi) k ci),y.2)).map Ej)) (fun y=>k-y.1) (0,ei)
   ⟨A1t _,by rw[Aa3];exact c5.mono (fun _ _ k=>k.mono l9),by rw[Ny bz];exact Q⟩ ?_
  rintro J5 ⟨y,Y⟩ cb e0 b3 b2 ⟨hy,U,H⟩;simp only at hy U H cb;have ba:=Agl (k:=y) c2 oV;have cm:Y.length=k:=by rw[U.1,ba,ce]
  have a2:(t.set i ((Value.slice (zA gi) k ci),Y))[i]?=some ((Value.slice (zA gi) k ci),Y):=by rw[A1z];simp[dl,W]
  have bt:(t.set i ((Value.slice (zA gi) k ci),Y))[P.length]?=some (Value.slice (zA gs) k cs,c4):=by rw[A1z,if_neg ak];exact cw
  by_cases ae:y<k
  ·refine G.lT y k ?_;obtain⟨e,e1,e2⟩:=U.at (j:=y) oV;obtain⟨fe,rfl⟩:=e2.opQ;rw[<-Cu oV,Al3 c2 oV]at e2;have ho:ElP b3 go (0+i*1) (Value.slice (zA gi) k ci):=H.el 1 (x:=oQ (.slice (zA go) n C) t) rfl rfl (by show (t.map (·.1))[i]?=_;rw[A1a,bz];rfl);have av:ElP b3 go (0+P.length*1) (Value.slice (zA gs) k cs):=H.el 1 (x:=oQ (.slice (zA go) n C) t) rfl rfl (by show (t.map (·.1))[P.length]?=_;rw[A1a,cw];rfl);have he:ElP b3 gi (0+y*4) (qv fe):=H.el (i+2) (x:=Ej ((Value.slice (zA gi) k ci),Y)) (Ka a2) rfl e1;obtain⟨fs,s5,s6,_⟩:=dd y ae;rw[a3]at s6;have bs:ElP b3 gs (0+y*4) (qv fs):=H.el (P.length+2) (x:=Ej (Value.slice (zA gs) k cs,c4)) (Ka bt) rfl s5;refine G.O n C W ho<|G.O n C W ho<|G.O k ci ae he<|G.O n C hP av<|G.O k cs ae bs<|G.c call28 (Gh (g6.mono (l9.trans b2)) (s6.mono (l9.trans b2)) (ar.mono oV) ((b7 y ae).mono oV)) ?_;intro e6 e3 c3 cz;obtain⟨du,rfl⟩:=cz.opQ;have di:=Fx ar (b7 y ae);refine G.c call32 (Adl (e2.mono c3) cz ((cg y ae).mono oV) (di.mono oV)) ?_;intro e7 e4 d2 d0;obtain⟨bk,rfl⟩:=d0.opQ;obtain⟨m0,a1,a8⟩:=H.focus (i+2) (Ka a2);rw[Rg]at a1;refine G.a gi 0 k ci y 4 ae<|G.storeA 4 m0 Y gi k ci y (qv bk) kV a1 oV rfl rfl ?_;intro dq cx;have bg:=a8 (Ej ((Value.slice (zA gi) k ci),Y.set y (qv bk))) dq cx;rw[Afw,A6r]at bg;refine G.i y<|G.b (cb (y+1,Y.set y (qv bk)) _ _ _ cV ((b2.trans c3).trans d2) ⟨dV,?_,bg⟩ dV);dsimp only;rw[<-Af8 c2 oV,Ai0 _ _ _ oV];exact (U.mono (fun _ _ k=>k.mono (c3.trans d2))).set y d0
  obtain rfl:y=k:=oV;refine G.lF y y ?_;rw[Ad7 oV ce]at U;rw[<-Apm (es':=Y) bz]at H;refine G.i i ?_;have ch:Rec n y (X3.set i (P9 g (Kn F R) S)):=I8 Z W oV;have ac:∀ x,gM (X3.set i (P9 g (Kn F R) S)) x=if i=x then P9 g (Kn F R) S else gM X3 x:=fun x=>Kb (by rw[Z.1];exact W)
  refine G.b (b5 (i+1,t.set i ((Value.slice (zA gi) y ci),Y),X3.set i (P9 g (Kn F R) S)) _ _ _ cV ((l8.trans l9).trans b2) ⟨dV,ck,ch,?_,?_,?_,?_,H⟩ dV)
  ·dsimp only;rw[ac,if_neg ak];exact a3
  ·intro x j h1 h2 h3 h4;dsimp only at h1⊢;rw[ac,if_neg oV];exact a4 x j oV h2 h3 h4
  ·refine Aco ch (fun x j hx hj=>?_);rw[ac];split
   ·rw[Ai0 _ _ _ oV];exact (Akj (cg j hj) (Fx ar (b7 j hj))).mono oV
   exact a9.at Z hx hj
  exact (L.mono (l9.trans b2)).set (i:=i) (r:=((Value.slice (zA gi) y ci),Y)) oV U
 obtain rfl:i=n:=oV;refine G.lF i i ?_;rw[A4i,Js]at aj;rw[<-aj]at a0;refine G.B 3 1 8 zO [zI c] (Av [c]) ?_;intro g9 u9 l9 e9;obtain⟨m0,a1,db⟩:=Q;rw[Aka]at a1;have dg:(Ai P).length=P.length:=by simp[Ai]
 refine G.append 3 1 8 zO m0 (Ai P) [zI c] (.slice pa P.length pc) g9 0 1 1 kV rfl rfl oV a1 e9 (Av [c]) rfl oV oV oV ?_;intro e5 b3 ai;rw[show Ai P++[Value.int .i64 c]=Ai (P++[c]) by simp[Ai]]at ai;obtain⟨d5,d6,rfl⟩:=ai.shape;have el:(Ai (P++[c])).length=(P++[c]).length:=by simp[Ai]
 rw[el]at ai⊢;refine G.i c<|G.b (hJ ⟨c+1,P++[c],d5,d6,t,X3,f6,d1*F⟩ _ _ _ cV ((((((l2.trans l3).trans l4).trans l5).trans l6).trans l7).trans (l8.trans l9)) ⟨dV,gV,a0,Z,?_,?_,k6.mono ((l7.trans l8).trans l9),L.mono l9,m0,ai,db⟩ dV)
 ·dsimp only;rw[c7];exact a9
 dsimp only;rw[c7];exact (Fx ay b4).mono oV
section
variable {es:zV}{u:PH}
def N4.snoc1 {t:List zW}{a:zP}{c:Nat}{r:zW}(h:N4 u es t)(I:Cj u (.slice a r.length c) r):N4 u (es++[.slice a r.length c]) (t++[r]):=by
 refine⟨by simp[h.1],fun j r' e=>?_⟩;by_cases m:j<t.length
 ·rw[A1r m]at e;obtain⟨C,E,F,H⟩:=h.2 j r' e;exact⟨C,E,by rw[A1r (by rw[h.1];exact m)];exact F,H⟩
 rw[A18 oV]at e;have z:j-t.length=0:=by
  rcases A2a (j-t.length) with h0|h0
  ·exact h0
  rw[A1v gV]at e;cases e
 rw[z]at e;simp at e;subst e;exact⟨a,c,by rw[A18 (by rw[h.1];omega),h.1,z];rfl,I⟩
def Apw {v:Value}{m:zR}(h:Ac u v 4 es)(P:AtP QP u es m)(hT:∀ q∈m,Tx q)(hl:m.length<=1000):Fn0 prog 83 [v] u fun r R=>∃ Q,r=.tuple #[Q,zO]/\Cj R Q (m.map Ae):=by
 obtain⟨a,c,rfl⟩:=Ac.opn h;have H:=P.1;rw[H]at h⊢;refine Fn0.o func83<|G.l (ι:=Nat×(zP×Nat)) (fun i=>[(4,sV i.2.1 i.1 i.2.2),(9,sV a m.length c),(10,iV m.length),(11,iV i.1)]) (fun _=>[])
  (fun i R m'=>i.1<=m.length/\Af PH.mt m' (.slice i.2.1 i.1 i.2.2) 34 1 (Cc ((m.take i.1).map Ae))) (fun i=>m.length-i.1) (0,none,0) ⟨oV,Af.nil _ _ _⟩ ?_
 rintro J ⟨i,pa,pc⟩ L u1 m1 K ⟨hi,F⟩;simp only at hi F L;by_cases C:i<m.length
 ·refine G.lT i m.length ?_;obtain⟨q,z⟩:∃ q,m[i]?=some q:=⟨_,A01 C⟩;have I:m.take (i+1)=m.take i++[q]:=by rw[A1n,z];rfl
  obtain⟨x,Y,E⟩:=P.2 i q z;obtain⟨f,rfl⟩:=E.opQ;obtain⟨b,o,rfl,e⟩:=Ac.at' (Ac.mono h K) (j:=i) (e:=qv f) Y;refine G.N m.length c C e<|G.c call84 (Ox (E.mono K) (hT q (A1k z))) ?_;rintro v2 u2 l2 rfl;refine G.nF 0 0<|G.B 34 1 16 zE [zS (Ae q)] (Gc [Ae q]) ?_;intro X u3 Z V;refine G.append 34 1 16 zE PH.mt (Cc ((m.take i).map Ae)) [zS (Ae q)] (.slice pa i pc) X 0 1 1 kV rfl rfl oV F V (Gc [Ae q]) rfl oV (by simp[Cc];omega) (by simp[Cc];omega) ?_;intro v4 m4 t;have W:Cc ((m.take i).map Ae)++[zS (Ae q)]=Cc ((m.take (i+1)).map Ae):=by rw[I];simp[Cc]
  rw[W]at t;obtain⟨T,U,rfl⟩:=t.shape;have el:(Cc ((m.take (i+1)).map Ae)).length=i+1:=by simp[Cc];omega
  rw[el]at t⊢;exact G.i i<|G.b (L (i+1,T,U) _ _ _ cV ((K.trans l2).trans Z) ⟨dV,t⟩ dV)
 obtain rfl:i=m.length:=oV;refine G.lF m.length m.length ?_;rw[A15]at F;refine G.give _ _ _ kV F (fun g=>.inl rfl) ?_;intro u6 l6 hF;exact G.r (.tuple #[.slice pa m.length pc,zO]) ⟨rfl,_,rfl,hF⟩
end
section
variable {P:List Par}{m m0:PH}{v:Value}
def Bu (r:Value×zV):Arr:=⟨r.1,34,1,r.2⟩
def oT (v:Value)(rows:List (Value×zV)):Arr:=⟨v,46,1,rows.map (·.1)⟩
def D6 {r:Value×zV}:(Bu r).At m0 m=Af m0 m r.1 34 1 r.2:=rfl
def Aaa {e:List (Value×zV)}:(oT v e).At m0 m=Af m0 m v 46 1 (e.map (·.1)):=rfl
def txV (l:zR):zV:=l.map fun q=>zS (Ae q)
def Bgm (l:zR):(txV l).length=l.length:=by simp[txV]
def Md (l:zR)(q:Rat):txV l++[zS (Ae q)]=txV (l++[q]):=by simp[txV]
def E7 (q:Rat):A9 1 [zS (Ae q)]:=Gc [Ae q]
def J7 (l:zR):txV l=Cc (l.map Ae):=by simp[txV,Cc]
def Lh (C:CF)(P:List Par):zM:=(An P).map fun e=>(An P).map (As C e)
def Ex {i:Nat}:(An P).take (i+1)=none::(P.take i).map some:=by unfold An;rw[List.take_succ_cons,A5g]
def Afv {u:PH}{v cv:Value}{T:zC}{R:List Br}{F:List Al}{lab:Int}{C:CF}{K k:Nat}(h:Te u v cv T R F lab C K k P) :
 Ag prog 58 [v,cv] u PH.mt fun r u' m'=>∃ (pa:zP) (pc:Nat) (xa:zP) (xc:Nat) (ra:zP) (rc:Nat) (z:List (Value×zV)),
  r=.tuple #[.agg #[.slice pa P.length pc,.slice xa (P.length+1) xc,.slice ra (P.length+1) rc],zO]/\Ac u' (.slice pa P.length pc) 2 (P.map Ap)/\z.map (·.2)=(Lh C P).map txV /\
  Bag m' (Bu (.slice ra (P.length+1) rc,txV ((An P).map (Bh C)))::oT (.slice xa (P.length+1) xc) z::z.map Bu):=by
 have b0:=Aif h.sch h.ok h.cof h.sC h.vC h.K h.bel;have bx:=h.p24;have hK:=h.K;have bz:=h.lab0;have hS:=fun (u':PH) (l:PH.le u u') (p:Par)=>At9 p (h.cof.mono l) oV;have hQ:=fun (u':PH) (l:PH.le u u') (p q:Par)=>U2 p q (h.cof.mono l) oV;have af:=Cp P;obtain⟨xa,xc,xb,xd,xe,xf,rfl,_⟩:=id h.sch;obtain⟨a1,n1,c1,a2,n2,c2,rfl⟩:=id h.cof.opn;refine Ag.o func58<|G.c call37 b0 ?_;intro v1 u1 l1 hp;obtain⟨ps,L,rfl,hL,_,ah⟩:=hp.resolve_left fun⟨_,L,be,ah⟩=>by rw[ah.eq h.prm]at be;omega
 rw[ah.eq h.prm]at hL;obtain⟨pa,pc,rfl⟩:=hL.opn;rw[A03]at hL⊢;refine G.nF 0 0<|G.lF lab 0<|G.c call137 (hS u1 l1 B7) ?_;rintro v2 u2 l2 rfl;refine G.buildM 34 1 16 zE [zS (Ae (C.s B7))] kV (E7 _) rfl oV mV mV ?_;intro g3 m3 bf;refine G.buildM 34 1 16 zE [zS (Ae C.c)] kV (E7 _) rfl oV mV mV ?_;intro g4 m4 bg;refine G.l (ι:=Nat×(zP×Nat)×(zP×Nat)) (fun i=>[(3,.p 1 0),(4,.p 2 0),(6,sV pa P.length pc),(8,.p 6001 0),(9,.p 7006 0),(10,sV i.2.1.1 (i.1+1) i.2.1.2),(42,sV pa P.length pc),(43,iV P.length),(44,iV i.1)])
  (fun i=>[(1,⟨38,[tV (Ae C.c),sV a1 n1 c1,sV a2 n2 c2]⟩),(2,⟨57,[sV none 0 0,sV none 0 0,sV none 0 0]⟩),(6001,⟨118,[iV (-1),tV []]⟩),
   (7006,⟨57,[.v (.slice pa P.length pc),.v zN,.v (.slice i.2.2.1 (i.1+1) i.2.2.2)]⟩)])
  (fun i u' m'=>i.1<=P.length/\Bag m' [Bu (.slice i.2.1.1 (i.1+1) i.2.1.2,txV (((An P).take (i.1+1)).map (As C none))),Bu (.slice i.2.2.1 (i.1+1) i.2.2.2,txV (((An P).take (i.1+1)).map (Bh C)))]) (fun i=>P.length-i.1) (0,(some ⟨g4,0,none⟩,1),(some ⟨g3,0,none⟩,1))
  ⟨oV,m3,bg,PH.mt,bf,trivial⟩ ?_
 rintro J ⟨i,⟨fa,fc⟩,⟨ra,rc⟩⟩ hJ u5 m5 l5 ⟨hi,E⟩;simp only at hi E hJ;have ac:=(l1.trans l2).trans l5;by_cases Z:i<P.length
 ·refine G.lT i P.length ?_;obtain⟨p,a0⟩:∃ p,P[i]?=some p:=⟨_,A01 Z⟩;have aa:(An P).take (i+1+1)=(An P).take (i+1)++[some p]:=by rw[Ex,Ex,A1n,a0];simp
  obtain⟨bp,op,rfl,ep⟩:=Ac.at' (hL.mono (l2.trans l5)) (j:=i) (e:=Ap p) (by simp[a0]);refine G.N P.length pc Z ep<|G.c call137 (hS u5 ac p) ?_;rintro v6 u6 l6 rfl;refine G.B 34 1 16 zE [zS (Ae (C.s p))] (E7 _) ?_;intro g7 u7 l7 e7;obtain⟨m0,Q,I⟩:=E.focus 0 rfl;rw[D6]at Q;have Y:(txV (((An P).take (i+1)).map (As C none))).length=i+1:=by rw[Bgm,A03,A1e];omega
  refine G.append 34 1 16 zE m0 (txV (((An P).take (i+1)).map (As C none))) [zS (Ae (C.s p))] (.slice fa (i+1) fc) g7 0 1 1 kV rfl rfl oV Q e7 (E7 _) rfl oV (by rw[Y];omega) (by rw[Y];omega) ?_;intro v8 m8 a5;have e8:txV (((An P).take (i+1)).map (As C none))++[zS (Ae (C.s p))]=txV (((An P).take (i+1+1)).map (As C none)):=by rw[aa,A1i,Md];rfl
  rw[e8]at a5;have aj:(txV (((An P).take (i+1+1)).map (As C none))).length=i+1+1:=by rw[Bgm,A03,A1e];omega
  obtain⟨a8,c8,rfl⟩:=a5.shape;rw[aj]at a5⊢;have ai:=I (Bu (.slice a8 (i+1+1) c8,txV (((An P).take (i+1+1)).map (As C none)))) m8 a5;have bo:=(ac.trans l6).trans l7;refine G.c call66 (hQ u7 bo B7 p) ?_;rintro v9 u9 l9 rfl;refine G.B 34 1 16 zE [zS (Ae (C.t (Ay B7 p)))] (E7 _) ?_;intro ad c4 bl b6;obtain⟨br,b2,ak⟩:=ai.focus 1 rfl;rw[D6]at b2;have az:(txV (((An P).take (i+1)).map (Bh C))).length=i+1:=by rw[Bgm,A03,A1e];omega
  refine G.append 34 1 16 zE br (txV (((An P).take (i+1)).map (Bh C))) [zS (Ae (C.t (Ay B7 p)))] (.slice ra (i+1) rc) ad 0 1 1 kV rfl rfl oV b2 b6 (E7 _) rfl oV (by rw[az];omega) (by rw[az];omega) ?_;intro c6 b5 U;have b7:txV (((An P).take (i+1)).map (Bh C))++[zS (Ae (C.t (Ay B7 p)))]=txV (((An P).take (i+1+1)).map (Bh C)):=by rw[aa,A1i,Md];rfl
  rw[b7]at U;have bh:(txV (((An P).take (i+1+1)).map (Bh C))).length=i+1+1:=by rw[Bgm,A03,A1e];omega
  obtain⟨am,ap,rfl⟩:=U.shape;rw[bh]at U⊢;have a6:=ak (Bu (.slice am (i+1+1) ap,txV (((An P).take (i+1+1)).map (Bh C)))) b5 U;exact G.i i<|G.b (hJ (i+1,(a8,c8),(am,ap)) _ _ _ cV ((((l5.trans l6).trans l7).trans l9).trans bl) ⟨dV,a6⟩ dV)
 obtain rfl:i=P.length:=oV;refine G.lF P.length P.length ?_;clear hJ;rw[show (An P).take (P.length+1)=An P by rw[A1j oV]]at E;have ac:=(l1.trans l2).trans l5;have c0:(txV ((An P).map (As C none))).length=P.length+1:=by rw[Bgm,A03,af]
 refine G.B 46 1 24 zN [.slice fa (P.length+1) fc] (B5 _ _ _) ?_;intro g6 u6 l6 e6;refine G.append 46 1 24 zN m5 [] [.slice fa (P.length+1) fc] zN g6 0 1 1 kV rfl rfl oV (Af.nil _ _ _) e6 (B5 _ _ _) rfl oV mV mV ?_;intro v7 m7 ae;obtain⟨a7,c7,rfl⟩:=ae.shape;have ax:Bag m7 (Bu (.slice ra (P.length+1) rc,txV ((An P).map (Bh C)))::oT (.slice a7 1 c7) [(.slice fa (P.length+1) fc,txV ((An P).map (As C none)))]::[(Value.slice fa (P.length+1) fc,txV ((An P).map (As C none)))].map Bu) :=
  Bag.perm (A5r (l₁:=[oT (.slice a7 1 c7) [(.slice fa (P.length+1) fc,txV ((An P).map (As C none)))],Bu (.slice fa (P.length+1) fc,txV ((An P).map (As C none)))]) (l₂:=[Bu (.slice ra (P.length+1) rc,txV ((An P).map (Bh C)))])) ⟨m5,ae,E⟩
 have bn:=ac.trans l6;have ag:=hL.mono ((l2.trans l5).trans l6);have bi:∀ i,i<=P.length->((Lh C P).take (i+1)).length=i+1:=fun i hi=>by rw[A1e];unfold Lh;rw[A03,af];omega
 refine G.l (ι:=Nat×(zP×Nat)×List (Value×zV)) (fun i=>[(3,.p 1 0),(4,.p 2 0),(6,sV pa P.length pc),(9,.p 7006 0),(70,sV pa P.length pc),(71,iV P.length),(72,iV i.1)])
  (fun i=>[(1,⟨38,[tV (Ae C.c),sV a1 n1 c1,sV a2 n2 c2]⟩),(2,⟨57,[sV none 0 0,sV none 0 0,sV none 0 0]⟩),
   (7006,⟨57,[.v (.slice pa P.length pc),.v (.slice i.2.1.1 (i.1+1) i.2.1.2),.v (.slice ra (P.length+1) rc)]⟩)])
  (fun i u' m'=>i.1<=P.length/\i.2.2.map (·.2)=((Lh C P).take (i.1+1)).map txV/\Bag m' (Bu (.slice ra (P.length+1) rc,txV ((An P).map (Bh C)))::oT (.slice i.2.1.1 (i.1+1) i.2.1.2) i.2.2::i.2.2.map Bu)) (fun i=>P.length-i.1)
  (0,(a7,c7),[(.slice fa (P.length+1) fc,txV ((An P).map (As C none)))]) ⟨oV,by unfold Lh An;rfl,ax⟩ ?_
 clear ax ae E;rintro J ⟨i,⟨a3,a4⟩,z⟩ hJ u8 m8 l8 ⟨hi,H,E⟩;simp only at hi H E hJ;have bj:z.length=i+1:=by have:=congrArg List.length H;rw[A03,A03,bi i hi]at this;exact this
 by_cases Z:i<P.length
 ·refine G.lT i P.length ?_;obtain⟨p,a0⟩:∃ p,P[i]?=some p:=⟨_,A01 Z⟩;have aa:(An P).take (i+1+1)=(An P).take (i+1)++[some p]:=by rw[Ex,Ex,A1n,a0];simp
  have b4:=bn.trans l8;obtain⟨bp,op,e0,ep⟩:=Ac.at' (ag.mono l8) (j:=i) (e:=Ap p) (by simp[a0]);subst e0;refine G.N P.length pc Z ep<|G.c call137 (hS u8 b4 p) ?_;rintro v9 u9 l9 rfl;refine G.buildM 34 1 16 zE [zS (Ae (C.s p))] kV (E7 _) rfl oV mV mV ?_;intro ad c3 au;refine G.l (ι:=Nat×(zP×Nat)) (fun j=>[(3,.p 1 0),(4,.p 2 0),(6,sV (some ⟨bp,op,none⟩) P.length pc),(9,.p 7006 0),(14,.p 18002 0),(15,sV j.2.1 (j.1+1) j.2.2),(70,sV (some ⟨bp,op,none⟩) P.length pc),(71,iV P.length),(72,iV i),(80,sV (some ⟨bp,op,none⟩) P.length pc),(81,iV P.length),(82,iV j.1)])
   (fun j=>[(1,⟨38,[tV (Ae C.c),sV a1 n1 c1,sV a2 n2 c2]⟩),(2,⟨57,[sV none 0 0,sV none 0 0,sV none 0 0]⟩),
    (7006,⟨57,[.v (.slice (some ⟨bp,op,none⟩) P.length pc),.v (.slice a3 (i+1) a4),.v (.slice ra (P.length+1) rc)]⟩),(18002,⟨118,[.v (zI p.1),.v (zS p.2)]⟩)])
   (fun j u' m'=>j.1<=P.length/\Bag m' (Bu (.slice j.2.1 (j.1+1) j.2.2,txV (((An P).take (j.1+1)).map (As C (some p))))::Bu (.slice ra (P.length+1) rc,txV ((An P).map (Bh C)))::oT (.slice a3 (i+1) a4) z::z.map Bu)) (fun j=>P.length-j.1)
   (0,some ⟨ad,0,none⟩,1) ⟨oV,m8,au,E⟩ ?_
  rintro J2 ⟨j,la,lc⟩ av bu b5 ab ⟨hj,a9⟩;simp only at hj a9 av;have b3:=(b4.trans l9).trans ab;by_cases ay:j<P.length
  ·refine G.lT j P.length ?_;obtain⟨q,b1⟩:∃ q,P[j]?=some q:=⟨_,A01 ay⟩;have bk:(An P).take (j+1+1)=(An P).take (j+1)++[some q]:=by rw[Ex,Ex,A1n,b1];simp
   obtain⟨bq,oq,e0,eq⟩:=Ac.at' (ag.mono ((l8.trans l9).trans ab)) (j:=j) (e:=Ap q) (by simp[b1]);cases e0;refine G.N P.length pc ay eq<|G.c call66 (hQ bu b3 p q) ?_;rintro ca bw al rfl;refine G.B 34 1 16 zE [zS (Ae (C.t (Ay p q)))] (E7 _) ?_;intro bd c5 bm b9;obtain⟨m0,Q,I⟩:=a9.focus 0 rfl;rw[D6]at Q;have Y:(txV (((An P).take (j+1)).map (As C (some p)))).length=j+1:=by rw[Bgm,A03,A1e];omega
   refine G.append 34 1 16 zE m0 (txV (((An P).take (j+1)).map (As C (some p)))) [zS (Ae (C.t (Ay p q)))] (.slice la (j+1) lc) bd 0 1 1 kV rfl rfl oV Q b9 (E7 _) rfl oV (by rw[Y];omega) (by rw[Y];omega) ?_;intro cc bt W;have ba:txV (((An P).take (j+1)).map (As C (some p)))++[zS (Ae (C.t (Ay p q)))]=txV (((An P).take (j+1+1)).map (As C (some p))):=by rw[bk,A1i,Md];rfl
   rw[ba]at W;have aj:(txV (((An P).take (j+1+1)).map (As C (some p)))).length=j+1+1:=by rw[Bgm,A03,A1e];omega
   obtain⟨ao,ar,rfl⟩:=W.shape;rw[aj]at W⊢;have X:=I (Bu (.slice ao (j+1+1) ar,txV (((An P).take (j+1+1)).map (As C (some p))))) bt W;exact G.i j<|G.b (av (j+1,ao,ar) _ _ _ cV ((ab.trans al).trans bm) ⟨dV,X⟩ dV)
  obtain rfl:j=P.length:=oV;refine G.lF P.length P.length ?_;rw[show (An P).take (P.length+1)=An P by rw[A1j oV]]at a9;refine G.B 46 1 24 zN [.slice la (P.length+1) lc] (B5 _ _ _) ?_;intro bb bw al b8;obtain⟨m0,Q,I⟩:=a9.focus 2 rfl;rw[Aaa]at Q;refine G.k 46 1 24 zN m0 (z.map (·.1)) [.slice la (P.length+1) lc] (.slice a3 (i+1) a4) bb 0 1 1 Q b8 (B5 _ _ _) ?_;intro cb bs V;have em:z.map (·.1)++[Value.slice la (P.length+1) lc]=(z++[(Value.slice la (P.length+1) lc,txV ((An P).map (As C (some p))))]).map (·.1):=mV;rw[em]at V;obtain⟨an,aq,rfl⟩:=V.shape;have el:((z++[(Value.slice la (P.length+1) lc,txV ((An P).map (As C (some p))))]).map (·.1)).length=i+1+1:=by simp[bj]
  rw[el]at V⊢;have aw:=I (oT (.slice an (i+1+1) aq) (z++[(Value.slice la (P.length+1) lc,txV ((An P).map (As C (some p))))])) bs V;have X:=Bag.perm S8 aw;refine G.i i<|G.b (hJ (i+1,(an,aq),z++[(Value.slice la (P.length+1) lc,txV ((An P).map (As C (some p))))]) _ _ _ cV (((l8.trans l9).trans ab).trans al) ⟨dV,?_,by simpa using X⟩ dV);dsimp only;rw[A1i,H];unfold Lh;rw[<-A5g,<-A5g,aa,A1i,A1i];rfl
 obtain rfl:i=P.length:=oV;refine G.lF P.length P.length ?_;rw[A1j (by unfold Lh;rw[A03,af];omega)]at H;exact G.r (.tuple #[.agg #[.slice pa P.length pc,.slice a3 (P.length+1) a4,.slice ra (P.length+1) rc],zO]) ⟨pa,pc,a3,a4,ra,rc,z,rfl,ag.mono l8,H,E⟩
end
section
variable {C:CF}{F:List Al}{K c i k n:Nat}{P:List Par}{R:List Br}{T:zC}{X:zM}{cv v:Value}{lab:Int}{m u:PH}{o s:Arr}{q:Rat}{r:Value×zV}{rows:List (Value×zV)}
def Lw (h:rows[i]?=some r):(s::o::rows.map Bu)[i+2]?=some (Bu r):=by simp[h]
def Agw :(s::o::rows.map Bu).set (i+2) (Bu r)=s::o::(rows.set i r).map Bu:=by
 simp[A2g]
def Aho {x:Value}{es es':zV}(h:rows[i]?=some (x,es)):oT v (rows.set i (x,es'))=oT v rows:=by
 unfold oT
 congr 1
 rw[A2g];exact Ny (by rw[A1a,h];rfl)
def Ayw {g n c i:Nat}(t:Bag m (s::oT (.slice (zA g) n c) rows::rows.map Bu))(W:rows.map (·.2)=X.map txV)(L:Rec n n X)(hi:i<n) :
 ∃ E J,rows[i]?=some (.slice (zA E) n J,txV (gM X i))/\ElP m g (0+i*1) (.slice (zA E) n J)/\∀ j,j<n->ElP m E (0+j*1) (zS (Ae (gR (gM X i) j))):=by
 have a0:rows.length=n:=by have:=congrArg List.length W;simpa[L.1] using this
 have h:rows[i]?=some rows[i]:=A01 oV;obtain⟨⟨vi,U⟩,Y⟩:∃ x,rows[i]=x:=⟨_,rfl⟩;rw[Y]at h;have Q:U=txV (gM X i):=by
  have V:(rows.map (·.2))[i]?=some U:=by rw[A1a,h];rfl
  have I:i<X.length:=by rw[L.1];exact hi
  rw[W,A1a,A01 I]at V;rw[Ch I];simpa using V.symm
 subst Q;have z:(txV (gM X i)).length=n:=by rw[Bgm,L.2 i hi]
 obtain⟨E,J,e⟩:=t.ptr (i+2) (Lw h) (by intro e;simp only[Bu]at e;rw[e]at z;simp at z;omega);simp only[Bu]at e;rw[z]at e;subst e;refine⟨E,J,h,t.el 1 (x:=oT _ rows) rfl rfl (by show (rows.map (·.1))[i]?=_;rw[A1a,h];rfl),fun j Z=>?_⟩;have H:j<(gM X i).length:=by rw[L.2 i hi];exact Z
 exact t.el (i+2) (x:=Bu _) (Lw h) rfl (by show (txV (gM X i))[j]?=_;unfold txV;rw[A1a,A01 H,Cu H];rfl)
def V9 {v:Value}{a:zP}(h:Bag m (s::oT (.slice a n c) rows::rows.map Bu))(U:rows.map (·.2)=X.map txV)(Q:PH.le m u):C7 u (.slice a n c) (Cv X):=by
 obtain⟨m0,h0,_⟩:=h.focus 1 rfl;have H:rows.length=X.length:=by have:=congrArg List.length U;simpa using this
 rw[Aaa]at h0;refine⟨rows.map (·.1),h0.list Q,by simp[Cv,H],fun j r t=>?_⟩;unfold Cv at t;rw[A1a]at t;cases hx:X[j]? with
 |none=>rw[hx]at t;cases t
 |some x =>
  rw[hx]at t;simp only[A4c,A1f]at t;subst t;obtain⟨W,_⟩:=A05.1 hx;have e:rows[j]?=some rows[j]:=A01 oV;obtain⟨⟨Z,J⟩,V⟩:∃ x,rows[j]=x:=⟨_,rfl⟩;rw[V]at e;have E:J=txV x:=by
   have z:(rows.map (·.2))[j]?=some J:=by rw[A1a,e];rfl
   rw[U,A1a,hx]at z;simpa using z.symm
  subst E;obtain⟨Y,z,_⟩:=h.focus (j+2) (Lw e);rw[D6]at z;obtain⟨a1,c1,I⟩:=z.shape;simp only at I;subst I;have L:=z.list Q;simp only[Bgm]at L;refine⟨a1,c1,by rw[A1a,e];simp[Bgm],?_⟩;rw[A03];unfold Cj;rw[<-J7];exact L
def D0 (q:Rat)(X:zM):Nat->zM
 |0=>X
 |1=>X
 |i+2=>(D0 q X (i+1)).set (i+1) ((gM (D0 q X (i+1)) (i+1)).set (i+1) (gR (gM (D0 q X (i+1)) (i+1)) (i+1)+q))
def Nx {q:Rat}{X:zM}{n:Nat}(e:Rec n n X):∀ i,i<=n->Rec n n (D0 q X i)
 |0,_=>e
 |1,_=>e
 |i+2,h=>by
  have j:=Nx e (q:=q) (i+1) oV;exact I8 j oV (by rw[A21,j.2 (i+1) oV])
theorem Vv {q:Rat}{X:zM}{n:Nat}(E:Rec n n X):∀ i,i<=n->∀ a b,a<n->b<n->en (D0 q X i) a b=en X a b+if a=b/\0<a/\a<i then q else 0
 |0,_,a,b,_,_=>by rw[if_neg oV];show en X a b=en X a b+0;grind
 |1,_,a,b,_,_=>by rw[if_neg oV];show en X a b=en X a b+0;grind
 |i+2,h,a,b,ha,hb=>by
  have e:=Vv E (q:=q) (i+1) oV a b ha hb;have H:=Nx E (q:=q) (i+1) oV;have I:i+1<(gM (D0 q X (i+1)) (i+1)).length:=by rw[H.2 (i+1) oV];omega
  show gR (gM ((D0 q X (i+1)).set (i+1) _) a) b=_;rw[Kb (by rw[H.1];omega)];by_cases j:i+1=a
  ·rw[if_pos j,Aht I];by_cases t:i+1=b
   ·subst j;subst t;rw[if_pos rfl,if_pos ⟨rfl,oV,oV⟩];rw[if_neg oV]at e;show en (D0 q X (i+1)) (i+1) (i+1)+q=_;rw[e];grind
   subst j;rw[if_neg t,if_neg oV];rw[if_neg oV]at e;exact e
  rw[if_neg j];show en (D0 q X (i+1)) a b=_;rw[e];by_cases z:a=b/\0<a/\a<i+1
  ·rw[if_pos z,if_pos oV]
  rw[if_neg z,if_neg oV]
def Azh {r:zR}(h:X[i]?=some r):gM X i=r:=by unfold gM;rw[A02,h];rfl
def Aep {l:zR}{r:Rat}(h:l[i]?=some r):gR l i=r:=by unfold gR;rw[A02,h];rfl
def Aj2 (C:CF)(P:List Par)(hi:i<P.length+1):gM (Lh C P) i=(An P).map (As C ((An P).getD i none)):=by
 have e:i<(An P).length:=by rw[Cp];exact hi
 refine Azh ?_;unfold Lh;rw[A1a,A01 e,A02,A01 e];rfl
def Sj (C:CF)(P:List Par):Rec (P.length+1) (P.length+1) (Lh C P) :=
 ⟨by unfold Lh;rw[A03,Cp],fun i hi=>by rw[Aj2 C P hi,A03,Cp]⟩
def Abs (C:CF)(P:List Par){i j:Nat}(hi:i<P.length+1)(h:j<P.length+1):en (Lh C P) i j=As C ((An P).getD i none) ((An P).getD j none):=by
 have e:j<(An P).length:=by rw[Cp];exact h
 unfold en;rw[Aj2 C P hi];refine Aep ?_;rw[A1a,A02 (l:=An P) (i:=j),A01 e];rfl
def Fd.de (h:Fd q):De 2 2 q:=by
 obtain⟨p,e,j⟩:=h.thirty;exact⟨p,30,e,oV,oV,oV⟩
def Te.cellDe (h:Te u v cv T R F lab C K k P)(e f:Option Par):De 75 18 (As C e f):=by
 cases e<;>cases f
 ·show De 75 18 C.c;rw[h.mom.c];exact (De.nat (a:=2) (by have:=h.mom.lt;omega)).mono oV oV
 ·exact h.mom.s _
 ·exact h.mom.s _
 exact h.mom.t _
theorem Ae1 (h:Te u v cv T R F lab C K k P)(hq:Fd q) :
 Fn0 prog 16 [v,cv,zS (Ae q)] u fun r L=>(∃ e:Int,e≠0/\(k=0/\e=12\/e=3/\k≠0/\11<P.length)/\r=.tuple #[.agg #[zN,zN,zN],zI e]) \/
  (k≠0/\P.length<=11/\∃ (pa:zP) (pc:Nat) (xa:zP) (xc:Nat) (ra:zP) (rc:Nat),r=.tuple #[.agg #[.slice pa P.length pc,.slice xa (P.length+1) xc,.slice ra (P.length+1) rc],zO]/\Ac L (.slice pa P.length pc) 2 (P.map Ap) /\
   C7 L (.slice xa (P.length+1) xc) (Cv (D0 q (Lh C P) (P.length+1)))/\Cj L (.slice ra (P.length+1) rc) (((An P).map (Bh C)).map Ae)):=by
 have ac:=Afv h;have aa:=fun (L:PH) (l:PH.le u L)=>Afs (h.mono l) hq;have ab:=h.cellDe;obtain⟨xa,xc,xb,xd,xe,xf,rfl,_⟩:=id h.sch;obtain⟨a1,n1,c1,a2,n2,c2,rfl⟩:=id h.cof.opn;refine Fn0.o func16<|G.callO _ _ kV call58 ac ?_;rintro v1 u1 m1 l1 ⟨pa,pc,ya,I,ra,rc,rows,rfl,a7,t,z⟩ _;rw[By];refine G.nF 0 0<|G.c call59 (aa u1 l1) ?_;rintro v2 u2 l2 rfl;by_cases h0:k=0
 ·rw[if_pos h0];exact G.nT 12 0<|G.drop PH.mt kV (PH.mt_le _)<|G.r (.tuple #[.agg #[zN,zN,zN],zI 12]) ⟨rfl,.inl ⟨12,oV,.inl ⟨h0,rfl⟩,rfl⟩⟩
 rw[if_neg h0];refine G.nF 0 0 ?_;by_cases ad:P.length+1>12
 ·exact G.gT (P.length+1:Nat) 12<|G.drop PH.mt kV (PH.mt_le _)<|G.r (.tuple #[.agg #[zN,zN,zN],zI 3]) ⟨rfl,.inl ⟨3,oV,.inr ⟨rfl,h0,oV⟩,rfl⟩⟩
 refine G.gF (P.length+1:Nat) 12 ?_;have hX:=Sj C P;generalize a9:Lh C P=X at t hX;have a8:∀ i j,i<P.length+1->j<P.length+1->De 75 18 (en X i j):=fun i j hi hj=>by rw[<-a9,Abs C P hi hj];exact ab _ _
 have a4:rows.length=P.length+1:=by have:=congrArg List.length t;simpa[hX.1] using this
 obtain⟨go,co,eo⟩:=z.ptr 1 rfl (fun e=>by
  have:(rows.map (·.1)).length=0:=by rw[show rows.map (·.1) = [] from e];rfl
  rw[A03]at this;omega)
 have a5:(Value.slice ya (P.length+1) I)=.slice (zA go) (P.length+1) co:=by
  have e1:(oT (.slice ya (P.length+1) I) rows).v=Value.slice ya (P.length+1) I:=rfl;rw[e1]at eo;rw[eo];have:(oT (.slice ya (P.length+1) I) rows).es.length=P.length+1:=by show (rows.map (·.1)).length=_;rw[A03,a4]
  rw[this]
 cases a5;refine G.l (ι:=Nat×List (Value×zV)) (fun i=>[(2,tV (Ae q)),(6,.p 2 0),(8,.p 1006 0),(11,iV i.1)])
  (fun _=>[(2,⟨57,[sV none 0 0,sV none 0 0,sV none 0 0]⟩),(1006,⟨57,[sV pa P.length pc,sV (zA go) (P.length+1) I,sV ra (P.length+1) rc]⟩)])
  (fun i L m'=>1<=i.1/\i.1<=P.length+1/\i.2.map (·.2)=(D0 q X i.1).map txV/\Bag m' (Bu (.slice ra (P.length+1) rc,txV ((An P).map (Bh C)))::oT (.slice (zA go) (P.length+1) I) i.2::i.2.map Bu)) (fun i=>P.length+1-i.1)
  (1,rows) ⟨oV,oV,t,z⟩ ?_
 clear z t a4;rintro J ⟨i,rows⟩ hJ u3 m3 l3 ⟨a6,hi,t,z⟩;simp only at a6 hi t z hJ;have V:=Nx (q:=q) hX i hi;by_cases E:i<P.length+1
 ·refine G.lT i (P.length+1:Nat) ?_;obtain⟨gi,Q,a3,e1,e2⟩:=Ayw z t V E;have Y:gR (gM (D0 q X i) i) i=en X i i:=by
   have:=Vv (q:=q) hX i hi i i E E;rw[if_neg oV]at this;show en (D0 q X i) i i=_;rw[this];grind
  have hd:=a8 i i E E;refine G.O (P.length+1) I E e1<|G.O (P.length+1) Q E (e2 i E) ?_;rw[Y];have ha:=hd.add hq.de (f:=77) oV oV;refine G.c call60 (Aug (hd.tx oV oV oV oV) hq.tx (ha.tx oV oV oV oV)) ?_;rintro v4 u4 l4 rfl;refine G.nF 0 0<|G.O (P.length+1) I E e1<|G.a gi 0 (P.length+1) Q i 1 E ?_;obtain⟨m0,H,a0⟩:=z.focus (i+2) (Lw a3);rw[D6]at H;have ae:(txV (gM (D0 q X i) i)).length=P.length+1:=by rw[Bgm,V.2 i E]
  refine G.storeA 1 m0 (txV (gM (D0 q X i) i)) gi (P.length+1) Q i (zS (Ae (en X i i+q))) kV H oV rfl rfl ?_;intro m5 U;have es:(txV (gM (D0 q X i) i)).set i (zS (Ae (en X i i+q)))=txV ((gM (D0 q X i) i).set i (gR (gM (D0 q X i) i) i+q)):=by
   rw[Y];unfold txV;rw[A2g]
  rw[es]at U;have W:=a0 (Bu (.slice (zA gi) (P.length+1) Q,txV ((gM (D0 q X i) i).set i (gR (gM (D0 q X i) i) i+q)))) m5 U;rw[Agw,<-Aho a3 (es':=txV ((gM (D0 q X i) i).set i (gR (gM (D0 q X i) i) i+q)))]at W;refine G.i i<|G.b (hJ (i+1,rows.set i (.slice (zA gi) (P.length+1) Q,txV ((gM (D0 q X i) i).set i (gR (gM (D0 q X i) i) i+q)))) _ _ _ cV (l3.trans l4) ⟨dV,dV,?_,W⟩ dV);dsimp only;obtain⟨j,rfl⟩:∃ j,i=j+1:=⟨i-1,oV⟩;rw[A2g,t,<-A2g];rfl
 obtain rfl:i=P.length+1:=oV;refine G.lF (P.length+1:Nat) (P.length+1:Nat)<|G.giveP (ma:=m3) (sm:=PH.mt) kV (by funext g;unfold PH.or;cases m3 g<;>rfl) (fun g=>.inr rfl) (fun g=>.inl rfl) ?_
 intro u6 l6 Z;obtain⟨m0,H,_⟩:=z.focus 0 rfl;rw[D6]at H;have hR:Cj u6 (.slice ra (P.length+1) rc) (((An P).map (Bh C)).map Ae):=by
  unfold Cj;rw[<-J7];exact H.list Z
 exact G.r (.tuple #[.agg #[.slice pa P.length pc,.slice (zA go) (P.length+1) I,.slice ra (P.length+1) rc],zO]) ⟨rfl,.inr ⟨h0,oV,pa,pc,_,I,ra,rc,rfl,a7.mono ((l2.trans l3).trans l6),V9 (v:=zT) z t Z,hR⟩⟩
end
section
variable {n q:Nat}
structure Tq (q:Rat):Prop where
 tx:Tx q
 den:q.den ∣ 21600
 num:q.num.natAbs<=3000000000000
def A0p {q d:Nat}(h:q ∣ 21600)(e:d ∣ 21600):q*(d/Nat.gcd q d) ∣ 21600:=by
 rw[<-Nat.mul_div_assoc _ (Nat.gcd_dvd_right _ _)];exact Ba7 h e
def leW (h:q ∣ 21600):0<q/\q<=21600:=⟨Nat.pos_of_dvd_of_pos h oV,A48 oV h⟩
def nlM (h:n<1000000000000000000):nl n<=2:=A4 (by simpa using h)
def Awq (h:n<100000000000000000):Lib.nDigits n<=17:=Cz (k:=17) oV oV
def Amo {u:PH}{v:Value}{A:zM}{n w:Nat}(h:C7 u v (Cv A))(hA:A.length<=12)(hr:∀ r∈A,r.length=w)(hw:w<=12)(hT:∀ r∈A,∀ q∈r,Tq q)(hn:n<=12):Fn0 prog 138 [v,zI n] u fun v' _=>v'=zL:=by
 obtain⟨a,c,rfl⟩:=h.opn;rw[A3]at h⊢;refine Fn0.o func138<|G.c call67 (Ac6 (n:=1) oV oV) ?_;intro v1 u1 l1 k1;obtain⟨f1,rfl⟩:=k1.opB;refine G.l (ι:=Nat×B3×Nat) (fun i=>[(0,sV a A.length c),(1,iV n),(5,.p 1001 0),(18,iV A.length),(19,iV i.1)]) (fun i=>[(1001,⟨67,bc i.2.1⟩)])
  (fun i u' W=>i.1<=A.length/\i.2.2 ∣ 21600/\Do u' (bv i.2.1) (i.2.2:Int)/\W=PH.mt) (fun i=>A.length-i.1) (0,f1,1) ⟨A1t _,Ba6 _,k1,rfl⟩ ?_
 rintro J ⟨i,f,q⟩ Z u2 m2 l2 ⟨hi,H,F,rfl⟩;simp only at hi H F Z;by_cases m:i<A.length
 ·refine G.lT i A.length ?_;obtain⟨b1,o1,a1,c1,rfl,P,Y⟩:=(h.mono (l1.trans l2)).row (Dw (A01 m));rw[A03,hr _ (A09 m)]at P Y;refine G.N A.length c m P<|G.l (ι:=Nat×B3×Nat) (fun k=>[(0,sV (some ⟨b1,o1,none⟩) A.length c),(1,iV n),(5,.p 1001 0),(18,iV A.length),(19,iV i),(6,iV i),(26,iV w),(27,iV k.1)]) (fun k=>[(1001,⟨67,bc k.2.1⟩)])
   (fun k u' W=>k.1<=w/\k.2.2 ∣ 21600/\Do u' (bv k.2.1) (k.2.2:Int)/\W=PH.mt) (fun k=>w-k.1) (0,f,q) ⟨A1t _,H,F,rfl⟩ ?_
  clear F H;rintro J2 ⟨k,f,q⟩ E u3 m3 L ⟨hk,H,F,rfl⟩;simp only at hk H F E;by_cases C:k<w
  ·refine G.lT k w ?_;have z:k<A[i].length:=by rw[hr _ (A09 m)];exact C
   have t:Tq A[i][k]:=hT _ (A09 m) _ (A09 z);obtain⟨b2,o2,rfl,e3⟩:=Ac.at' (Ac.mono Y L) (j:=k) (e:=zS (Ae A[i][k])) (by simp[Cc,A01 z]);refine G.N A.length c m (P.mono L)<|G.N w c1 C e3<|G.c call27 (G8 t.tx) ?_;intro v4 u4 I k4;obtain⟨b4,a4,n4,c4,ah,an,aj,rfl,_,_,a6⟩:=k4.opn;have hd:=t.den;generalize A[i][k]=x at *
   obtain⟨a8,a0⟩:=leW hd;obtain⟨R,a3⟩:=leW H;have al:0<Nat.gcd q x.den:=Nat.gcd_pos_of_pos_left _ R;refine G.c call145 (Abo (F.mono I) a6 (A04 (nl1 oV) oV) (A04 (nl1 oV) oV)) ?_;intro v5 u5 X k5;simp only[A1s]at k5;obtain⟨f5,rfl⟩:=k5.opB;have ae:Nat.gcd q x.den<=q:=Nat.gcd_le_left _ R;refine G.c call147 (Q5 (a6.mono X) k5 (A04 (nl1 oV) oV) (A04 (nl1 oV) oV) oV) ?_;rintro v6 u6 l6 ⟨x6,y6,rfl,T,U⟩;obtain⟨f6,rfl⟩:=T.opB;obtain⟨a7,rfl⟩:=U.opB;have e6:((x.den:Int)).tdiv ((Nat.gcd q x.den:Nat):Int)=((x.den/Nat.gcd q x.den:Nat):Int):=by
    rw[A32 oV];rfl
   rw[e6]at T;have K:=A0p H hd;have a9:x.den/Nat.gcd q x.den<=x.den:=A3u _ _;refine G.c call74 (Gg (F.mono (((I.trans X).trans l6))) T (A04 (nl1 oV) oV) (A04 (nlN oV) oV)) ?_;intro v7 u7 l7 V;obtain⟨f7,rfl⟩:=V.opB;rw[<-A4d]at V;generalize q*(x.den/Nat.gcd q x.den)=r at *
   obtain⟨am,ag⟩:=leW K;refine G.c call206 (Q0 V (A04 (nlM oV) oV)) ?_;rintro v8 u8 l8 rfl;have Q:Lib.nDigits (r:Int).natAbs<=17:=Awq oV;generalize Lib.nDigits (r:Int).natAbs=D at *
   have ab:n*D<=12*17:=A25 hn Q;exact G.mul (n:Int) (D:Int) ((n*D:Nat):Int) kV (by rw[A4d]) oV oV<|G.gF (n*D:Nat) 600<|G.i k<|G.b (E (k+1,f7,r) _ _ _ cV (((((L.trans I).trans X).trans l6).trans l7).trans l8) ⟨dV,K,V.mono l8,rfl⟩ dV)
  exact G.lF k w<|G.i i<|G.b (Z (i+1,f,q) _ _ _ cV (l2.trans L) ⟨dV,H,F,rfl⟩ dV)
 refine G.lF i A.length ?_;clear Z m hi;refine G.l (ι:=Nat) (fun i=>[(0,sV a A.length c),(1,iV n),(5,.p 1001 0),(58,iV A.length),(59,iV i)]) (fun i=>[(1001,⟨67,bc f⟩)])
  (fun i u' W=>i<=A.length/\W=PH.mt) (fun i=>A.length-i) 0 ⟨A1t _,rfl⟩ ?_
 rintro J i Z u3 m3 L ⟨hi,rfl⟩;by_cases m:i<A.length
 ·refine G.lT i A.length ?_;obtain⟨b1,o1,a1,c1,rfl,P,Y⟩:=(h.mono ((l1.trans l2).trans L)).row (Dw (A01 m));rw[A03,hr _ (A09 m)]at P Y;refine G.N A.length c m P<|G.l (ι:=Nat) (fun k=>[(0,sV (some ⟨b1,o1,none⟩) A.length c),(1,iV n),(5,.p 1001 0),(58,iV A.length),(59,iV i),(11,iV i),(66,iV w),(67,iV k)]) (fun k=>[(1001,⟨67,bc f⟩)])
   (fun k u' W=>k<=w/\W=PH.mt) (fun k=>w-k) 0 ⟨A1t _,rfl⟩ ?_
  rintro J2 k E u4 m4 I ⟨hk,rfl⟩;by_cases C:k<w
  ·refine G.lT k w ?_;have z:k<A[i].length:=by rw[hr _ (A09 m)];exact C
   have t:Tq A[i][k]:=hT _ (A09 m) _ (A09 z);obtain⟨b2,o2,rfl,e3⟩:=Ac.at' (Ac.mono Y I) (j:=k) (e:=zS (Ae A[i][k])) (by simp[Cc,A01 z]);refine G.N A.length c m (P.mono I)<|G.N w c1 C e3<|G.c call27 (G8 t.tx) ?_;intro v5 u5 X k5;obtain⟨b5,a5,n5,c5,ai,ao,ak,rfl,_,ad,ac⟩:=k5.opn;have hd:=t.den;have a2:=t.num;generalize A[i][k]=x at *
   obtain⟨a8,a0⟩:=leW hd;obtain⟨R,a3⟩:=leW H;have aa:=F.mono ((L.trans I).trans X);refine G.c call147 (Q5 aa ac (A04 (nlM oV) oV) (A04 (nl1 oV) oV) oV) ?_;rintro v6 u6 l6 ⟨x6,y6,rfl,T,U⟩;obtain⟨f6,rfl⟩:=T.opB;obtain⟨a7,rfl⟩:=U.opB;have e6:((q:Int)).tdiv (x.den:Int)=((q/x.den:Nat):Int):=by
    rw[A32 oV];rfl
   rw[e6]at T;have a9:q/x.den<=q:=A3u _ _;refine G.c call74 (Gg (ad.mono l6) T (A04 (nlM oV) oV) (A04 (nlN oV) oV)) ?_;intro v7 u7 l7 V;obtain⟨f7,rfl⟩:=V.opB;have af:(x.num*((q/x.den:Nat):Int)).natAbs<=3000000000000*21600:=by
    rw[A26,A1s];exact A25 a2 oV
   refine G.c call206 (Q0 V (A04 (nlM oV) oV)) ?_;rintro v8 u8 l8 rfl;have Q:Lib.nDigits (x.num*((q/x.den:Nat):Int)).natAbs<=17:=Awq oV;generalize Lib.nDigits (x.num*((q/x.den:Nat):Int)).natAbs=D at *
   have ab:n*D<=12*17:=A25 hn Q;exact G.mul (n:Int) (D:Int) ((n*D:Nat):Int) kV (by rw[A4d]) oV oV<|G.gF (n*D:Nat) 600<|G.i k<|G.b (E (k+1) _ _ _ cV ((((I.trans X).trans l6).trans l7).trans l8) ⟨oV,rfl⟩ oV)
  exact G.lF k w<|G.i i<|G.b (Z (i+1) _ _ _ cV (L.trans I) ⟨oV,rfl⟩ oV)
 exact G.lF i A.length<|G.gF n 600<|G.r zL ⟨rfl,rfl⟩
end
section
variable {X:zM}{n p r w:Nat}
def Ay1 (n m:Nat)(X:zM)(y:Nat->Rat):Prop:=∀ i,i<n->Bb n (fun j=>en X i j*y j)=en X i m
theorem Yt (h:Rec n w X)(L:n<=w)(z:r<n)(hp:p<n)(J:r<=p)(h0:en X p r≠0)(E:∀ i j,i<n->j<r->en X i j=if i=j then 1 else 0) :
 ∀ i j,i<n->j<r+1->en (J8 X r r p) i j=if i=j then 1 else 0:=by
 intro i j hi K;unfold J8;rw[h.1];have C:Rec n w (if p=r then X else If X p r):=by
  split
  ·exact h
  exact Mk h hp z
 have u:∀ i j,en (if p=r then X else If X p r) i j=if i=r then en X p j else if i=p then en X r j else en X i j:=fun i j=>by
  split
  ·rename_i e;subst e;split
   ·rename_i e;rw[e]
   rfl
  rw[Si h hp z]
 rw[Acm z oV n 0 _ oV (R8 C z) i j oV,Jd C z i j,Jd C z i r,Jd C z r j,if_pos rfl,u i j,u i r,u r j,u r r,if_pos rfl,if_pos rfl];have H:en X p r*(1/en X p r)=1:=by grind
 generalize 1/en X p r=q at *
 by_cases m:i=r
 ·rw[if_neg oV,if_pos m,if_pos m];by_cases F:j=r
  ·rw[F,m,if_pos rfl,H]
  rw[E p j hp oV,if_neg oV,if_neg oV];grind
 rw[if_pos ⟨oV,oV,m⟩,if_neg m,if_neg m,if_neg m,if_neg m];by_cases F:j=r
 ·subst F;rw[if_neg m];generalize (if i=p then en X j j else en X i j)=t;rw[show t-t*(en X p j*q)=t-t*(en X p j*q) from rfl,H];grind
 rw[E p j hp oV,if_neg (show ¬ p=j by omega)];by_cases I:i=p
 ·rw[if_pos I,E r j z oV,if_neg (show ¬ r=j by omega),if_neg (show ¬ i=j by omega)];grind
 rw[if_neg I,E i j hi oV];grind
theorem Aes (n:Nat)(a b y:Nat->Rat)(t:Rat):Bb n (fun j=>(a j-t*b j)*y j)=Bb n (fun j=>a j*y j)-t*Bb n (fun j=>b j*y j):=by
 rw[<-B4,<-Y8];exact Ah fun j _=>by grind
theorem Afg (n:Nat)(b y:Nat->Rat)(q:Rat):Bb n (fun j=>(b j*q)*y j)=q*Bb n (fun j=>b j*y j):=by
 rw[<-B4];exact Ah fun j _=>by grind
theorem Ans {n w m r c p:Nat}{y:Nat->Rat}(h:Rec n w X)(V:n<=w)(U:m<w)(t:r<n)(hp:p<n)(T:c<n)(h0:en X p c≠0)(Q:Ay1 n m (J8 X r c p) y):Ay1 n m X y:=by
 have I:Rec n w (if p=r then X else If X p r):=by
  split
  ·exact h
  exact Mk h hp t
 have u:∀ i j,en (if p=r then X else If X p r) i j=if i=r then en X p j else if i=p then en X r j else en X i j:=fun i j=>by
  split
  ·rename_i e;subst e;split
   ·rename_i e;rw[e]
   rfl
  rw[Si h hp t]
 have z:∀ k j,k<n->j<w->en (J8 X r c p) k j=if k=r then en X p j*(1/en X p c) else (if k=p then en X r j else en X k j)-(if k=p then en X r c else en X k c)*(en X p j*(1/en X p c)):=by
  intro k j J P;unfold J8;rw[h.1,Acm t oV n 0 _ oV (R8 I t) k j P,Jd I t k j,Jd I t k c,Jd I t r j,if_pos rfl,u k j,u k c,u r j,u r c,if_pos rfl,if_pos rfl];by_cases e:k=r
  ·rw[if_neg oV,if_pos e,if_pos e,if_pos e]
  rw[if_pos ⟨oV,oV,e⟩,if_neg e,if_neg e,if_neg e,if_neg e,if_neg e]
 have R:en X p c*(1/en X p c)=1:=by grind
 generalize 1/en X p c=q at *
 have F:Bb n (fun j=>en X p j*y j)=en X p m:=by
  have C:=Q r t;rw[Ah (g:=fun j=>(en X p j*q)*y j) fun j P=>by rw[z r j t oV,if_pos rfl],z r m t oV,if_pos rfl,Afg]at C;generalize Bb n (fun j=>en X p j*y j)=S at *
  have:en X p c*(q*S)=en X p c*(en X p m*q):=by rw[C]
  grind
 have E:∀ k,k<n->k≠r->Bb n (fun j=>(if k=p then en X r j else en X k j)*y j)=if k=p then en X r m else en X k m:=by
  intro k J H;have C:=Q k J;rw[Ah (g:=fun j=>((if k=p then en X r j else en X k j)-((if k=p then en X r c else en X k c)*q)*en X p j)*y j) fun j P=>by rw[z k j J oV,if_neg H];grind,z k m J oV,if_neg H,Aes,F]at C;grind
 intro i hi;by_cases K:i=p
 ·rw[K];exact F
 by_cases L:i=r
 ·have C:=E p hp (fun e=>K (by rw[L,e]));rw[L];simpa using C
 have C:=E i hi L;simpa[K] using C
theorem Z5 {n w m:Nat}(F:n<=w)(E:m<w):∀ f c P X d,c+f=n->P.length=c->Rec n w X->(∀ i j,i<n->j<c->en X i j=if i=j then 1 else 0) ->
 ¬ (Bn f c P X d).1.length<n->Ay1 n m X (fun i=>en (Bn f c P X d).2.1 i m)
 |0,c,P,X,d,hc,hP,h,hu,e=>by
  have H:Bn 0 c P X d=(P,X,d):=rfl;rw[H];intro i hi;have:∀ l,l<=n->Bb l (fun j=>en X i j*en X j m)=if i<l then en X i m else 0:=by
   intro l;induction l with
   |zero=>intro _;rw[Uk,if_neg oV]
   |succ l ih =>
    intro e;rw[Ds,ih oV,hu i l hi oV];by_cases u:i<l
    ·rw[if_pos u,if_neg oV,if_pos oV];grind
    by_cases z:i=l
    ·rw[if_neg u,if_pos z,if_pos oV,<-z];grind
    rw[if_neg u,if_neg z,if_neg oV];grind
  rw[this n (A08 _),if_pos hi]
 |f+1,c,P,X,d,hc,hP,h,hu,e=>by
  revert e
  unfold Bn;rw[if_pos (show P.length<X.length by rw[h.1];omega)];obtain⟨K,L⟩:=Ss X c (X.length-P.length) P.length;have I:=W7 X c (X.length-P.length) P.length;generalize El X c (X.length-P.length) P.length=p at *
  split
  ·intro e;have:=Yb f (c+1) P X d;omega
  rename_i hpx;intro e;have J:=h.1;have t:p<n:=oV;have h0:=I oV;rw[hP]at e⊢;have C:=Yt h oV (show c<n by omega) t oV h0 hu;exact Ans h F E oV t oV h0 (Z5 F E f (c+1) (P++[c]) (J8 X c c p) _ oV (by simp[hP]) (Xw h oV t) C e)
end

def Ad3 {m0 m:PH}{v:Value}{t:TypeId}{sz:Nat}{es:zV}(h:Af m0 m v t sz es):PH.le m0 m:=by
 rcases h.2 with ⟨_,_,rfl⟩|⟨g,cap,rest,e,rfl,_⟩
 ·exact PH.le_refl _
 exact Jw _ e
def Wp {n w:Nat}:∀ f c P X d,Rec n w X->Rec n w (Bn f c P X d).2.1
 |0,_,_,_,_,h=>h
 |f+1,c,P,X,d,h=>by
  rw[Bn];by_cases e:P.length<X.length
  ·rw[if_pos e];by_cases hp:El X c (X.length-P.length) P.length=X.length
   ·rw[if_pos hp];exact Wp f _ _ _ _ h
   rw[if_neg hp];have j:=Ss X c (X.length-P.length) P.length;have m:=h.1;exact Wp f _ _ _ _ (Xw h oV oV)
  rw[if_neg e];exact h
def Tq.sz {q:Rat}(h:Tq q):Sz q 2:=by
 have h1:=h.num;have h2:=(leW h.den).2;exact⟨nlM oV,nlM oV⟩
def es1 {n:Nat}(h:n<=12):es 2 n<=1000000000:=A04 (Apd 2 h) fV
section
variable {i j:Nat}{qs:zR}
theorem Wy {q:Rat}{z:Int}{D:Nat}(h:q*(D:Rat)=(z:Rat))(h0:0<D):q.den ∣ D/\q.num.natAbs<=z.natAbs:=by
 have u:q=Rat.divInt z (D:Int):=by
  rw[A37,A2r,<-h];have:=T4 h0;grind
 obtain⟨e,m,E⟩:=O7 (y:=z) (z:=(D:Int)) oV;rw[u];constructor
 ·have t:((Rat.divInt z (D:Int)).den:Int)=((D/Nat.gcd z.natAbs D:Nat):Int):=by
   rw[m,show ((D:Int)).natAbs=D from rfl,A32 oV,<-A5k]
  rw[Int.ofNat.inj t];exact Nat.div_dvd_of_dvd (Nat.gcd_dvd_right _ _)
 rw[e,A8o];exact A3u _ _
section
variable {P:List Par} {C:CF} {q:Rat} {N:Nat}
def Eh (C:CF)(P:List Par)(q:Rat):zM:=D0 q (Lh C P) (P.length+1)
def Yz (C:CF)(P:List Par):zR:=(An P).map (Bh C)
def Rx:Rec (P.length+1) (P.length+1) (Eh C P q):=Nx (Sj C P) _ (A08 _)
def N8 (hi:i<P.length+1)(e:j<P.length+1):en (Eh C P q) i j=As C ((An P).getD i none) ((An P).getD j none)+if i=j/\0<i then q else 0:=by
 unfold Eh;rw[Vv (Sj C P) _ (A08 _) i j hi e,Abs C P hi e];have:(if i=j/\0<i/\i<P.length+1 then q else 0)=if i=j/\0<i then q else 0:=by simp[hi]
 rw[this]
def Ag3:(Yz C P).length=P.length+1:=by unfold Yz;rw[A03,Cp]
def A0b (hi:i<P.length+1):gR (Yz C P) i=Bh C ((An P).getD i none):=by
 have e:=Cp P;refine Aep ?_;unfold Yz;rw[A1a,A02,A01 oV];rfl
def Am9 (m:P.Nodup)(u:qs.length=P.length)(t:j<P.length):Fo P[j] (P.zip qs)=gR qs j:=by
 have h:j<qs.length:=oV
 rw[Cu h];refine Kh ?_ (A3d.2 ⟨j,gV,mV⟩);have e:(P.zip qs).map (·.1)=P:=List.map_fst_zip oV;rw[e];exact m
def Ar2 (e:P.Nodup){m0:Rat}(h:qs.length=P.length):∀ j,j<P.length+1->cfE m0 (P.zip qs) ((An P).getD j none)=gR (m0::qs) j:=by
 intro j m;cases j with
 |zero=>rfl
 |succ j =>
  unfold An;rw[A6b,A02,A1a,A01 oV];show Fo P[j] (P.zip qs)=gR (m0::qs) (j+1);rw[Am9 e h oV];rfl
def Alq (hi:i<P.length+1):(An P).getD i none∈An P:=by
 have:=Cp P;rw[A02,A01 oV];exact A09 _
end
end
section
variable {P:Nat->Nat}{R S:Nat->Nat->Int}{a b c j n r:Nat}{f:Nat->Int}{v:Int}
def Ca:Nat->(Nat->Int)->Int
 |0,_=>0
 |n+1,f=>Ca n f+f n
def Cr {f g:Nat->Int}:∀ {n:Nat},(∀ j,j<n->f j=g j)->Ca n f=Ca n g
 |0,_=>rfl
 |n+1,h=>by rw[Ca,Ca,Cr fun j e=>h j oV,h n oV]
def Aai (h:∀ j,j<n->f j=0):Ca n f=0:=by
 induction n with
 |zero=>rfl
 |succ n ih=>rw[Ca,ih fun j e=>h j oV,h n oV];rfl
theorem Ll {f g:Nat->Int}(a b:Int):∀ {n:Nat},Ca n (fun j=>a*f j+b*g j)=a*Ca n f+b*Ca n g
 |0=>by simp[Ca]
 |n+1=>by rw[Ca,Ca,Ca,Ll a b];grind
theorem X9 (m:j<n)(h:∀ t,t<n->t≠j->f t=0):Ca n f=f j:=by
 induction n with
 |zero=>omega
 |succ n ih =>
  rw[Ca];by_cases e:j=n
  ·subst e;rw[Aai fun t u=>h t oV oV];omega
  grind
theorem Ar3 (u:a+1<n)(h:∀ t,t<n->t≠a->t≠a+1->f t=0):Ca n f=f a+f (a+1):=by
 induction n with
 |zero=>omega
 |succ n ih =>
  rw[Ca];by_cases e:a+1=n
  ·subst e;rw[X9 (j:=a) oV fun t z m=>h t oV m oV]
  grind
def dsg:Nat->Int
 |0=>1
 |n+1=>- dsg n
def Akx:∀ r:Nat,dsg (r+r)=1
 |0=>rfl
 |r+1=>by rw[show r+1+(r+1)=r+r+1+1 by omega,dsg,dsg,Akx r];rfl
def Eu (j:Nat)(C:Nat->Nat->Int):Nat->Nat->Int:=fun t=>if t<j then C t else C (t+1)
def dt:Nat->(Nat->Nat->Int)->Int
 |0,_=>1
 |r+1,C=>Ca (r+1) fun j=>dsg (r+j)*C j r*dt r (Eu j C)
def Ih:∀ {r:Nat} {C D:Nat->Nat->Int},(∀ t,t<r->∀ i,i<r->C t i=D t i)->dt r C=dt r D
 |0,_,_,_=>rfl
 |r+1,C,D,h=>by
  rw[dt,dt];refine Cr fun j e=>?_;rw[h j e r oV,Ih (D:=Eu j D)];intro t m i hi;unfold Eu;split
  ·exact h t oV i oV
  exact h (t+1) oV i oV
def Dc (C:Nat->Nat->Int)(j:Nat)(x:Nat->Int):Nat->Nat->Int:=fun t=>if t=j then x else C t
theorem Od (C:Nat->Nat->Int)(j:Nat)(x:Nat->Int):Eu j (Dc C j x)=Eu j C:=by
 funext t
 unfold Eu Dc;split
 ·grind
 grind
theorem Nz (C:Nat->Nat->Int)(h:j<a)(x:Nat->Int):Eu a (Dc C j x)=Dc (Eu a C) j x:=by
 funext t
 unfold Eu Dc;by_cases e:t=j
 ·grind
 grind
theorem Kz (C:Nat->Nat->Int)(h:a<j)(x:Nat->Int):Eu a (Dc C j x)=Dc (Eu a C) (j-1) x:=by
 funext t
 unfold Eu Dc;by_cases e:t=j-1
 ·grind
 grind
def Ja (C:Nat->Nat->Int)(j:Nat)(x:Nat->Int):Dc C j x j=x:=by simp[Dc]
theorem Id (C:Nat->Nat->Int){j t:Nat}(h:t≠j)(x:Nat->Int):Dc C j x t=C t:=by simp[Dc,h]
theorem O2 (C:Nat->Nat->Int)(j:Nat):Dc C j (C j)=C:=by
 funext t
 unfold Dc;split
 ·grind
 rfl
theorem Mt (a b:Int)(x y:Nat->Int):∀ {r:Nat} (C:Nat->Nat->Int) {j:Nat},j<r->dt r (Dc C j fun i=>a*x i+b*y i)=a*dt r (Dc C j x)+b*dt r (Dc C j y)
 |0,_,_,h=>oV
 |r+1,C,j,h=>by
  rw[dt,dt,dt,<-Ll];refine Cr fun t u=>?_;by_cases e:t=j
  ·subst e;rw[Od,Od,Od,Ja,Ja,Ja];grind
  rw[Id C e,Id C e,Id C e];by_cases m:j<t
  ·rw[Nz C m,Nz C m,Nz C m,Mt a b x y (Eu t C) oV];grind
  have m:t<j:=oV;rw[Kz C m,Kz C m,Kz C m,Mt a b x y (Eu t C) oV];grind
def Akv (C:Nat->Nat->Int)(h:j<r):dt r (Dc C j fun _=>0)=0:=by
 have:=Mt 0 0 (fun _=>0) (fun _=>0) C h;simpa using this
theorem Ach:∀ {r:Nat} {C:Nat->Nat->Int} {a:Nat},a+1<r->C a=C (a+1)->dt r C=0
 |0,_,_,h,_=>oV
 |r+1,C,a,h,e=>by
  rw[dt,Ar3 (a:=a) h]
  ·have:Eu a C=Eu (a+1) C:=by
    funext t
    unfold Eu;by_cases h1:t=a
    ·grind
    ·grind
   rw[this,e,show r+(a+1)=(r+a)+1 by omega,dsg];grind
  ·intro t ht h1 h2;have:dt r (Eu t C)=0:=by
    by_cases hl:t<a
    ·refine Ach (a:=a-1) oV ?_;unfold Eu;rw[if_neg oV,if_neg oV,show a-1+1=a by omega];exact e
    ·refine Ach (a:=a) oV ?_;unfold Eu;rw[if_pos oV,if_pos oV];exact e
   rw[this];simp
def swp (C:Nat->Nat->Int)(a:Nat):Nat->Nat->Int:=Dc (Dc C a (C (a+1))) (a+1) (C a)
theorem Ti (C:Nat->Nat->Int)(h:a≠b)(x y:Nat->Int):Dc (Dc C a x) b y=Dc (Dc C b y) a x:=by
 funext t
 unfold Dc;by_cases e:t=a
 ·grind
 grind
def Ayl (C:Nat->Nat->Int)(h:a+1<r):dt r (swp C a) = - dt r C:=by
 have t:a<r:=oV
 let D:(Nat->Int)->(Nat->Int)->Int:=fun x y=>dt r (Dc (Dc C a x) (a+1) y)
 have l2:∀ x y z,D x (fun i=>1*y i+1*z i)=1*D x y+1*D x z:=fun x y z=>Mt 1 1 y z _ h;have u:∀ x y z,D (fun i=>1*y i+1*z i) x=1*D y x+1*D z x:=fun x y z=>by
  show dt r (Dc (Dc C a _) (a+1) x)=1*dt r (Dc (Dc C a y) (a+1) x)+1*dt r (Dc (Dc C a z) (a+1) x);rw[Ti C (show a≠a+1 by omega) (fun i=>1*y i+1*z i) x,Ti C (show a≠a+1 by omega) y x,Ti C (show a≠a+1 by omega) z x];exact Mt 1 1 y z _ t
 have e:∀ x,D x x=0:=fun x=>Ach h (by rw[Ja,Id _ oV,Ja]);have m:=e (fun i=>1*C a i+1*C (a+1) i);rw[u,l2,l2,e,e]at m;have E:D (C a) (C (a+1))=dt r C:=by
  show dt r (Dc (Dc C a (C a)) (a+1) (C (a+1)))=_;rw[O2,O2]
 have F:D (C (a+1)) (C a)=dt r (swp C a):=rfl;omega
def Ao4 {r:Nat}:∀ {d:Nat} {C:Nat->Nat->Int} {a:Nat},a+d+1<r->C a=C (a+d+1)->dt r C=0
 |0,_,_,h,e=>Ach h e
 |d+1,C,a,h,e=>by
  have:=Ayl C (a:=a+d+1) (r:=r) oV;rw[Ao4 (d:=d) (C:=swp C (a+d+1)) (a:=a) oV]at this
  ·omega
  unfold swp;rw[Id _ oV,Id _ oV,Id _ oV,Ja];exact e
def All {C:Nat->Nat->Int}(m:a<r)(t:b<r)(u:a≠b)(e:C a=C b):dt r C=0:=by
 by_cases h:a<b
 ·exact Ao4 (d:=b-a-1) (a:=a) oV (by rw[show a+(b-a-1)+1=b by omega];exact e)
 exact Ao4 (d:=a-b-1) (a:=b) oV (by rw[show b+(a-b-1)+1=a by omega];exact e.symm)
def Aiz {r:Nat}(C:Nat->Nat->Int){j:Nat}(h:j<r)(a:Nat->Int)(X:Nat->Nat->Int):∀ n:Nat,dt r (Dc C j fun i=>Ca n fun t=>a t*X t i)=Ca n fun t=>a t*dt r (Dc C j (X t))
 |0=>Akv C h
 |n+1=>by
  have:=Mt 1 (a n) (fun i=>Ca n fun t=>a t*X t i) (X n) C h;rw[Aiz C h a X n]at this;simp only[Ca];rw[Ba8]at this;rw[<-this]
  congr 2
  funext i
  rw[Ba8]
def Z3 (C:Nat->Nat->Int)(h:j<r)(a:Nat->Int):dt r (Dc C j fun i=>Ca r fun t=>a t*C t i)=a j*dt r C:=by
 rw[Aiz C h,X9 h,O2];intro t u m;rw[All (a:=j) (b:=t) h u (fun e=>m e.symm) (by rw[Ja,Id _ m]),Int.mul_zero]
theorem Au9 (C:Nat->Nat->Int)(e:Nat->Int)(m:∀ i,i<r->e i=0):dt (r+1) (Dc C r e)=e r*dt r C:=by
 rw[dt,X9 (j:=r) oV]
 ·rw[Akx,Ja,Ba8,Ih (C:=Eu r (Dc C r e)) (D:=C)];intro t h i hi;unfold Eu;rw[if_pos h,Id _ oV]
 intro t h u;rw[Kz C (by omega:t<r),Ih (D:=Dc (Eu t C) (r-1) fun _=>0)]
 ·rw[Akv _ oV];simp
 intro s z i hi;unfold Dc;split
 ·grind
 rfl
structure Bar (n:Nat)(R:Nat->Nat->Int)(P:Nat->Nat)(r:Nat)(v:Int)(S:Nat->Nat->Int):Prop where
 v0:v≠0
 d:dt r (fun j i=>R i (P j))=v
 lo:∀ i,i<r->∀ k,Ca r (fun j=>S j k*R i (P j))=v*R i k
 hi:∀ i,r<=i->i<n->∀ k,S i k=v*R i k-Ca r (fun j=>S j k*R i (P j))
def Bar.init (n:Nat)(R:Nat->Nat->Int)(P:Nat->Nat):Bar n R P 0 1 R:=⟨fV,rfl,fun i h=>oV,fun i _ _ k=>by simp[Ca]⟩
def Aq5 (a:Int)(f:Nat->Int)(n:Nat):Ca n (fun j=>a*f j)=a*Ca n f:=by
 have:=Ll (f:=f) (g:=f) a 0 (n:=n);simp only[Int.zero_mul,Int.add_zero]at this;exact this
def K4 {v a b:Int}(e:v≠0)(h:v*a=v*b):a=b:=A85 e h
theorem Bar.num (h:Bar n R P r v S)(t:r<n)(c:Nat)(i k:Nat)(hi:i<=r) :
 Ca r (fun j=>(S j k*S r c-S j c*S r k)*R i (P j))+v*S r k*R i c=v*(S r c*R i k):=by
 have e:Ca r (fun j=>(S j k*S r c-S j c*S r k)*R i (P j))=S r c*Ca r (fun j=>S j k*R i (P j))+(- S r k)*Ca r (fun j=>S j c*R i (P j)):=by
  rw[<-Ll];exact Cr fun j _=>by grind
 rw[e];by_cases m:i<r
 ·rw[h.lo i m,h.lo i m];grind
 obtain rfl:i=r:=oV;have u:=h.hi i (A08 _) t k;have z:=h.hi i (A08 _) t c;grind
def Kc (P:Nat->Nat)(r c:Nat):Nat->Nat:=fun j=>if j=r then c else P j
theorem Bar.det (h:Bar n R P r v S)(F:r<n)(c:Nat) :
 dt (r+1) (fun j i=>R i (Kc P r c j))=S r c:=by
 let C:Nat->Nat->Int:=fun j i=>R i (Kc P r c j)
 have m:C r=fun i=>R i c:=by funext i;simp[C,Kc]
 have e:∀ j,j<r->C j=fun i=>R i (P j):=fun j u=>by funext i;simp[C,Kc,show j≠r by omega]
 have E:dt (r+1) (Dc C r (fun i=>v*C r i+(-1)*Ca r (fun j=>S j c*C j i)))=v*dt (r+1) C:=by
  rw[Mt v (-1) (C r) _ C oV,O2,Aiz C oV];rw[Aai]
  ·grind
  intro t z;rw[All (a:=t) (b:=r) oV oV oV (by rw[Ja,Id _ oV]),Int.mul_zero]
 have es:∀ i,Ca r (fun j=>S j c*C j i)=Ca r (fun j=>S j c*R i (P j)):=fun i=>Cr fun j u=>by rw[e j u]
 rw[Au9 C _ (fun i hi=>by
  rw[es,h.lo i hi,m];grind)]at E
 have H:dt r C=v:=by
  rw[<-h.d];exact Ih fun t z i hi=>by rw[e t z]
 have I:v*C r r+(-1)*Ca r (fun j=>S j c*C j r)=S r c:=by
  rw[es,m];have:=h.hi r (A08 _) F c;grind
 refine K4 h.v0 ?_;grind
theorem Bar.dvd (h:Bar n R P r v S)(u:r<n)(H:S r c≠0)(j k:Nat)(J:j<r) :
 v ∣ S j k*S r c-S j c*S r k:=by
 let C:Nat->Nat->Int:=fun j i=>R i (Kc P r c j)
 have m:∀ i,C r i=R i c:=fun i=>by simp[C,Kc]
 have e:∀ j,j<r->∀ i,C j i=R i (P j):=fun j J i=>by simp[C,Kc,show j≠r by omega]
 have I:dt (r+1) C=S r c:=h.det u c;have E:=Z3 C (show j<r+1 by omega) (fun t=>if t=r then v*S r k else S t k*S r c-S t c*S r k);have F:dt (r+1) (Dc C j fun i=>Ca (r+1) fun t=>(if t=r then v*S r k else S t k*S r c-S t c*S r k)*C t i)=dt (r+1) (Dc C j fun i=>(v*S r c)*R i k+0*R i k):=by
  refine Ih fun t z i hi=>?_;unfold Dc;split
  ·simp only[Ca,if_true,m];have:=h.num u c i k oV;rw[Cr (g:=fun j=>(S j k*S r c-S j c*S r k)*R i (P j)) (fun t z=>by rw[if_neg oV,e t z])];grind
  rfl
 rw[F,Mt _ _ _ _ C oV,I,if_neg oV]at E;refine⟨dt (r+1) (Dc C j fun i=>R i k),K4 H ?_⟩;grind
def Af2 {v:Int}{f:Nat->Int}:∀ {n:Nat},(∀ j,j<n->v ∣ f j)->v ∣ Ca n f
 |0,_=>⟨0,by simp[Ca]⟩
 |n+1,h=>Int.dvd_add (Af2 fun j e=>h j oV) (h n oV)
theorem Bar.dvdAll (h:Bar n R P r v S)(t:r<n)(m:S r c≠0)(i k:Nat)(hi:i<n)(F:i≠r) :
 v ∣ S i k*S r c-S i c*S r k:=by
 by_cases z:i<r
 ·exact h.dvd t m i k z
 have C:=h.hi i oV hi k;have E:=h.hi i oV hi c;have e:Ca r (fun j=>(S j k*S r c-S j c*S r k)*R i (P j))=S r c*Ca r (fun j=>S j k*R i (P j))+(- S r k)*Ca r (fun j=>S j c*R i (P j)):=by
  rw[<-Ll];exact Cr fun j _=>by grind
 obtain⟨q,H⟩:v ∣ Ca r (fun j=>(S j k*S r c-S j c*S r k)*R i (P j)):=Af2 fun j u=>Int.dvd_mul_of_dvd_left (h.dvd t m j k u);exact⟨S r c*R i k-S r k*R i c-q,by grind⟩
theorem Bar.step {n:Nat}{R:Nat->Nat->Int}{P:Nat->Nat}{r:Nat}{v:Int}{S:Nat->Nat->Int}(h:Bar n R P r v S)(C:r<n){c:Nat}(I:S r c≠0){S':Nat->Nat->Int}
 (hp:∀ k,S' r k=S r k) (E:∀ i,i<n->i≠r->∀ k,v*S' i k=S i k*S r c-S i c*S r k):Bar n R (Kc P r c) (r+1) (S r c) S':=by
 have F:=h.v0;have H:∀ j,j<r->Kc P r c j=P j:=fun j u=>by simp[Kc,show j≠r by omega]
 have t:Kc P r c r=c:=by simp[Kc]
 have e:∀ i k,v*Ca r (fun j=>S' j k*R i (P j))=Ca r (fun j=>(S j k*S r c-S j c*S r k)*R i (P j)):=fun i k=>by
  rw[<-Aq5];exact Cr fun j u=>by rw[<-E j oV oV];grind
 have z:∀ i k,Ca (r+1) (fun j=>S' j k*R i (Kc P r c j))=Ca r (fun j=>S' j k*R i (P j))+S r k*R i c:=fun i k=>by
  rw[Ca,t,hp,Cr (g:=fun j=>S' j k*R i (P j)) fun j u=>by rw[H j u]]
 refine⟨I,h.det C c,fun i hi k=>?_,fun i K m k=>?_⟩
 ·refine K4 F ?_;rw[z,Ba2,e];have:=h.num C c i k oV;grind
 refine K4 F ?_;rw[z,E i m oV];have L:=e i k;have J:Ca r (fun j=>(S j k*S r c-S j c*S r k)*R i (P j))=S r c*Ca r (fun j=>S j k*R i (P j))+(- S r k)*Ca r (fun j=>S j c*R i (P j)):=by
  rw[<-Ll];exact Cr fun j _=>by grind
 have Q:=h.hi i oV m k;have T:=h.hi i oV m c;grind
def rsw (F:Nat->Nat->Int)(p q:Nat):Nat->Nat->Int:=fun i=>if i=p then F q else if i=q then F p else F i
def Bar.swap (h:Bar n R P r v S){p:Nat}(I:r<=p)(J:p<n):Bar n (rsw R p r) P r v (rsw S p r):=by
 have z:∀ F:Nat->Nat->Int,∀ i,i<r->rsw F p r i=F i:=fun F i hi=>by simp[rsw,show i≠p by omega,show i≠r by omega]
 refine⟨h.v0,?_,fun i hi k=>?_,fun i hi K k=>?_⟩
 ·rw[<-h.d];exact Ih fun t _ i hi=>by rw[z R i hi]
 ·rw[z R i hi,<-h.lo i hi];exact Cr fun j E=>by rw[z S j E]
 have:∀ u,r<=u->u < n->rsw S p r i=S u->rsw R p r i=R u->rsw S p r i k=v*rsw R p r i k-Ca r (fun j=>rsw S p r j k*rsw R p r i (P j)):=fun u a b H m=>by
  rw[H,m,h.hi u a b]
  congr 1
  exact Cr fun j E=>by rw[z S j E]
 by_cases e:i=p
 ·exact this r (A08 _) oV (by simp[rsw,e]) (by simp[rsw,e])
 by_cases m:i=r
 ·exact this p I J (by simp[rsw,m];intro C;rw[C]) (by simp[rsw,m];intro C;rw[C])
 exact this i hi K (by simp[rsw,e,m]) (by simp[rsw,e,m])
end
section
variable {R:Nat->Nat->Int}{X:List (List Int)}{i j n p r w:Nat}{l:List Int}
def gZ (l:List Int)(j:Nat):Int:=l.getD j 0
def gMZ (X:List (List Int))(i:Nat):List Int:=X.getD i []
def enZ (X:List (List Int))(i j:Nat):Int:=gZ (gMZ X i) j
def E8 (n w:Nat)(X:List (List Int)):Prop:=X.length=n/\∀ i,i<n->(gMZ X i).length=w
def Ol (h:j<l.length):gZ l j=l[j]:=by unfold gZ;rw[A02,A01 h];rfl
def Ado (h:l.length<=j):gZ l j=0:=by unfold gZ;rw[A02,A1v h];rfl
def Xj (h:i<X.length):gMZ X i=X[i]:=by unfold gMZ;rw[A02,A01 h];rfl
theorem Kv {i k:Nat}{r:List Int}(h:i<X.length):gMZ (X.set i r) k=if i=k then r else gMZ X k:=by
 unfold gMZ;by_cases e:i=k
 ·grind
 grind
def Abr (f:Nat->Int)(h:j<n):gZ ((List.range n).map f) j=f j:=by
 rw[Ol (by simpa using h)];simp
def Iy (X:List (List Int))(c:Nat):Nat->Nat->Nat
 |0,p=>p
 |f+1,p=>if enZ X p c=0 then Iy X c f (p+1) else p
def Kw (X:List (List Int))(p r:Nat):List (List Int):=(X.set p (gMZ X r)).set r (gMZ X p)
def Qx (v a g:Int)(R row:List Int):List Int:=(List.range row.length).map fun k=>(gZ row k*a-g*gZ R k)/v
def Ov (r c:Nat)(v:Int):Nat->Nat->List (List Int)->List (List Int)
 |0,_,X=>X
 |f+1,i,X=>Ov r c v f (i+1) (if i=r then X else X.set i (Qx v (enZ X r c) (enZ X i c) (gMZ X r) (gMZ X i)))
structure BZ where
 X:List (List Int)
 P:zK
 v:Int
 odd:Bool
def I0 (n c:Nat)(s:BZ):BZ :=
 if Iy s.X c (n-s.P.length) s.P.length=n then s
 else ⟨Ov s.P.length c s.v n 0 (if Iy s.X c (n-s.P.length) s.P.length=s.P.length then s.X else Kw s.X (Iy s.X c (n-s.P.length) s.P.length) s.P.length),s.P++[c],
  enZ s.X (Iy s.X c (n-s.P.length) s.P.length) c,if Iy s.X c (n-s.P.length) s.P.length=s.P.length then s.odd else !s.odd⟩
def Fm (n:Nat):Nat->Nat->BZ->BZ
 |0,_,s=>s
 |f+1,c,s=>Fm n f (c+1) (I0 n c s)
def Ac3 (X:List (List Int))(c:Nat):∀ f p,p<=Iy X c f p/\Iy X c f p<=p+f
 |0,p=>by simp[Iy]
 |f+1,p=>by
  unfold Iy;split
  ·have:=Ac3 X c f (p+1);omega
  omega
def Abg (X:List (List Int))(c:Nat):∀ f p i,p<=i->i<Iy X c f p->enZ X i c=0
 |0,p,i,h1,h2=>by simp[Iy]at h2;omega
 |f+1,p,i,h1,h2=>by
  unfold Iy at h2;split at h2
  ·rename_i h;by_cases e:i=p
   ·subst e;exact h
   exact Abg X c f (p+1) i oV h2
  omega
def Ade (X:List (List Int))(c:Nat):∀ f p,Iy X c f p<p+f->enZ X (Iy X c f p) c≠0
 |0,p,h=>by simp[Iy]at h
 |f+1,p,h=>by
  unfold Iy at h⊢;split at h
  ·rename_i h0;rw[if_pos h0];exact Ade X c f (p+1) oV
  rename_i h0;rw[if_neg h0];exact h0
def Lt {r:List Int}(h:E8 n w X)(hi:i<n)(m:r.length=w):E8 n w (X.set i r):=by
 refine⟨by simp[h.1],fun j e=>?_⟩;rw[Kv (by rw[h.1];exact hi)];split
 ·exact m
 exact h.2 j e
def Uh (h:E8 n w X)(hp:p<n)(e:r<n):E8 n w (Kw X p r) :=
 Lt (Lt h hp (h.2 r e)) e (h.2 p hp)
theorem Wz (h:E8 n w X)(hp:p<n)(m:r<n)(i:Nat):gMZ (Kw X p r) i=if i=r then gMZ X p else if i=p then gMZ X r else gMZ X i:=by
 unfold Kw;rw[Kv (by simp[h.1];exact m),Kv (by rw[h.1];exact hp)];by_cases e:r=i
 ·grind
 grind
def S2 (v a g:Int)(R row:List Int):(Qx v a g R row).length=row.length:=by simp[Qx]
def Acv (v a g:Int)(R row:List Int)(h:R.length=row.length)(j:Nat):gZ (Qx v a g R row) j=(gZ row j*a-g*gZ R j)/v:=by
 by_cases e:j<row.length
 ·unfold Qx;exact Abr _ e
 rw[Ado (by rw[S2];omega),Ado (l:=row) oV,Ado (l:=R) oV];simp
def Wu {n w r c:Nat}{v:Int}(e:r<n):∀ f i X,i+f<=n->E8 n w X->E8 n w (Ov r c v f i X)
 |0,i,X,_,h=>h
 |f+1,i,X,hf,h=>by
  unfold Ov;refine Wu e f (i+1) _ oV ?_;split
  ·exact h
  exact Lt h oV (by rw[S2];exact h.2 i oV)
def Ry {n w r c:Nat}{v:Int}(z:r<n):∀ f i X,i+f<=n->E8 n w X->∀ k,gMZ (Ov r c v f i X) k=if i<=k/\k<i+f/\k≠r then Qx v (enZ X r c) (enZ X k c) (gMZ X r) (gMZ X k) else gMZ X k
 |0,i,X,_,h,k=>by rw[if_neg oV];rfl
 |f+1,i,X,hf,h,k=>by
  unfold Ov;by_cases e:i=r
  ·rw[if_pos e,Ry z f (i+1) X oV h k];by_cases m:i+1<=k/\k<i+1+f/\k≠r
   ·rw[if_pos m,if_pos ⟨oV,oV,m.2.2⟩]
   rw[if_neg m,if_neg oV]
  have C:E8 n w (X.set i (Qx v (enZ X r c) (enZ X i c) (gMZ X r) (gMZ X i))):=Lt h oV (by rw[S2];exact h.2 i oV);have u:i<X.length:=by rw[h.1];omega
  rw[if_neg e,Ry z f (i+1) _ oV C k];unfold enZ;rw[Kv u,Kv u,if_neg e];by_cases m:i=k
  ·subst m;rw[if_neg oV,if_pos rfl,if_pos ⟨oV,oV,e⟩]
  rw[if_neg m];by_cases t:i+1<=k/\k<i+1+f/\k≠r
  ·rw[if_pos t,if_pos ⟨oV,oV,t.2.2⟩]
  rw[if_neg t,if_neg oV]
def Ag4 (n:Nat)(A R:Nat->Nat->Int):Prop:=∀ i,i<n->∃ j,j<n/\A i=R j
def Ag4.swap {A R:Nat->Nat->Int}(h:Ag4 n A R)(hp:p<n)(z:r<n):Ag4 n A (rsw R p r):=fun i hi=>by
 obtain⟨j,u,e⟩:=h i hi;by_cases t:j=p
 ·subst t;refine⟨r,z,?_⟩;unfold rsw;by_cases m:r=j
  ·rw[if_pos m,e,m]
  rw[if_neg m,if_pos rfl,e]
 by_cases m:j=r
 ·subst m;exact⟨p,hp,by unfold rsw;rw[if_pos rfl,e]⟩
 exact⟨j,u,by unfold rsw;rw[if_neg t,if_neg m,e]⟩
structure Ajv (n w:Nat)(A:Nat->Nat->Int)(c:Nat)(s:BZ):Prop where
 rc:E8 n w s.X
 len:s.P.length=c
 bar:∃ R,Ag4 n A R/\Ag4 n R A/\Bar n R (fun j=>j) c s.v (enZ s.X)
def Ajp {P Q:Nat->Nat}{v:Int}{S:Nat->Nat->Int}(h:Bar n R P r v S)(e:∀ j,j<r->P j=Q j):Bar n R Q r v S:=by
 refine⟨h.v0,?_,fun i hi k=>?_,fun i u z k=>?_⟩
 ·rw[<-h.d];exact Ih fun t C i _=>by rw[e t C]
 ·rw[<-h.lo i hi];exact Cr fun j m=>by rw[e j m]
 rw[h.hi i u z];congr 1;exact Cr fun j m=>by rw[e j m]
def Ker (n:Nat)(A:Nat->Nat->Int):Prop:=∃ y:Nat->Int,(∃ j,j<n/\y j≠0)/\∀ i,i<n->Ca n (fun j=>y j*A i j)=0
theorem Ajv.step {n w:Nat}{A:Nat->Nat->Int}{c:Nat}{s:BZ}(h:Ajv n w A c s)(C:c<n):Ajv n w A (c+1) (I0 n c s)\/(Ker n A/\I0 n c s=s):=by
 obtain⟨H,F,R,E,u,z⟩:=h;unfold I0;obtain⟨Z,p2⟩:=Ac3 s.X c (n-s.P.length) s.P.length;have p3:=Abg s.X c (n-s.P.length) s.P.length;have p4:=Ade s.X c (n-s.P.length) s.P.length;generalize Iy s.X c (n-s.P.length) s.P.length=p at *
 rw[F]at Z p2 p3 p4⊢;by_cases e:p=n
 ·rw[if_pos e];refine .inr ⟨?_,rfl⟩;refine⟨fun j=>if j<c then enZ s.X j c else if j=c then-s.v else 0,⟨c,C,by simp;exact z.v0⟩,fun i hi=>?_⟩;obtain⟨K,W,U⟩:=E i hi;rw[U];have key:∀ m,m<=n->Ca m (fun j=>(if j<c then enZ s.X j c else if j=c then-s.v else 0)*R K j)=Ca (min m c) (fun j=>enZ s.X j c*R K j)+if c<m then-s.v*R K c else 0:=by
   intro m;induction m with
   |zero=>intro _;simp[Ca]
   |succ m ih =>
    intro hm;rw[Ca,ih oV];by_cases V:m<c
    ·rw[if_pos V,if_neg oV,if_neg oV,show min m c=m by omega,show min (m+1) c=m+1 by omega,Ca];omega
    grind
  rw[key n (A08 _),show min n c=c by omega,if_pos C];by_cases V:K < c
  ·rw[z.lo K V];grind
  have:=z.hi K oV W c;grind
 rw[if_neg e];have hp:p<n:=oV;refine .inl ?_;have t:E8 n w (if p=c then s.X else Kw s.X p c):=by
  split
  ·grind
  exact Uh H hp C
 have J:∀ i,gMZ (if p=c then s.X else Kw s.X p c) i=if i=c then gMZ s.X p else if i=p then gMZ s.X c else gMZ s.X i:=fun i=>by
  by_cases U:p=c
  ·grind
  rw[if_neg U];exact Wz H hp C i
 have Q:enZ (if p=c then s.X else Kw s.X p c)=rsw (enZ s.X) p c:=by
  funext i k
  unfold enZ rsw;by_cases e2:i=p
  ·grind
  grind
 have I:=z.swap Z hp;rw[<-Q]at I;have Y:enZ (if p=c then s.X else Kw s.X p c) c c=enZ s.X p c:=by unfold enZ;rw[J,if_pos rfl]
 generalize (if p=c then s.X else Kw s.X p c)=X1 at *
 have L:enZ X1 c c≠0:=by grind
 refine⟨Wu C n 0 X1 oV t,by simp[F],_,E.swap hp C,fun i hi=>by
  unfold rsw;split
  ·exact u c C
  split
  ·exact u p hp
  exact u i hi,?_⟩
 rw[<-Y];have hd:=fun i k hi T=>I.dvdAll C L i k hi T;have hs:=I.step C L (S':=enZ (Ov c c s.v n 0 X1)) (fun k=>by unfold enZ;rw[Ry C n 0 X1 oV t,if_neg oV]) (fun i hi T k=>by
  show s.v*gZ (gMZ (Ov c c s.v n 0 X1) i) k=_;rw[Ry C n 0 X1 oV t,if_pos ⟨oV,oV,T⟩,Acv _ _ _ _ _ (by rw[t.2 c C,t.2 i hi])];exact Int.mul_ediv_cancel' (hd i k hi T))
 exact Ajp hs fun j hj=>by unfold Kc;dsimp only;split<;>omega
def Avz {n c:Nat}{s:BZ}:(I0 n c s).P.length<=s.P.length+1:=by
 unfold I0;split
 ·omega
 simp
def Ako {n:Nat}:∀ (f c:Nat) (s:BZ),(Fm n f c s).P.length<=s.P.length+f
 |0,c,s=>by simp[Fm]
 |f+1,c,s=>by
  unfold Fm;have:=Ako (n:=n) f (c+1) (I0 n c s);have:=Avz (n:=n) (c:=c) (s:=s);omega
def Aci {n w:Nat}{A:Nat->Nat->Int}:∀ (f c:Nat) (s:BZ),c+f=n->Ajv n w A c s->Ajv n w A n (Fm n f c s)\/(Ker n A/\(Fm n f c s).P.length<n)
 |0,c,s,h,hf=>.inl (by
  have:c=n:=oV;subst this;exact hf)
 |f+1,c,s,h,hf=>by
  unfold Fm;rcases hf.step oV with e|⟨e,m⟩
  ·exact Aci f (c+1) _ oV e
  refine .inr ⟨e,?_⟩;rw[m];have:=Ako (n:=n) f (c+1) s;have:=hf.len;omega
theorem Za (h:E8 n w X):((Fm n n 0 ⟨X,[],1,false⟩).P.length=n/\E8 n w (Fm n n 0 ⟨X,[],1,false⟩).X/\(Fm n n 0 ⟨X,[],1,false⟩).v≠0 /\
 ∀ i,i<n->∀ k,Ca n (fun j=>enZ (Fm n n 0 ⟨X,[],1,false⟩).X j k*enZ X i j)=(Fm n n 0 ⟨X,[],1,false⟩).v*enZ X i k) \/
 (Ker n (enZ X)/\(Fm n n 0 ⟨X,[],1,false⟩).P.length<n):=by
 have h0:Ajv n w (enZ X) 0 ⟨X,[],1,false⟩:=⟨h,rfl,enZ X,fun i hi=>⟨i,hi,rfl⟩,fun i hi=>⟨i,hi,rfl⟩,Bar.init n _ _⟩;rcases Aci n 0 _ oV h0 with ⟨t,z,R,C,_,u⟩|t
 ·refine .inl ⟨z,t,u.v0,fun i hi k=>?_⟩;obtain⟨E,m,e⟩:=C i hi;rw[e];exact u.lo E m k
 grind
def zs (K:Nat):Nat->Nat
 |0=>K
 |r+1=>2*zs K r+2
end
end Go.Proofs.YtemmheaocgmebaaGreatDoor
