/- Parts of one proof, joined by a program. -/
import Derived.Test.YtemmheaocgmebaaGreatDoorS10
set_option linter.defProp false
set_option linter.unusedVariables false
set_option linter.unusedSimpArgs false
set_option linter.unusedSectionVars false
set_option maxHeartbeats 16000000
namespace Go.Proofs.YtemmheaocgmebaaGreatDoor
open Go.Proofs.Tryz
open Go.RowKit Go.MapKept
def A6c:=@List.map_eq_nil_iff
def Bgl:=@List.length_zip
def A5r:=@List.perm_append_comm
section
variable {α:Type}
def Ah4 (l:List α)(d:α):l=(List.range l.length).map fun j=>l.getD j d:=by
 refine A5l mV fun j e h=>?_;simp[A02,A01 e]
def Qa (f:α->Rat)(l:List α)(d:α):B9 f l=Bb l.length fun j=>f (l.getD j d):=by
 unfold Bb;rw[<-So (f:=f) (fun j=>l.getD j d),<-Ah4]
def F7 (n:Nat)(f g:Nat->Rat):Bb n (fun i=>f i+g i)=Bb n f+Bb n g:=L7 _
theorem Agy {n i:Nat}(t:Rat)(y:Nat->Rat):Bb n (fun j=>(if i=j/\0<i then t else 0)*y j)=if i<n/\0<i then t*y i else 0:=by
 induction n with
 |zero=>rw[Uk,if_neg oV]
 |succ n ih =>
  rw[Ds,ih];by_cases h0:0<i
  ·by_cases h:i<n
   ·rw[if_pos ⟨h,h0⟩,if_neg oV,if_pos ⟨oV,h0⟩];grind
   by_cases e:i=n
   ·rw[if_neg oV,if_pos ⟨e,h0⟩,if_pos ⟨oV,h0⟩,e];grind
   rw[if_neg oV,if_neg oV,if_neg oV];grind
  rw[if_neg oV,if_neg oV,if_neg oV];grind
end

section
variable {k:Nat}{s:Src}{ts:List Int}{u:PH}{v:Value}
def Asx {L:zW}(h:J0 u s ts)(J:k<=s.n)(C:Ac u v 1 (L.map nmV))(F:0<L.length)(H:L.length<=1000000) :
 Ag prog 51 [s.ptr,v] u (s.M k) fun v _ P=>∃ t∈L,∃ m:Nat,v=zS t/\m<=s.n/\P=s.M m:=by
 obtain⟨a,c,rfl⟩:=C.opn;rw[A03]at C⊢;refine Ag.o func51<|G.A call14 (I4 h J F H) ?_;rintro T R Q K ⟨r,m,rfl,I,E,rfl⟩ _;rw[By];obtain⟨b,off,rfl,e⟩:=Ac.at' (C.mono K) (j:=r) (e:=zS L[r]) (by simp[nmV,A01 I]);exact G.N L.length c I e<|G.r _ ⟨L[r],A09 I,m,rfl,E,rfl⟩
structure Fd (q:Rat):Prop where
 pos:0<q
 thirty:∃ p:Int,q*30=p/\p.natAbs<=90
 tx:Tx q
def Awd:∀ t∈[[49],[49,47,50],[51],[49,47,49,48],[55,47,51]],∃ q:Rat,t=Ae q/\Fd q:=by
 intro t e;simp only[A1g,A11,or_false]at e;rcases e with rfl|rfl|rfl|rfl|rfl
 ·exact⟨1,jV,jV,⟨30,jV,fV⟩,jV,jV⟩
 ·exact⟨1/2,jV,jV,⟨15,jV,fV⟩,jV,jV⟩
 ·exact⟨3,jV,jV,⟨90,jV,fV⟩,jV,jV⟩
 ·exact⟨1/10,jV,jV,⟨3,jV,fV⟩,jV,jV⟩
 exact⟨7/3,jV,jV,⟨70,jV,fV⟩,jV,jV⟩
def Afm (h:J0 u s ts)(C:k<=s.n) :
 Ag prog 12 [s.ptr] u (s.M k) fun v _ I=>∃ (q:Rat) (e:Nat),v=zS (Ae q)/\Fd q/\e<=s.n/\I=s.M e:=by
 refine Ag.o func12<|G.B 9 1 16 zE ([[49],[49,47,50],[51],[49,47,49,48],[55,47,51]].map nmV) (G6 _) ?_;intro g K H m;refine G.A call51 (Asx (L:=[[49],[49,47,50],[51],[49,47,49,48],[55,47,51]]) (h.mono H) C m.listP mV mV) ?_;rintro Q P J l2 ⟨t,F,e,rfl,j,rfl⟩ _;rw[By];obtain⟨q,rfl,E⟩:=Awd t F;exact G.r (zS (Ae q)) ⟨q,e,rfl,E,j,rfl⟩
def Afs {v t:Value}{T:zC}{R:List Br}{F:List Al}{lab:Int}{C:CF}{K k:Nat}{P:List Par}{q:Rat}(h:Te u v t T R F lab C K k P)(m:Fd q) :
 zF 59 [t,zS (Ae q)] u fun r _=>r=zI (if k=0 then 12 else 0):=by
 have e:=h.mom;obtain⟨a1,n1,c1,a2,n2,c2,rfl⟩:=id h.cof.opn;refine Fn0.o func59<|G.c call24 (Ee m.tx) ?_;rintro Q I E rfl;refine G.c call25 (Agd m.tx) ?_;rintro U J l2 rfl;refine G.kF' (sgn q.num) 0 (by rw[Acy,Ait m.pos];omega)<|G.c call25 (Agd e.tx) ?_;rintro V L H rfl;by_cases h0:k=0
 ·have j:C.c=0:=by rw[e.c,h0];rfl
  exact G.kT' (sgn C.c.num) 0 (by rw[j];decide)<|G.r (zI 12) ⟨rfl,by rw[if_pos h0]⟩
 exact G.kF' (sgn C.c.num) 0 (by rw[Acy,Ait (e.cpos h0)];omega)<|G.r zO ⟨rfl,by rw[if_neg h0]⟩
end
section
variable {X:zM}{c i n p r w:Nat}
def El (X:zM)(c:Nat):Nat->Nat->Nat
 |0,p=>p
 |f+1,p=>if gR (gM X p) c=0 then El X c f (p+1) else p
def If (X:zM)(p r:Nat):zM:=(X.set p (gM X r)).set r (gM X p)
def Kn (f:Rat)(row:zR):zR:=row.map (· / f)
def P9 (g:Rat)(R row:zR):zR:=(List.range row.length).map fun k=>gR row k-g*gR R k
def Js (r c:Nat):Nat->Nat->zM->zM
 |0,_,X=>X
 |f+1,i,X=>Js r c f (i+1) (if i=r\/gR (gM X i) c=0 then X else X.set i (P9 (gR (gM X i) c) (gM X r) (gM X i)))
def Xt (X:zM)(r c:Nat):zM:=X.set r (Kn (gR (gM X r) c) (gM X r))
def J8 (X:zM)(r c p:Nat):zM:=Js r c X.length 0 (Xt (if p=r then X else If X p r) r c)
def Bn:Nat->Nat->zK->zM->Rat->zK×zM×Rat
 |0,_,P,X,d=>(P,X,d)
 |f+1,c,P,X,d =>
  if P.length<X.length then
   if El X c (X.length-P.length) P.length=X.length then Bn f (c+1) P X d
   else Bn f (c+1) (P++[c]) (J8 X P.length c (El X c (X.length-P.length) P.length)) ((if El X c (X.length-P.length) P.length=P.length then d else 0-d)*gR (gM X (El X c (X.length-P.length) P.length)) c)
  else (P,X,d)
def Rec (n w:Nat)(X:zM):Prop:=X.length=n/\∀ i,i<n->(gM X i).length=w
def en (X:zM)(i j:Nat):Rat:=gR (gM X i) j
def Ss (X:zM)(c:Nat):∀ f p,p<=El X c f p/\El X c f p<=p+f
 |0,p=>by simp[El]
 |f+1,p=>by
  unfold El;split
  ·have:=Ss X c f (p+1);omega
  omega
def Yq (X:zM)(c:Nat):∀ f p i,p<=i->i<El X c f p->en X i c=0
 |0,p,i,h1,h2=>by simp[El]at h2;omega
 |f+1,p,i,h1,h2=>by
  unfold El at h2;split at h2
  ·rename_i h;by_cases e:i=p
   ·subst e;exact h
   exact Yq X c f (p+1) i oV h2
  omega
def W7 (X:zM)(c:Nat):∀ f p,El X c f p<p+f->en X (El X c f p) c≠0
 |0,p,h=>by simp[El]at h
 |f+1,p,h=>by
  unfold El at h⊢;split at h
  ·rename_i h0;rw[if_pos h0];exact W7 X c f (p+1) oV
  rename_i h0;rw[if_neg h0];exact h0
def I8 {r:zR}(h:Rec n w X)(hi:i<n)(m:r.length=w):Rec n w (X.set i r):=by
 refine⟨by simp[h.1],fun j e=>?_⟩;rw[Kb (by rw[h.1];exact hi)];split
 ·exact m
 exact h.2 j e
def Mk (h:Rec n w X)(hp:p<n)(e:r<n):Rec n w (If X p r) :=
 I8 (I8 h hp (h.2 r e)) e (h.2 p hp)
def Si (h:Rec n w X)(hp:p<n)(t:r<n)(i j:Nat):en (If X p r) i j=if i=r then en X p j else if i=p then en X r j else en X i j:=by
 unfold en If;rw[Kb (by simp[h.1];exact t),Kb (by rw[h.1];exact hp)];by_cases e:r=i
 ·rw[if_pos e,if_pos e.symm]
 rw[if_neg e,if_neg (show ¬ i=r by omega)];by_cases m:p=i
 ·rw[if_pos m,if_pos m.symm]
 rw[if_neg m,if_neg (show ¬ i=p by omega)]
theorem Ahx (f:Rat)(row:zR)(j:Nat):gR (Kn f row) j=gR row j/f:=by
 unfold gR Kn;rw[A02,A02,A1a];cases row[j]?<;>simp<;>grind
def Ai0 (g:Rat)(R row:zR){j:Nat}(e:j<row.length):gR (P9 g R row) j=gR row j-g*gR R j:=by
 unfold P9;exact Axo _ e
def R8 (h:Rec n w X)(e:r<n):Rec n w (Xt X r c) :=
 I8 h e (by simp[Kn,h.2 r e])
theorem Jd (h:Rec n w X)(t:r<n)(i j:Nat):en (Xt X r c) i j=if i=r then en X i j*(1/en X r c) else en X i j:=by
 unfold en Xt;rw[Kb (by rw[h.1];exact t)];by_cases e:r=i
 ·subst e;rw[if_pos rfl,if_pos rfl,Ahx];grind
 rw[if_neg e,if_neg (fun m=>e m.symm)]
def Al9 {n w r c:Nat}(e:r<n):∀ f i X,i+f<=n->Rec n w X->Rec n w (Js r c f i X)
 |0,i,X,_,h=>h
 |f+1,i,X,hf,h=>by
  unfold Js;refine Al9 e f (i+1) _ oV ?_;split
  ·exact h
  exact I8 h oV (by simp[P9,h.2 i oV])
theorem Abq (h:Rec n w X)(hi:i<n)(k j:Nat)(u:j<w):en (if i=r\/gR (gM X i) c=0 then X else X.set i (P9 (gR (gM X i) c) (gM X r) (gM X i))) k j=if k=i/\i≠r then en X i j-en X i c*en X r j else en X k j:=by
 by_cases e:i=r
 ·rw[if_pos (.inl e),if_neg oV]
 by_cases m:gR (gM X i) c=0
 ·rw[if_pos (.inr m)];split
  ·rename_i hk;rw[hk.1];unfold en;rw[m];grind
  rfl
 rw[if_neg (by simp[e,m])];unfold en;rw[Kb (by rw[h.1];exact hi)];by_cases t:i=k
 ·subst t;rw[if_pos rfl,if_pos ⟨rfl,e⟩,Ai0 _ _ _ (by rw[h.2 i hi];exact u)]
 rw[if_neg t,if_neg oV]
def Acm {n w r c:Nat}(C:r<n)(m:c<w):∀ f i X,i+f<=n->Rec n w X->∀ k j,j<w->en (Js r c f i X) k j=if i<=k/\k<i+f/\k≠r then en X k j-en X k c*en X r j else en X k j
 |0,i,X,_,h,k,j,hj=>by rw[if_neg oV];rfl
 |f+1,i,X,hf,h,k,j,hj=>by
  unfold Js;have u:Rec n w (if i=r\/gR (gM X i) c=0 then X else X.set i (P9 (gR (gM X i) c) (gM X r) (gM X i))):=by
   split
   ·exact h
   exact I8 h oV (by simp[P9,h.2 i oV])
  rw[Acm C m f (i+1) _ oV u k j hj,Abq h oV k j hj,Abq h oV k c m,Abq h oV r j hj];rw[if_neg (show ¬ (r=i/\i≠r) by omega)];by_cases t:k=i
  ·subst t;rw[if_neg oV];by_cases e:k=r
   ·rw[if_neg oV,if_neg oV]
   rw[if_pos ⟨rfl,e⟩,if_pos ⟨oV,oV,e⟩]
  rw[if_neg (show ¬ (k=i/\i≠r) by omega),if_neg (show ¬ (k=i/\i≠r) by omega)];by_cases e:i+1<=k/\k<i+1+f/\k≠r
  ·rw[if_pos e,if_pos ⟨oV,oV,e.2.2⟩]
  rw[if_neg e,if_neg oV]
def Xw (h:Rec n w X)(e:r<n)(hp:p<n):Rec n w (J8 X r c p):=by
 unfold J8;rw[h.1];refine Al9 e n 0 _ oV (R8 ?_ e);split
 ·exact h
 exact Mk h hp e
def Yb:∀ f c P X d,(Bn f c P X d).1.length<=P.length+f
 |0,c,P,X,d=>by simp[Bn]
 |f+1,c,P,X,d=>by
  unfold Bn;split
  ·split
   ·have:=Yb f (c+1) P X d;omega
   have:=Yb f (c+1) (P++[c]) (J8 X P.length c (El X c (X.length-P.length) P.length)) ((if El X c (X.length-P.length) P.length=P.length then d else 0-d)*gR (gM X (El X c (X.length-P.length) P.length)) c);rw[A1d]at this;simp at this⊢;omega
  simp
end
def And {u:PH}{v:Value}{A:zM}(h:C7 u v (Cv A))(F:Sq A):zF 61 [v] u fun v' _=>v'=.tuple #[zI A.length,zI A.length,zO]:=by
 obtain⟨a,c,rfl⟩:=h.opn;rw[A3]at h⊢;have a0:=F.le;refine Fn0.o func61 ?_;by_cases h0:0<A.length
 ·refine G.gT A.length 0 ?_;obtain⟨L,R,a1,c1,rfl,t,C⟩:=h.row (Dw (A01 h0));rw[A03,F.len h0]at t C;refine G.N A.length c h0 t ?_;clear t C;obtain⟨a,Z⟩:∃ a:zP,a=some ⟨L,R,none⟩:=⟨_,rfl⟩;rw[<-Z]at h⊢;clear Z;refine G.gF A.length 12<|G.l (ι:=Nat) (fun i=>[(0,sV a A.length c),(5,iV A.length),(21,iV A.length),(22,iV i)]) (fun _=>[])
   (fun i V E=>i<=A.length/\E=PH.mt) (fun i=>A.length-i) 0 ⟨oV,rfl⟩ ?_
  rintro J1 i H u1 m1 P ⟨hi,rfl⟩;by_cases m:i<A.length
  ·refine G.lT i A.length ?_;obtain⟨L,R,a1,c1,rfl,t,C⟩:=(h.mono P).row (Dw (A01 m));rw[A03,F.len m]at t C;exact G.N A.length c m t<|G.gF A.length 12<|G.i i<|G.b (H (i+1) _ _ _ cV P ⟨oV,rfl⟩ oV)
  obtain rfl:i=A.length:=oV;clear m;refine G.lF A.length A.length ?_;clear H;refine G.l (ι:=Nat) (fun i=>[(0,sV a A.length c),(5,iV A.length),(33,iV A.length),(34,iV i)]) (fun _=>[])
   (fun i V E=>i<=A.length/\E=PH.mt) (fun i=>A.length-i) 0 ⟨oV,rfl⟩ ?_
  rintro J2 i I u2 m2 l2 ⟨hi,rfl⟩;by_cases m:i<A.length
  ·refine G.lT i A.length ?_;obtain⟨L,R,a1,c1,rfl,t,C⟩:=(h.mono (P.trans l2)).row (Dw (A01 m));rw[A03,F.len m]at t C;exact G.N A.length c m t<|G.nF A.length A.length<|G.i i<|G.b (I (i+1) _ _ _ cV l2 ⟨oV,rfl⟩ oV)
  obtain rfl:i=A.length:=oV;clear m;refine G.lF A.length A.length ?_;clear I;refine G.l (ι:=Nat) (fun i=>[(0,sV a A.length c),(5,iV A.length),(46,iV A.length),(47,iV i)]) (fun _=>[])
   (fun i V E=>i<=A.length/\E=PH.mt) (fun i=>A.length-i) 0 ⟨oV,rfl⟩ ?_
  rintro J3 i T u3 m3 W ⟨hi,rfl⟩;by_cases m:i<A.length
  ·refine G.lT i A.length ?_;obtain⟨L,R,a1,c1,rfl,t,C⟩:=(h.mono ((P.trans l2).trans W)).row (Dw (A01 m));rw[A03,F.len m]at t C;refine G.N A.length c m t<|G.l (ι:=Nat) (fun k=>[(0,sV (some ⟨L,R,none⟩) A.length c),(5,iV A.length),(46,iV A.length),(47,iV i),(8,iV i),(54,iV A.length),(55,iV k)]) (fun _=>[])
    (fun k V E=>k<=A.length/\E=PH.mt) (fun k=>A.length-k) 0 ⟨oV,rfl⟩ ?_
   rintro J4 k U u4 m4 Q ⟨hk,rfl⟩;by_cases K:k<A.length
   ·refine G.lT k A.length ?_;have J:k<A[i].length:=by rw[F.len m];exact K
    obtain⟨b2,o2,rfl,X⟩:=Ac.at' (Ac.mono C Q) (j:=k) (e:=zS (Ae A[i][k])) (by simp[Cc,A01 J]);refine G.N A.length c m (t.mono Q)<|G.N A.length c1 K X<|G.c call24 (Ee (F.tx' m J)) ?_;rintro v5 u5 Y rfl;exact G.i k<|G.b (U (k+1) _ _ _ cV (Q.trans Y) ⟨oV,rfl⟩ oV)
   exact G.lF k A.length<|G.i i<|G.b (T (i+1) _ _ _ cV (W.trans Q) ⟨oV,rfl⟩ oV)
  exact G.lF i A.length<|G.z (.tuple #[zI A.length,zI A.length,zO])
 refine G.gF A.length 0 ?_;have hz:(A.length:Int)=0:=oV;refine G.gF A.length 12<|G.l (ι:=Nat) (fun i=>[(0,sV a A.length c),(5,iV 0),(21,iV A.length),(22,iV i)]) (fun _=>[])
  (fun i V E=>i<=A.length/\E=PH.mt) (fun i=>A.length-i) 0 ⟨oV,rfl⟩ ?_
 rintro J1 i H u1 m1 P ⟨hi,rfl⟩;by_cases m:i<A.length
 ·refine G.lT i A.length ?_;obtain⟨L,R,a1,c1,rfl,t,C⟩:=(h.mono P).row (Dw (A01 m));rw[A03,F.len m]at t C;exact G.N A.length c m t<|G.gF A.length 12<|G.i i<|G.b (H (i+1) _ _ _ cV P ⟨oV,rfl⟩ oV)
 obtain rfl:i=A.length:=oV;clear m;refine G.lF A.length A.length ?_;clear H;refine G.l (ι:=Nat) (fun i=>[(0,sV a A.length c),(5,iV 0),(33,iV A.length),(34,iV i)]) (fun _=>[])
  (fun i V E=>i<=A.length/\E=PH.mt) (fun i=>A.length-i) 0 ⟨oV,rfl⟩ ?_
 rintro J2 i I u2 m2 l2 ⟨hi,rfl⟩;by_cases m:i<A.length
 ·refine G.lT i A.length ?_;obtain⟨L,R,a1,c1,rfl,t,C⟩:=(h.mono (P.trans l2)).row (Dw (A01 m));rw[A03,F.len m]at t C;exact G.N A.length c m t<|G.nF A.length 0<|G.i i<|G.b (I (i+1) _ _ _ cV l2 ⟨oV,rfl⟩ oV)
 obtain rfl:i=A.length:=oV;clear m;refine G.lF A.length A.length ?_;clear I;refine G.l (ι:=Nat) (fun i=>[(0,sV a A.length c),(5,iV 0),(46,iV A.length),(47,iV i)]) (fun _=>[])
  (fun i V E=>i<=A.length/\E=PH.mt) (fun i=>A.length-i) 0 ⟨oV,rfl⟩ ?_
 rintro J3 i T u3 m3 W ⟨hi,rfl⟩;by_cases m:i<A.length
 ·refine G.lT i A.length ?_;obtain⟨L,R,a1,c1,rfl,t,C⟩:=(h.mono ((P.trans l2).trans W)).row (Dw (A01 m));rw[A03,F.len m]at t C;refine G.N A.length c m t<|G.l (ι:=Nat) (fun k=>[(0,sV (some ⟨L,R,none⟩) A.length c),(5,iV 0),(46,iV A.length),(47,iV i),(8,iV i),(54,iV A.length),(55,iV k)]) (fun _=>[])
   (fun k V E=>k<=A.length/\E=PH.mt) (fun k=>A.length-k) 0 ⟨oV,rfl⟩ ?_
  rintro J4 k U u4 m4 Q ⟨hk,rfl⟩;by_cases K:k<A.length
  ·refine G.lT k A.length ?_;have J:k<A[i].length:=by rw[F.len m];exact K
   obtain⟨b2,o2,rfl,X⟩:=Ac.at' (Ac.mono C Q) (j:=k) (e:=zS (Ae A[i][k])) (by simp[Cc,A01 J]);refine G.N A.length c m (t.mono Q)<|G.N A.length c1 K X<|G.c call24 (Ee (F.tx' m J)) ?_;rintro v5 u5 Y rfl;exact G.i k<|G.b (U (k+1) _ _ _ cV (Q.trans Y) ⟨oV,rfl⟩ oV)
  exact G.lF k A.length<|G.i i<|G.b (T (i+1) _ _ _ cV (W.trans Q) ⟨oV,rfl⟩ oV)
 exact G.lF i A.length<|G.r (.tuple #[zI A.length,zO,zO]) ⟨rfl,by rw[hz]⟩
section
variable {n:Nat}
structure B3 where
 b:Bool
 a:zP
 n:Nat
 c:Nat
def bv (f:B3):Value:=.agg #[.bool f.b,.slice f.a f.n f.c]
def bc (f:B3):List SV:=[.v (.bool f.b),.v (.slice f.a f.n f.c)]
def Do.opB {u:PH}{v:Value}{z:Int}(h:Do u v z):∃ f,v=bv f:=by
 obtain⟨b,a,n,c,rfl,_⟩:=h.opn;exact⟨⟨b,a,n,c⟩,rfl⟩
def nl1 (h:n<1000000000):nl n<=1:=A4 (by simpa using h)
def nlN (h:n<1000000000):nl ((n:Int)).natAbs<=1:=by rw[A1s];exact nl1 h
end
structure Q4 where
 b:Bool
 a:zP
 n:Nat
 c:Nat
 a':zP
 n':Nat
 c':Nat
def qv (f:Q4):Value:=.agg #[.bool f.b,.slice f.a f.n f.c,zL,.slice f.a' f.n' f.c']
def qc (f:Q4):List SV:=[.v (.bool f.b),.v (.slice f.a f.n f.c),.v zL,.v (.slice f.a' f.n' f.c')]
def QP.opQ {u:PH}{v:Value}{q:Rat}(h:QP u v q):∃ f,v=qv f:=by
 obtain⟨b,a,n,c,e,n',j,rfl,_⟩:=h.opn;exact⟨⟨b,a,n,c,e,n',j⟩,rfl⟩
section
variable {M:zM}{m m0 u:PH}{q:zR}{r:Value×zV}{rows:List (Value×zV)}{v:Value}
def zQ:Value:=.agg #[zL,zN,zL,zN]
def Akh (f:Q4):A9 4 [qv f]:=by
 intro x e;simp at e;subst e;exact⟨rfl,fun y h=>by simp[qv,Value.cells]at h;rcases h with rfl|rfl|rfl|rfl<;>rfl⟩
def Ej (r:Value×zV):Arr:=⟨r.1,69,4,r.2⟩
def oQ (v:Value)(rows:List (Value×zV)):Arr:=⟨v,131,1,rows.map (·.1)⟩
def Rg :(Ej r).At m0 m=Af m0 m r.1 69 4 r.2:=rfl
def Al7 :(oQ v rows).At m0 m=Af m0 m v 131 1 (rows.map (·.1)):=rfl
def QAt (u:PH)(rows:List (Value×zV))(M:zM):Prop:=rows.length=M.length/\∀ (i:Nat) (r:Value×zV),rows[i]?=some r->AtP QP u r.2 (gM M i)
def QAt.mono {u e:PH}{rows:List (Value×zV)}{M:zM}(h:QAt u rows M)(j:PH.le u e):QAt e rows M:=⟨h.1,fun i r t=>(h.2 i r t).mono (fun _ _ k=>k.mono j)⟩
def QAt.set {i:Nat}(h:QAt u rows M)(hi:i<rows.length)(C:AtP QP u r.2 q):QAt u (rows.set i r) (M.set i q):=by
 refine⟨by simp[h.1],fun j r' t=>?_⟩;rw[Kb (by rw[<-h.1];exact hi)];rw[A1z]at t;by_cases e:i=j
 ·subst e;rw[if_pos rfl,if_pos hi]at t;simp only[A1f]at t;rw[if_pos rfl,<-t];exact C
 rw[if_neg e]at t⊢;exact h.2 j r' t
def QAt.snoc (h:QAt u rows M)(j:AtP QP u r.2 q):QAt u (rows++[r]) (M++[q]):=by
 refine⟨by simp[h.1],fun i r' hi=>?_⟩;rw[Avd];by_cases e:i<rows.length
 ·rw[A1r e]at hi;rw[if_pos (by rw[<-h.1];exact e)];exact h.2 i r' hi
 rw[A18 oV]at hi;have t:i-rows.length=0:=by
  rcases A2a (i-rows.length) with h0|h0
  ·exact h0
  rw[A1v gV]at hi;cases hi
 rw[t]at hi;simp at hi;subst hi;rw[if_neg (by rw[<-h.1];exact e),if_pos (by rw[<-h.1];omega)];exact j
def M2 {α:Type}{l:List α}{k:Nat}(h:k<l.length):l.take (k+1)=l.take k++[l[k]]:=by
 rw[A1n,A01 h];rfl
def Ane {A:zM}(h:C7 u v (Cv A))(hs:Sq A) :
 Ag prog 62 [v] u PH.mt fun v' u' m'=>∃ a c rows,v'=.slice a A.length c/\QAt u' rows A/\Bag m' (oQ (.slice a A.length c) rows::rows.map Ej):=by
 obtain⟨a0,c0,rfl⟩:=h.opn;rw[A3]at h⊢;have a5:=hs.le;refine Ag.o func62<|G.l (ι:=Nat×(zP×Nat)×List (Value×zV)) (fun i=>[(0,sV a0 A.length c0),(3,sV i.2.1.1 i.1 i.2.1.2),(9,iV A.length),(10,iV i.1)]) (fun _=>[])
  (fun i u' m'=>i.1<=A.length/\QAt u' i.2.2 (A.take i.1)/\Bag m' (oQ (.slice i.2.1.1 i.1 i.2.1.2) i.2.2::i.2.2.map Ej))
  (fun i=>A.length-i.1) (0,(none,0),[]) ⟨A1t _,⟨rfl,fun j r hj=>by simp at hj⟩,PH.mt,Af.nil _ _ _,trivial⟩ ?_
 rintro J ⟨i,⟨a,c⟩,rows⟩ hJ u1 m1 l1 ⟨hi,Y,F⟩;simp only at hi Y F hJ;have a4:rows.length=i:=by rw[Y.1,A1e];omega
 by_cases H:i<A.length
 ·refine G.lT i A.length ?_;obtain⟨b1,o1,a1,c1,rfl,e1,e2⟩:=(h.mono l1).row (Dw (A01 H));have T:=hs.len H;rw[A03,T]at e1 e2;refine G.N A.length c0 H e1<|G.l (ι:=Nat×(zP×Nat)×zV) (fun j=>[(0,sV (some ⟨b1,o1,none⟩) A.length c0),(3,sV a i c),(9,iV A.length),(10,iV i),(5,sV j.2.1.1 j.1 j.2.1.2),(16,sV a1 A.length c1),(17,iV A.length),(18,iV j.1)]) (fun _=>[])
   (fun j u' m'=>j.1<=A.length/\AtP QP u' j.2.2 (A[i].take j.1)/\Bag m' (Ej (.slice j.2.1.1 j.1 j.2.1.2,j.2.2)::oQ (.slice a i c) rows::rows.map Ej))
   (fun j=>A.length-j.1) (0,(none,0),[]) ⟨A1t _,AtP.nil,m1,Af.nil _ _ _,F⟩ ?_
  rintro J2 ⟨j,⟨K,L⟩,es⟩ X u2 m2 l2 ⟨hj,E,C⟩;simp only at hj E C X;have a3:es.length=j:=by rw[E.1,A1e];omega
  by_cases P:j<A.length
  ·refine G.lT j A.length ?_;have U:j<A[i].length:=by rw[T];exact P
   obtain⟨b2,o2,rfl,e3⟩:=Ac.at' (Ac.mono e2 l2) (j:=j) (e:=zS (Ae A[i][j])) (by simp[Cc,A01 U]);refine G.N A.length c1 P e3<|G.c call27 (G8 (hs.tx' H U)) ?_;intro v4 u4 l4 k4;obtain⟨W,rfl⟩:=k4.opQ;refine G.B 69 4 64 zQ [qv W] (Akh W) ?_;intro g5 u5 V e5;obtain⟨mm,I,a2⟩:=C;rw[Rg]at I;refine G.append 69 4 64 zQ mm es [qv W] (.slice K j L) g5 0 1 1 kV rfl rfl oV I e5 (Akh W) rfl oV oV oV ?_;intro v6 m6 t;obtain⟨a6,c6,rfl⟩:=t.shape;have el:(es++[qv W]).length=j+1:=by simp[a3]
   rw[el]at t⊢;refine G.i j<|G.b (X (j+1,(a6,c6),es++[qv W]) _ _ _ cV ((l2.trans l4).trans V) ⟨dV,?_,mm,t,a2⟩ dV);dsimp only;rw[M2 U];exact (E.mono (fun _ _ k=>k.mono (l4.trans V))).snoc (k4.mono V)
  obtain rfl:j=A.length:=oV;refine G.lF A.length A.length ?_;have hA:A[i].take A.length=A[i]:=by rw[<-T];exact A15
  rw[hA]at E;refine G.B 131 1 24 zN [.slice K A.length L] (B5 _ _ _) ?_;intro g5 u5 V e5;obtain⟨m0,I,Z⟩:=C.focus 1 rfl;rw[Al7]at I;refine G.k 131 1 24 zN m0 (rows.map (·.1)) [.slice K A.length L] (.slice a i c) g5 0 1 1 I e5 (B5 _ _ _) ?_;intro v6 m6 t;have em:rows.map (·.1)++[Value.slice K A.length L]=(rows++[(Value.slice K A.length L,es)]).map (·.1):=mV;rw[em]at t;obtain⟨a6,c6,rfl⟩:=t.shape;have el:((rows++[(Value.slice K A.length L,es)]).map (·.1)).length=i+1:=by simp[a4]
  rw[el]at t⊢;have Q:=Z (oQ (.slice a6 (i+1) c6) (rows++[(Value.slice K A.length L,es)])) m6 t;have R:=Bag.perm Aff Q;refine G.i i<|G.b (hJ (i+1,(a6,c6),rows++[(Value.slice K A.length L,es)]) _ _ _ cV ((l1.trans l2).trans V) ⟨dV,?_,by simpa using R⟩ dV);dsimp only;rw[M2 H];exact (Y.mono (l2.trans V)).snoc (E.mono (fun _ _ k=>k.mono V))
 obtain rfl:i=A.length:=oV;refine G.lF A.length A.length ?_;rw[A15]at Y;exact G.r (.slice a A.length c) ⟨a,c,rows,rfl,Y,F⟩
end
section
variable {R Y:zR}{X:zM}{i k n s w:Nat}{r:Value×zV}{rows:List (Value×zV)}{v:Value}
def Np (v:Value)(P:zK):Arr:=⟨v,3,1,Ai P⟩
def Aka {P:zK}{m0 m:PH}:(Np v P).At m0 m=Af m0 m v 3 1 (Ai P):=rfl
def Ka {s o:Arr}(h:rows[i]?=some r):(s::o::rows.map Ej)[i+2]?=some (Ej r):=by simp[h]
def Afw {s o:Arr}:(s::o::rows.map Ej).set (i+2) (Ej r)=s::o::(rows.set i r).map Ej:=by
 rw[A2j,A2j,A2g]
def Apm {x:Value}{es es':zV}(h:rows[i]?=some (x,es)):oQ v (rows.set i (x,es'))=oQ v rows:=by
 unfold oQ;rw[Un (r':=(x,es')) h rfl]
def Agr {u m:PH}{pa:Arr}{g n c w i:Nat}(C:Bag m (pa::oQ (zG g n c) rows::rows.map Ej))(Q:QAt u rows X)(L:Rec n w X)(hi:i<n)(W:0<w) :
 ∃ H J F,rows[i]?=some (zG H w J,F)/\F.length=w/\AtP QP u F (gM X i)/\ElP m g (0+i*1) (zG H w J)/\∀ j,j<w->∃ f,F[j]?=some (qv f)/\QP u (qv f) (gR (gM X i) j)/\ElP m H (0+j*4) (qv f):=by
 have V:rows.length=n:=by rw[Q.1,L.1]
 have h:rows[i]?=some rows[i]:=A01 oV;have t:=Q.2 i _ h;obtain⟨⟨Z,F⟩,T⟩:∃ x,rows[i]=x:=⟨_,rfl⟩;rw[T]at h t;simp only at t;have E:F.length=w:=by rw[t.1,L.2 i hi]
 obtain⟨H,J,e⟩:=C.ptr (i+2) (Ka h) (by intro e;simp only[Ej]at e;rw[e]at E;simp at E;omega);simp only[Ej]at e;rw[E]at e;subst e;refine⟨H,J,F,h,E,t,C.el 1 (x:=oQ _ rows) rfl rfl (by show (rows.map (·.1))[i]?=_;rw[A1a,h];rfl),fun j U=>?_⟩;have I:j<(gM X i).length:=by rw[L.2 i hi];exact U
 obtain⟨e,P,K⟩:=t.at I;obtain⟨f,rfl⟩:=K.opQ;rw[<-Cu I]at K;exact⟨f,P,K,C.el (i+2) (x:=Ej _) (Ka h) rfl P⟩
def es (s:Nat):Nat->Nat
 |0=>s
 |k+1=>4*es s k+2
def Apd (s:Nat){k l:Nat}(h:k<=l):es s k<=es s l:=by
 induction l with
 |zero =>
  have:k=0:=oV;subst this;exact A08 _
 |succ l ih =>
  rcases A2e k (l+1) with e|e
  ·have:=ih oV;show es s k<=4*es s l+2;omega
  have:k=l+1:=oV;subst this;exact A08 _
def Axr (h:1<=s)(k:Nat):1<=es s k:=A04 h (Apd s (A1t k))
def SzM.at {n w s i j:Nat}(h:SzM X s)(e:Rec n w X)(hi:i<n)(m:j<w):Sz (gR (gM X i) j) s:=h i j (by rw[e.1];exact hi) (by rw[e.2 i hi];exact m)
def Aco (e:Rec n w X)(h:∀ i j,i<n->j<w->Sz (gR (gM X i) j) s):SzM X s:=fun i j hi m=>by
 rw[e.1]at hi;rw[e.2 i hi]at m;exact h i j hi m
def Az7 {q:Rat}:decide (q.num=0)=decide (q=0):=decide_eq_decide.2 A4r
def Tj (Y R:zR)(k:Nat):zR:=Y.take k++R.drop k
def Aa3 (Y R:zR):Tj Y R 0=R:=by simp[Tj]
def Ad7 (h:Y.length=k)(e:R.length=k):Tj Y R k=Y:=by
 unfold Tj;rw[A1j oV,A2b oV,A1x]
def Agl (h:Y.length=R.length)(e:k<=R.length):(Tj Y R k).length=R.length:=by simp[Tj];omega
def Af8 (h:Y.length=R.length)(e:k<R.length):(Tj Y R k).set k (gR Y k)=Tj Y R (k+1):=by
 unfold Tj;rw[A4t _ _ gV];simp only[A1e];rw[show k-min k Y.length=0 by omega,A5z e,A2p,M2 oV,A2k,Cu oV];rfl
def Al3 (h:Y.length=R.length)(e:k<R.length):gR (Tj Y R k) k=gR R k:=by
 unfold Tj gR;rw[A02,A18 gV,A02];simp only[A1e];rw[show k-min k Y.length=0 by omega,A39];rfl
end
structure ES where
 c:Nat
 P:zK
 pa:zP
 pc:Nat
 rows:List (Value×zV)
 X:zM
 f:Q4
 d:Rat
structure E2 where
 rows:List (Value×zV)
 X:zM
 f:Q4
 d:Rat
def Ai8 {n w p r E:Nat}{X:zM}(h:Rec n w X)(hp:p<n)(m:r<n)(t:SzM X E):Rec n w (if p=r then X else If X p r)/\SzM (if p=r then X else If X p r) E/\∀ j,gR (gM (if p=r then X else If X p r) r) j=gR (gM X p) j:=by
 by_cases e:p=r
 ·rw[if_pos e];exact⟨h,t,fun j=>by rw[e]⟩
 rw[if_neg e];refine⟨Mk h hp m,Aco (Mk h hp m) (fun i j hi u=>?_),fun j=>?_⟩
 ·show Sz (en (If X p r) i j) E;rw[Si h hp m];split
  ·exact t.at h hp u
  split
  ·exact t.at h m u
  exact t.at h hi u
 show en (If X p r) r j=_;rw[Si h hp m,if_pos rfl];rfl
def Ny {α:Type}{l:List α}{i:Nat}{x:α}(h:l[i]?=some x):l.set i x=l:=by
 obtain⟨e,j⟩:=A05.1 h;rw[<-j];exact A9w e
def Ary (F:Rat)(R:zR):(Kn F R).length=R.length:=by simp[Kn]
def Apn (g:Rat)(R S:zR):(P9 g R S).length=S.length:=by simp[P9]
def Apb {u m:PH}{a:zP}{C:Nat}{a7:List (Value×zV)}{X0:zM}{n w h s:Nat}(d8:Rec n w X0)(hn:n<=100)(hw:w<=100)(dw:h<=w)(bi:SzM X0 s)(hs:1<=s)(bs:es s h<=1000000000)
 (cc:QAt u a7 X0) (ap:Bag m (oQ (.slice a n C) a7::a7.map Ej)) :
 Ag prog 139 [.slice a n C,zI h] u m fun v u' m'=>∃ pa pc f T,v=.tuple #[.slice pa (Bn h 0 [] X0 1).1.length pc,qv f]/\QP u' (qv f) (Bn h 0 [] X0 1).2.2/\QAt u' T (Bn h 0 [] X0 1).2.1 /\
  Bag m' (Np (.slice pa (Bn h 0 [] X0 1).1.length pc) (Bn h 0 [] X0 1).1::oQ (.slice a n C) T::T.map Ej):=by
 refine Ag.o func139<|G.c call22 (P6 (z:=1) oV oV) ?_;intro v1 u1 l1 k1;rw[show ((1:Int):Rat)=1 from by decide]at k1;obtain⟨f1,rfl⟩:=k1.opQ;refine G.l (ι:=ES) (fun i=>[(0,sV a n C),(1,iV h),(5,.p 1 0),(6,sV i.pa i.P.length i.pc),(7,.p 2001 0),(8,iV i.c)]) (fun i=>[(1,⟨69,[bF,sN,bF,sN]⟩),(2001,⟨69,qc i.f⟩)])
  (fun i u' m'=>i.c<=h/\i.P.length<=i.c/\Bn (h-i.c) i.c i.P i.X i.d=Bn h 0 [] X0 1/\Rec n w i.X/\SzM i.X (es s i.c)/\Sz i.d (es s i.c)/\QP u' (qv i.f) i.d/\QAt u' i.rows i.X/\Bag m' (Np (.slice i.pa i.P.length i.pc) i.P::oQ (.slice a n C) i.rows::i.rows.map Ej))
  (fun i=>h-i.c) ⟨0,[],none,0,a7,X0,f1,1⟩ ⟨A1t _,A08 _,rfl,d8,bi,(Adt (z:=1) fV).mono hs,k1,cc.mono l1,m,Af.nil _ _ _,ap⟩ ?_
 rintro J ⟨c,P,pa,pc,I,X,f,d⟩ hJ u2 m2 l2 ⟨hc,d7,a0,hX,an,ad,hf,hQ,V⟩;simp only at hc d7 a0 hX an ad hf hQ V hJ;clear ap cc bi k1;have aq:Bn (h-c) c P X d=(P,X,d)->∃ d3 d4 f' T,(Value.tuple #[.slice pa P.length pc,qv f])=.tuple #[.slice d3 (Bn h 0 [] X0 1).1.length d4,qv f']/\QP u2 (qv f') (Bn h 0 [] X0 1).2.2/\QAt u2 T (Bn h 0 [] X0 1).2.1/\Bag m2 (Np (.slice d3 (Bn h 0 [] X0 1).1.length d4) (Bn h 0 [] X0 1).1::oQ (.slice a n C) T::T.map Ej):=by
  intro e;rw[e]at a0;rw[<-a0];exact⟨pa,pc,f,I,rfl,hf,hQ,V⟩
 by_cases dh:h<=c
 ·exact G.lF c h<|G.r (.tuple #[.slice pa P.length pc,qv f]) (aq (by rw[show h-c=0 by omega];rfl))
 have dh:c<h:=oV;refine G.lT c h ?_;obtain⟨K,hK⟩:∃ K,h-c=K+1:=⟨h-c-1,oV⟩;by_cases hP:n<=P.length
 ·exact G.lF P.length n<|G.r (.tuple #[.slice pa P.length pc,qv f]) (aq (by rw[hK,Bn,if_neg (by rw[hX.1];omega)]))
 clear aq;have hP:P.length<n:=oV;refine G.lT P.length n ?_;have b1:0<w:=oV;have c0:I.length=n:=by rw[hQ.1,hX.1]
 obtain⟨go,ds,eo⟩:=V.ptr 1 rfl (by intro e;simp only[oQ,A6c]at e;rw[e]at c0;simp at c0;omega);simp only[oQ,A03,c0,Value.slice.injEq,true_and]at eo;obtain⟨rfl,rfl⟩:=eo;have df:=Axr hs c;have cn:4*es s c+2<=1000000000:=A04 (Apd s (show c+1<=h by omega)) bs;obtain⟨E,hE⟩:∃ E,E=es s c:=⟨_,rfl⟩;have c7:es s (c+1)=4*E+2:=by rw[hE];rfl
 rw[<-hE]at an ad df cn;refine G.l (ι:=Nat) (fun p=>[(0,sV (zA go) n C),(1,iV h),(5,.p 1 0),(6,sV pa P.length pc),(7,.p 2001 0),(8,iV c),(9,iV P.length),(10,iV p)]) (fun _=>[(1,⟨69,[bF,sN,bF,sN]⟩),(2001,⟨69,qc f⟩)])
  (fun p u' m'=>P.length<=p/\p<=n/\El X c (n-p) p=El X c (n-P.length) P.length/\m'=m2) (fun p=>n-p) P.length ⟨A08 _,oV,rfl,rfl⟩ ?_
 rintro J2 p ca u3 m3 l3 ⟨dy,dz,aw,rfl⟩;have L:=hQ.mono l3;have b8:=hf.mono l3;by_cases ab:n<=p
 ·obtain rfl:p=n:=oV;refine G.lF p p<|G.eT' p p rfl<|G.i c<|G.b (hJ ⟨c+1,P,pa,pc,I,X,f,d⟩ _ _ _ cV (l2.trans l3) ⟨dV,dV,?_,hX,an.mono dV,ad.mono dV,b8,L,V⟩ dV);dsimp only;rw[<-a0,hK,Bn,if_pos (by rw[hX.1];exact hP),hX.1,<-aw,if_pos (by rw[A4i];rfl),show h-(c+1)=K by omega]
 have ab:p<n:=oV;refine G.lT p n ?_;obtain⟨K2,bm⟩:∃ K2,n-p=K2+1:=⟨n-p-1,oV⟩;obtain⟨gp,cp,ep,cv,dk,c6,av,cl⟩:=Agr V L hX ab b1;obtain⟨fp,dj,cq,ct⟩:=cl c oV;have bj:=an.at hX ab (show c<w by omega);refine G.O n C ab av<|G.o w cp ct<|G.c call81 (Nt cq (A04 bj.1 oV)) ?_;rintro v4 u4 l4 rfl;rw[Az7];by_cases hz:gR (gM X p) c=0
 ·rw[decide_eq_true hz];refine G.i p<|G.b (ca (p+1) _ _ _ cV (l3.trans l4) ⟨oV,oV,?_,rfl⟩ oV);rw[<-aw,bm,El,if_pos hz,show n-(p+1)=K2 by omega]
 rw[decide_eq_false hz];rw[bm,El,if_neg hz]at aw;clear ca;refine G.eF p n<|G.join (ι:=E2) zL (fun i=>[(0,sV (zA go) n C),(1,iV h),(5,.p 1 0),(6,sV pa P.length pc),(7,.p 2001 0),(8,iV c),(9,iV P.length)]) (fun i=>[(1,⟨69,[bF,sN,bF,sN]⟩),(2001,⟨69,qc i.f⟩)])
  (fun i u' m'=>i.X=(if p=P.length then X else If X p P.length)/\i.d=(if p=P.length then d else 0-d)/\QAt u' i.rows i.X/\QP u' (qv i.f) i.d/\Bag m' (Np (.slice pa P.length pc) P::oQ (zG go n C) i.rows::i.rows.map Ej)) (fun _=>kV) kV ?tail ?way
 case way =>
  intro au;by_cases bb:p=P.length
  ·refine G.nF p P.length ?_;exact au ⟨I,X,f,d⟩ _ _ _ kV cV (PH.le_refl _) ⟨by rw[if_pos bb],by rw[if_pos bb],L.mono l4,b8.mono l4,V⟩
  refine G.nT p P.length ?_;obtain⟨gr,cr,er,am,bh,ao,al,bq⟩:=Agr V L hX hP b1;refine G.O n C hP al<|G.O n C ab av ?_;obtain⟨m0,a1,a8⟩:=V.focus 1 rfl;rw[Al7]at a1;refine G.a go 0 n C p 1 ab<|G.storeA 1 m0 _ go n C p (zG gr w cr) kV a1 gV rfl rfl ?_;intro m5 dm;refine G.a go 0 n C P.length 1 hP<|G.storeA 1 m0 _ go n C P.length (zG gp w cp) kV dm gV rfl rfl ?_;intro m6 cy;have c1:((I.map (·.1)).set p (Value.slice (zA gr) w cr)).set P.length (Value.slice (zA gp) w cp)=((I.set p (Value.slice (zA gr) w cr,er)).set P.length (Value.slice (zA gp) w cp,ep)).map (·.1):=by rw[A2g,A2g]
  rw[c1]at cy;have d9:=a8 (oQ (zG go n C) ((I.set p (Value.slice (zA gr) w cr,er)).set P.length (Value.slice (zA gp) w cp,ep))) m6 cy;have bx:((I.set p (Value.slice (zA gr) w cr,er)).set P.length (Value.slice (zA gp) w cp,ep)).Perm I:=by
   obtain⟨q1,q2⟩:=A05.1 cv;obtain⟨q3,q4⟩:=A05.1 am;rw[<-q2,<-q4];exact List.set_set_perm q1 q3
  have da:=Bag.perm (List.Perm.cons _ (List.Perm.cons _ (bx.symm.map Ej))) d9;have aa:=(L.set (i:=p) (r:=(Value.slice (zA gr) w cr,er)) oV ao).set (i:=P.length) (r:=(Value.slice (zA gp) w cp,ep)) gV c6;refine G.c call22 (P6 (z:=0) oV oV) ?_;intro v8 u8 l8 k8;rw[show ((0:Int):Rat)=0 from by decide]at k8;obtain⟨f8,rfl⟩:=k8.opQ;refine G.c call32 (Adl k8 (b8.mono (l4.trans l8)) (Q3.mono oV) (ad.mono oV)) ?_;intro v9 u9 l9 k9;obtain⟨f9,rfl⟩:=k9.opQ;exact au ⟨(I.set p (Value.slice (zA gr) w cr,er)).set P.length (Value.slice (zA gp) w cp,ep),If X p P.length,f9,0-d⟩ _ _ _ kV cV (l8.trans l9) ⟨by rw[if_neg bb],by rw[if_neg bb],aa.mono (l4.trans (l8.trans l9)),k9,da⟩
 rintro⟨rows1,X1,f1',d1⟩ u5 m5 l5 ⟨hX1e,hd1e,aa,hf1,hbag1⟩;simp only at hX1e hd1e aa hf1 hbag1;obtain⟨a5,ah,af⟩:=Ai8 hX ab hP an;have ay:Sz (if p=P.length then d else 0-d) (E+2):=by
  split
  ·exact ad.mono oV
  exact (Akj Q3 ad).mono oV
 have az:Bn (h-c) c P X d=Bn (h-(c+1)) (c+1) (P++[c]) (Js P.length c n 0 (Xt X1 P.length c)) (d1*gR (gM X1 P.length) c):=by
  rw[hK,Bn,if_pos (by rw[hX.1];exact hP),hX.1,<-aw,if_neg oV,show h-(c+1)=K by omega,hX1e,hd1e,af];unfold J8;rw[hX.1]
 rw[<-hX1e]at a5 ah af;rw[<-hd1e]at ay;rw[az]at a0;have bd:gR (gM X1 P.length) c≠0:=by rw[af];exact hz
 clear az hX1e hd1e af V hQ L b8 hf an ad aw cv dk c6 av cl dj cq ct bj hz bm;have cu:rows1.length=n:=by rw[aa.1,a5.1]
 obtain⟨gr,cr,er,am,bh,ao,al,bq⟩:=Agr hbag1 aa a5 hP b1;obtain⟨fr,h5,h6,h7⟩:=bq c oV;obtain⟨R,hR⟩:∃ R,R=gM X1 P.length:=⟨_,rfl⟩;have cd:R.length=w:=by rw[hR];exact a5.2 _ hP
 have bp:∀ j,j<w->Sz (gR R j) E:=fun j hj=>by rw[hR];exact ah.at a5 hP hj
 rw[<-hR]at h6 ao a0;obtain⟨F,hF⟩:∃ F,F=gR R c:=⟨_,rfl⟩;have b4:Sz F E:=by rw[hF];exact bp c oV
 rw[<-hF]at h6 a0;rw[<-hR,<-hF]at bd;refine G.O n C hP al<|G.o w cr h7<|G.c call28 (Gh hf1 h6 (ay.mono oV) (b4.mono oV)) ?_;intro v6 u6 l6 k6;obtain⟨f6,rfl⟩:=k6.opQ;refine G.O n C hP al<|G.o w cr h7<|G.O n C hP al ?_;have br:=Ary F R;have c8:F≠0:=bd;refine G.l (ι:=Nat×zV) (fun i=>[(0,sV (zA go) n C),(1,iV h),(5,.p 1 0),(6,sV pa P.length pc),(7,.p 2001 0),(8,iV c),(9,iV P.length),(11,.p 15007 0),(92,iV w),(93,iV i.1)]) (fun i=>[(1,⟨69,[bF,sN,bF,sN]⟩),(2001,⟨69,qc f6⟩),(15007,⟨69,qc fr⟩)])
  (fun i u' m'=>i.1<=w/\AtP QP u' i.2 (Tj (Kn F R) R i.1)/\Bag m' (Np (.slice pa P.length pc) P::oQ (zG go n C) rows1::(rows1.set P.length ((Value.slice (zA gr) w cr),i.2)).map Ej)) (fun i=>w-i.1) (0,er)
  ⟨A1t _,by rw[Aa3];exact ao.mono (fun _ _ k=>k.mono l6),by rw[Ny am];exact hbag1⟩ ?_
 rintro J3 ⟨k,es1⟩ bl u7 m7 l7 ⟨hk,U,H⟩;simp only at hk U H bl;have ba:=Agl (k:=k) (br.trans rfl) oV;have cm:es1.length=w:=by rw[U.1,ba,cd]
 have a2:(rows1.set P.length ((Value.slice (zA gr) w cr),es1))[P.length]?=some ((Value.slice (zA gr) w cr),es1):=by rw[A1z];simp[cu,hP]
 by_cases b9:k<w
 ·refine G.lT k w ?_;obtain⟨e,e1,e2⟩:=U.at (j:=k) oV;obtain⟨fe,rfl⟩:=e2.opQ;rw[<-Cu oV,Al3 br oV]at e2;have ho:ElP m7 go (0+P.length*1) (Value.slice (zA gr) w cr):=H.el 1 (x:=oQ (zG go n C) rows1) rfl rfl (by show (rows1.map (·.1))[P.length]?=_;rw[A1a,am];rfl);have he:ElP m7 gr (0+k*4) (qv fe):=H.el (P.length+2) (x:=Ej ((Value.slice (zA gr) w cr),es1)) (Ka a2) rfl e1;refine G.O n C hP ho<|G.O n C hP ho<|G.O w cr b9 he<|G.c call82 (At6 e2 (h6.mono (l6.trans l7)) ((bp k b9).mono oV) (b4.mono oV) c8) ?_;intro v8 u8 l8 k8;obtain⟨f8,rfl⟩:=k8.opQ;obtain⟨m0,a1,a8⟩:=H.focus (P.length+2) (Ka a2);rw[Rg]at a1;refine G.a gr 0 w cr k 4 b9<|G.storeA 4 m0 es1 gr w cr k (qv f8) kV a1 oV rfl rfl ?_;intro m9 dp;have cj:=a8 (Ej ((Value.slice (zA gr) w cr),es1.set k (qv f8))) m9 dp;rw[Afw,A6r]at cj;refine G.i k<|G.b (bl (k+1,es1.set k (qv f8)) _ _ _ cV (l7.trans l8) ⟨dV,?_,cj⟩ dV);dsimp only;rw[<-Af8 br oV,Ahx];exact (U.mono (fun _ _ k=>k.mono l8)).set k k8
 obtain rfl:k=w:=oV;refine G.lF k k ?_;rw[Ad7 oV cd]at U;clear bl ba b9 hk h7 al bq h5;have b6:Rec n k (X1.set P.length (Kn F R)):=I8 a5 hP oV;have be:Xt X1 P.length c=X1.set P.length (Kn F R):=by unfold Xt;rw[<-hR,<-hF]
 rw[be]at a0;have bo:=(aa.mono (l6.trans l7)).set (i:=P.length) (r:=((Value.slice (zA gr) k cr),es1)) oV U;rw[<-Apm (es':=es1) am]at H;have a6:∀ i,gM (X1.set P.length (Kn F R)) i=if P.length=i then Kn F R else gM X1 i:=fun i=>Kb (by rw[a5.1];exact hP)
 generalize rows1.set P.length ((Value.slice (zA gr) k cr),es1)=rows2 at *
 obtain⟨X2,bf⟩:∃ X2,X2=X1.set P.length (Kn F R):=⟨_,rfl⟩;rw[<-bf]at b6 bo a0 a6;have b7:∀ j,j<k->Sz (gR (Kn F R) j) (2*E):=fun j hj=>by rw[Ahx];exact (Arz (bp j hj) b4 c8).mono oV
 have b0:∀ i j,i<n->j<k->i≠P.length->Sz (gR (gM X2 i) j) E:=fun i j hi hj bu=>by rw[a6,if_neg (fun e=>bu e.symm)];exact ah.at a5 hi hj
 have ax:gM X2 P.length=Kn F R:=by rw[a6,if_pos rfl]
 clear bf be aa hbag1 a6 ah a5 am bh ao U a2 cm cu;refine G.l (ι:=Nat×List (Value×zV)×zM) (fun i=>[(0,sV (zA go) n C),(1,iV h),(5,.p 1 0),(6,sV pa P.length pc),(7,.p 2001 0),(8,iV c),(9,iV P.length),(113,iV n),(114,iV i.1)]) (fun i=>[(1,⟨69,[bF,sN,bF,sN]⟩),(2001,⟨69,qc f6⟩)])
  (fun i u' m'=>i.1<=n/\Js P.length c (n-i.1) i.1 i.2.2=Js P.length c n 0 X2/\Rec n k i.2.2/\gM i.2.2 P.length=Kn F R/\(∀ x j,i.1<=x->x<n->j<k->x≠P.length->Sz (gR (gM i.2.2 x) j) E)/\SzM i.2.2 (4*E+2)/\QAt u' i.2.1 i.2.2/\Bag m' (Np (.slice pa P.length pc) P::oQ (zG go n C) i.2.1::i.2.1.map Ej))
  (fun i=>n-i.1) (0,rows2,X2) ⟨A1t _,rfl,b6,ax,fun x j _ hx hj bu=>b0 x j hx hj bu,Aco b6 (fun x j hx hj=>?_),bo,H⟩ ?_
 ·by_cases e:x=P.length
  ·rw[e,ax];exact (b7 j hj).mono oV
  exact (b0 x j hx hj e).mono oV
 clear H bo b0 ax b6;rintro J4 ⟨i,t,X3⟩ b5 u8 m8 l8 ⟨hi,aj,Z,a3,a4,a9,L,Q⟩;simp only at hi aj Z a3 a4 a9 L Q b5;have dl:t.length=n:=by rw[L.1,Z.1]
 by_cases W:i<n
 ·refine G.lT i n ?_;obtain⟨K3,bn⟩:∃ K3,n-i=K3+1:=⟨n-i-1,oV⟩;by_cases ak:i=P.length
  ·refine G.eT i P.length<|G.i i<|G.b (b5 (i+1,t,X3) _ _ _ cV l8 ⟨dV,?_,Z,a3,fun x j h1=>a4 x j (by dsimp only at h1;omega),a9,L,Q⟩ dV);dsimp only;rw[<-aj,bn,Js,if_pos (.inl ak),show n-(i+1)=K3 by omega]
  refine G.eF i P.length ?_;obtain⟨gi,ci,ei,bz,dg,c5,bw,dc⟩:=Agr Q L Z W b1;obtain⟨fg,g5,g6,g7⟩:=dc c oV;have ar:=a4 i c (A08 _) W (show c<k by omega) ak;refine G.O n C W bw<|G.o k ci g7<|G.c call81 (Nt g6 (A04 ar.1 oV)) ?_;rintro v9 u9 l9 rfl;rw[Az7];by_cases ag:gR (gM X3 i) c=0
  ·rw[decide_eq_true ag];refine G.i i<|G.b (b5 (i+1,t,X3) _ _ _ cV (l8.trans l9) ⟨dV,?_,Z,a3,fun x j h1=>a4 x j (by dsimp only at h1;omega),a9,L.mono l9,Q⟩ dV);dsimp only;rw[<-aj,bn,Js,if_pos (.inr ag),show n-(i+1)=K3 by omega]
  rw[decide_eq_false ag];obtain⟨S,hS⟩:∃ S,S=gM X3 i:=⟨_,rfl⟩;have ce:S.length=k:=by rw[hS];exact Z.2 i W
  have cg:∀ j,j<k->Sz (gR S j) E:=fun j hj=>by rw[hS];exact a4 i j (A08 _) W hj ak
  have ck:Js P.length c (n-(i+1)) (i+1) (X3.set i (P9 (gR S c) (Kn F R) S))=Js P.length c n 0 X2:=by
   rw[<-aj,bn,Js,if_neg (by simp[ak,ag]),show n-(i+1)=K3 by omega,hS,a3]
  rw[<-hS]at g6 ar c5;generalize hg:gR S c=g at *
  have c2:=Apn g (Kn F R) S;refine G.O n C W bw<|G.o k ci g7<|G.O n C W bw ?_;obtain⟨gs,cs,c4,cw,dr,dv,dx,dd⟩:=Agr Q L Z hP b1;refine G.l (ι:=Nat×zV) (fun y=>[(0,sV (zA go) n C),(1,iV h),(5,.p 1 0),(6,sV pa P.length pc),(7,.p 2001 0),(8,iV c),(9,iV P.length),(113,iV n),(114,iV i),(13,iV i),(14,.p 25007 0),(141,iV k),(142,iV y.1)]) (fun y=>[(1,⟨69,[bF,sN,bF,sN]⟩),(2001,⟨69,qc f6⟩),(25007,⟨69,qc fg⟩)])
   (fun y u' m'=>y.1<=k/\AtP QP u' y.2 (Tj (P9 g (Kn F R) S) S y.1)/\Bag m' (Np (.slice pa P.length pc) P::oQ (zG go n C) t::(t.set i ((Value.slice (zA gi) k ci),y.2)).map Ej)) (fun y=>k-y.1) (0,ei)
   ⟨A1t _,by rw[Aa3];exact c5.mono (fun _ _ k=>k.mono l9),by rw[Ny bz];exact Q⟩ ?_
  rintro J5 ⟨y,Y⟩ cb e0 b3 b2 ⟨hy,U,H⟩;simp only at hy U H cb;have ba:=Agl (k:=y) c2 oV;have cm:Y.length=k:=by rw[U.1,ba,ce]
  have a2:(t.set i ((Value.slice (zA gi) k ci),Y))[i]?=some ((Value.slice (zA gi) k ci),Y):=by rw[A1z];simp[dl,W]
  have bt:(t.set i ((Value.slice (zA gi) k ci),Y))[P.length]?=some (Value.slice (zA gs) k cs,c4):=by rw[A1z,if_neg ak];exact cw
  by_cases ae:y<k
  ·refine G.lT y k ?_;obtain⟨e,e1,e2⟩:=U.at (j:=y) oV;obtain⟨fe,rfl⟩:=e2.opQ;rw[<-Cu oV,Al3 c2 oV]at e2;have ho:ElP b3 go (0+i*1) (Value.slice (zA gi) k ci):=H.el 1 (x:=oQ (zG go n C) t) rfl rfl (by show (t.map (·.1))[i]?=_;rw[A1a,bz];rfl);have av:ElP b3 go (0+P.length*1) (Value.slice (zA gs) k cs):=H.el 1 (x:=oQ (zG go n C) t) rfl rfl (by show (t.map (·.1))[P.length]?=_;rw[A1a,cw];rfl);have he:ElP b3 gi (0+y*4) (qv fe):=H.el (i+2) (x:=Ej ((Value.slice (zA gi) k ci),Y)) (Ka a2) rfl e1;obtain⟨fs,s5,s6,_⟩:=dd y ae;rw[a3]at s6;have bs:ElP b3 gs (0+y*4) (qv fs):=H.el (P.length+2) (x:=Ej (Value.slice (zA gs) k cs,c4)) (Ka bt) rfl s5;refine G.O n C W ho<|G.O n C W ho<|G.O k ci ae he<|G.O n C hP av<|G.O k cs ae bs<|G.c call28 (Gh (g6.mono (l9.trans b2)) (s6.mono (l9.trans b2)) (ar.mono oV) ((b7 y ae).mono oV)) ?_;intro e6 e3 c3 cz;obtain⟨du,rfl⟩:=cz.opQ;have di:=Fx ar (b7 y ae);refine G.c call32 (Adl (e2.mono c3) cz ((cg y ae).mono oV) (di.mono oV)) ?_;intro e7 e4 d2 d0;obtain⟨bk,rfl⟩:=d0.opQ;obtain⟨m0,a1,a8⟩:=H.focus (i+2) (Ka a2);rw[Rg]at a1;refine G.a gi 0 k ci y 4 ae<|G.storeA 4 m0 Y gi k ci y (qv bk) kV a1 oV rfl rfl ?_;intro dq cx;have bg:=a8 (Ej ((Value.slice (zA gi) k ci),Y.set y (qv bk))) dq cx;rw[Afw,A6r]at bg;refine G.i y<|G.b (cb (y+1,Y.set y (qv bk)) _ _ _ cV ((b2.trans c3).trans d2) ⟨dV,?_,bg⟩ dV);dsimp only;rw[<-Af8 c2 oV,Ai0 _ _ _ oV];exact (U.mono (fun _ _ k=>k.mono (c3.trans d2))).set y d0
  obtain rfl:y=k:=oV;refine G.lF y y ?_;rw[Ad7 oV ce]at U;rw[<-Apm (es':=Y) bz]at H;refine G.i i ?_;have ch:Rec n y (X3.set i (P9 g (Kn F R) S)):=I8 Z W oV;have ac:∀ x,gM (X3.set i (P9 g (Kn F R) S)) x=if i=x then P9 g (Kn F R) S else gM X3 x:=fun x=>Kb (by rw[Z.1];exact W)
  refine G.b (b5 (i+1,t.set i ((Value.slice (zA gi) y ci),Y),X3.set i (P9 g (Kn F R) S)) _ _ _ cV ((l8.trans l9).trans b2) ⟨dV,ck,ch,?_,?_,?_,?_,H⟩ dV)
  ·dsimp only;rw[ac,if_neg ak];exact a3
  ·intro x j h1 h2 h3 h4;dsimp only at h1⊢;rw[ac,if_neg oV];exact a4 x j oV h2 h3 h4
  ·refine Aco ch (fun x j hx hj=>?_);rw[ac];split
   ·rw[Ai0 _ _ _ oV];exact (Akj (cg j hj) (Fx ar (b7 j hj))).mono oV
   exact a9.at Z hx hj
  exact (L.mono (l9.trans b2)).set (i:=i) (r:=((Value.slice (zA gi) y ci),Y)) oV U
 obtain rfl:i=n:=oV;refine G.lF i i ?_;rw[A4i,Js]at aj;rw[<-aj]at a0;refine G.B 3 1 8 zO [zI c] (Av [c]) ?_;intro g9 u9 l9 e9;obtain⟨m0,a1,db⟩:=Q;rw[Aka]at a1;have dg:(Ai P).length=P.length:=by simp[Ai]
 refine G.append 3 1 8 zO m0 (Ai P) [zI c] (.slice pa P.length pc) g9 0 1 1 kV rfl rfl oV a1 e9 (Av [c]) rfl oV oV oV ?_;intro e5 b3 ai;rw[show Ai P++[Value.int .i64 c]=Ai (P++[c]) by simp[Ai]]at ai;obtain⟨d5,d6,rfl⟩:=ai.shape;have el:(Ai (P++[c])).length=(P++[c]).length:=by simp[Ai]
 rw[el]at ai⊢;refine G.i c<|G.b (hJ ⟨c+1,P++[c],d5,d6,t,X3,f6,d1*F⟩ _ _ _ cV ((((((l2.trans l3).trans l4).trans l5).trans l6).trans l7).trans (l8.trans l9)) ⟨dV,gV,a0,Z,?_,?_,k6.mono ((l7.trans l8).trans l9),L.mono l9,m0,ai,db⟩ dV)
 ·dsimp only;rw[c7];exact a9
 dsimp only;rw[c7];exact (Fx ay b4).mono oV
section
variable {P:List Par}{es:zV}{pv v:Value}{qs:zR}{u:PH}
def Bd7 (h:Ac u pv 2 (P.map Ap))(R:Hb Bk P)(X:P.length<=1000000):zF 171 [pv] u fun r _=>r=zT:=by
 obtain⟨a,c,rfl⟩:=h.opn;rw[A03]at h⊢;refine Fn0.o func171<|G.l (ι:=Nat) (fun i=>[(0,sV a P.length c),(3,iV i)]) (fun _=>[])
  (fun i u' U=>1<=i/\U=PH.mt) (fun i=>P.length-i) 1 ⟨oV,rfl⟩ ?_
 rintro J i Q u2 Y l2 ⟨hi,rfl⟩;by_cases m:i<P.length
 ·refine G.lT i P.length ?_;have C:P[i]?=some P[i]:=A01 m;have E:P[i-1]?=some (P[i-1]'oV):=A01 oV;have F:Bk (P[i-1]'oV) P[i]<0:=A3n.1 R (i-1) i oV m oV;obtain⟨W,Z,H,K⟩:=Ac.at' (h.mono l2) (j:=i) (e:=Ap P[i]) (by simp[C]);obtain⟨I,V,t,L⟩:=Ac.at' (h.mono l2) (j:=i-1) (e:=Ap (P[i-1]'oV)) (by simp[E]);rw[H]at t;cases t;subst H;refine G.s i 1 (i-1:Nat)<|G.n P.length c L<|G.N P.length c m K<|G.c call113 (Fp _ _ true (decide_eq_true F)) ?_;rintro v3 u3 T rfl;exact G.i i<|G.b (Q (i+1) _ _ _ cV (l2.trans T) ⟨oV,rfl⟩ oV)
 exact G.lF i P.length<|G.z zT
def Bfa (qs:zR):zM:=qs.map fun q=>[q]
def N4.snoc1 {t:List zW}{a:zP}{c:Nat}{r:zW}(h:N4 u es t)(J:Cj u (.slice a r.length c) r):N4 u (es++[.slice a r.length c]) (t++[r]):=by
 refine⟨by simp[h.1],fun j r' e=>?_⟩;by_cases m:j<t.length
 ·rw[A1r m]at e;obtain⟨E,F,H,I⟩:=h.2 j r' e;exact⟨E,F,by rw[A1r (by rw[h.1];exact m)];exact H,I⟩
 rw[A18 oV]at e;have C:j-t.length=0:=by
  rcases A2a (j-t.length) with h0|h0
  ·exact h0
  rw[A1v gV]at e;cases e
 rw[C]at e;simp at e;subst e;exact⟨a,c,by rw[A18 (by rw[h.1];omega),h.1,C];rfl,J⟩
def Bfh (h:Cj u v (qs.map Ae))(hl:qs.length<=1000):zF 170 [v] u fun r L=>C7 L r (Cv (Bfa qs)):=by
 obtain⟨a,c,rfl⟩:=Ac.opn h;rw[Cb,A03]at h⊢;refine Fn0.o func170<|G.l (ι:=Nat×(zP×Nat)×zV) (fun i=>[(0,sV a qs.length c),(3,sV i.2.1.1 i.2.2.length i.2.1.2),(6,sV a qs.length c),(7,iV qs.length),(8,iV i.1)]) (fun _=>[])
  (fun i L m'=>i.1<=qs.length/\N4 L i.2.2 (Cv (Bfa (qs.take i.1)))/\Af PH.mt m' (.slice i.2.1.1 i.2.2.length i.2.1.2) 46 1 i.2.2) (fun i=>qs.length-i.1) (0,(none,0),[])
  ⟨oV,⟨rfl,fun j r H=>by simp[Cv,Bfa]at H⟩,Af.nil _ _ _⟩ ?_
 rintro J ⟨i,⟨pa,pc⟩,es⟩ Q u1 m1 T ⟨hi,t,F⟩;simp only at hi t F Q;have a0:es.length=i:=by rw[t.1];simp[Cv,Bfa];omega
 by_cases C:i<qs.length
 ·refine G.lT i qs.length ?_;obtain⟨q,R⟩:∃ q,qs[i]?=some q:=⟨_,A01 C⟩;have I:qs.take (i+1)=qs.take i++[q]:=by rw[A1n,R];rfl
  obtain⟨b,o,rfl,e⟩:=Ac.at' (Ac.mono h T) (j:=i) (e:=zS (Ae q)) (by simp[Cc,R]);refine G.N qs.length c C e<|G.B 34 1 16 zE [zS (Ae q)] (Gc [Ae q]) ?_;intro g2 u2 l2 W;have E:Cj u2 (zG g2 1 1) [Ae q]:=⟨_,1,rfl,A08 _,fun j x H=>⟨g2,0,rfl,W j x H⟩⟩;refine G.B 46 1 24 zN [zG g2 1 1] (B5 _ _ _) ?_;intro Z u3 K X;refine G.append 46 1 24 zN PH.mt es [zG g2 1 1] _ Z 0 1 1 kV rfl rfl oV F X (B5 _ _ _) rfl oV oV oV ?_;intro v4 m4 m;obtain⟨U,V,rfl⟩:=m.shape;refine G.i i<|G.b (Q (i+1,(U,V),es++[zG g2 1 1]) _ _ _ cV ((T.trans l2).trans K) ⟨dV,?_,m⟩ dV);have Y:Cv (Bfa (qs.take (i+1)))=Cv (Bfa (qs.take i))++[[Ae q]]:=by rw[I];simp[Cv,Bfa]
  dsimp only;rw[Y];exact (t.mono (l2.trans K)).snoc1 (r:=[Ae q]) (Ac.mono E K)
 obtain rfl:i=qs.length:=oV;refine G.lF qs.length qs.length ?_;rw[A15]at t;refine G.give _ _ _ kV F (fun g=>.inl rfl) ?_;intro u6 l6 hF;exact G.r (.slice pa es.length pc) ⟨rfl,es,hF,t.mono l6⟩
def Apw (h:Ac u v 4 es)(Q:AtP QP u es qs)(hT:∀ q∈qs,Tx q)(hl:qs.length<=1000):zF 83 [v] u fun r T=>∃ R,r=.tuple #[R,zO]/\Cj T R (qs.map Ae):=by
 obtain⟨a,c,rfl⟩:=Ac.opn h;have H:=Q.1;rw[H]at h⊢;refine Fn0.o func83<|G.l (ι:=Nat×(zP×Nat)) (fun i=>[(4,sV i.2.1 i.1 i.2.2),(9,sV a qs.length c),(10,iV qs.length),(11,iV i.1)]) (fun _=>[])
  (fun i T m'=>i.1<=qs.length/\Af PH.mt m' (.slice i.2.1 i.1 i.2.2) 34 1 (Cc ((qs.take i.1).map Ae))) (fun i=>qs.length-i.1) (0,none,0) ⟨oV,Af.nil _ _ _⟩ ?_
 rintro J ⟨i,pa,pc⟩ L u1 m1 K ⟨hi,F⟩;simp only at hi F L;by_cases C:i<qs.length
 ·refine G.lT i qs.length ?_;obtain⟨q,t⟩:∃ q,qs[i]?=some q:=⟨_,A01 C⟩;have I:qs.take (i+1)=qs.take i++[q]:=by rw[A1n,t];rfl
  obtain⟨x,Z,E⟩:=Q.2 i q t;obtain⟨f,rfl⟩:=E.opQ;obtain⟨b,o,rfl,e⟩:=Ac.at' (Ac.mono h K) (j:=i) (e:=qv f) Z;refine G.N qs.length c C e<|G.c call84 (Ox (E.mono K) (hT q (A1k t))) ?_;rintro v2 u2 l2 rfl;refine G.nF 0 0<|G.B 34 1 16 zE [zS (Ae q)] (Gc [Ae q]) ?_;intro Y u3 l3 W;refine G.append 34 1 16 zE PH.mt (Cc ((qs.take i).map Ae)) [zS (Ae q)] (.slice pa i pc) Y 0 1 1 kV rfl rfl oV F W (Gc [Ae q]) rfl oV (by simp[Cc];omega) (by simp[Cc];omega) ?_;intro v4 m4 m;have X:Cc ((qs.take i).map Ae)++[zS (Ae q)]=Cc ((qs.take (i+1)).map Ae):=by rw[I];simp[Cc]
  rw[X]at m;obtain⟨U,V,rfl⟩:=m.shape;have el:(Cc ((qs.take (i+1)).map Ae)).length=i+1:=by simp[Cc];omega
  rw[el]at m⊢;exact G.i i<|G.b (L (i+1,U,V) _ _ _ cV ((K.trans l2).trans l3) ⟨dV,m⟩ dV)
 obtain rfl:i=qs.length:=oV;refine G.lF qs.length qs.length ?_;rw[A15]at F;refine G.give _ _ _ kV F (fun g=>.inl rfl) ?_;intro u6 l6 hF;exact G.r (.tuple #[.slice pa qs.length pc,zO]) ⟨rfl,_,rfl,hF⟩
def Bfi {pv lv:Value}{m0:Rat}(V:Ac u pv 2 (P.map Ap))(I:Cj u lv ((m0::qs).map Ae))(hs:Hb Bk P)(K:qs.length=P.length)(hl:P.length<=1000)(h0:Tx m0)(hT:∀ q∈qs,Tx q) :
 zF 96 [pv,lv] u fun r u'=>∃ mv,r=.tuple #[mv,zO]/\Bfe u' mv m0 (P.zip qs):=by
 have E:=Bd7 V hs oV;obtain⟨a,c,rfl⟩:=V.opn;obtain⟨la,F,rfl⟩:=Ac.opn I;have hn:(Cc ((m0::qs).map Ae)).length=P.length+1:=by rw[Cb,A03,A3f,K]
 rw[A03]at V E⊢;rw[hn]at I⊢;have X:∀ i q,(m0::qs)[i]?=some q->Tx q:=fun i q hq=>by
  rcases A1g.1 (A1k hq) with rfl|h
  ·exact h0
  exact hT q h
 refine Fn0.o func96<|G.c call171 E ?_;rintro v1 u1 l1 rfl;refine G.p P.length 1 (P.length+1:Nat)<|G.nF (P.length+1:Nat) (P.length+1:Nat)<|G.l (ι:=Nat) (fun i=>[(0,sV a P.length c),(1,sV la (P.length+1) F),(4,.p 0 0),(22,sV la (P.length+1) F),(23,iV (P.length+1:Nat)),(24,iV i)]) (fun _=>[(0,⟨89,[tV [],sN]⟩)])
  (fun i u' m'=>i<=P.length+1/\m'=PH.mt) (fun i=>P.length+1-i) 0 ⟨oV,rfl⟩ ?_
 rintro J i H u2 m2 l2 ⟨hi,rfl⟩;by_cases C:i<P.length+1
 ·refine G.lT i (P.length+1:Nat) ?_;obtain⟨q,m⟩:∃ q,(m0::qs)[i]?=some q:=⟨_,A01 gV⟩;obtain⟨b,o,rfl,e⟩:=Ac.at' (Ac.mono I (l1.trans l2)) (j:=i) (e:=zS (Ae q)) (by unfold Cc;rw[A1a,A1a,m];rfl);refine G.N (P.length+1) F C e<|G.c call24 (Ee (X i q m)) ?_;rintro v3 u3 W rfl;exact G.i i<|G.b (H (i+1) _ _ _ cV (l2.trans W) ⟨oV,rfl⟩ oV)
 obtain rfl:i=P.length+1:=oV;refine G.lF (P.length+1:Nat) (P.length+1:Nat) ?_;clear H;have R:=l1.trans l2;obtain⟨b,o,rfl,e⟩:=Ac.at' (Ac.mono I R) (j:=0) (e:=zS (Ae m0)) rfl;refine G.n (P.length+1) F e<|G.l (ι:=Nat×(zP×Nat)) (fun i=>[(1,sV (some ⟨b,o,none⟩) (P.length+1) F),(4,.p 0 0),(8,.p 11004 0),(37,sV a P.length c),(38,iV P.length),(39,iV i.1)]) (fun i=>[(0,⟨89,[tV [],sN]⟩),(11004,⟨89,[tV (Ae m0),sV i.2.1 i.1 i.2.2]⟩)])
  (fun i u' m'=>i.1<=P.length/\Af PH.mt m' (.slice i.2.1 i.1 i.2.2) 162 3 (((P.zip qs).take i.1).map Bt)) (fun i=>P.length-i.1) (0,none,0) ⟨oV,Af.nil _ _ _⟩ ?_
 rintro J ⟨i,pa,pc⟩ H u3 m3 W ⟨Y,U⟩;simp only at Y U H;have T:=R.trans W;have Q:(P.zip qs).length=P.length:=by rw[Bgl];omega
 by_cases C:i<P.length
 ·refine G.lT i P.length ?_;obtain⟨p,L⟩:∃ p,P[i]?=some p:=⟨_,A01 C⟩;obtain⟨q,m⟩:∃ q,qs[i]?=some q:=⟨_,A01 oV⟩;have hz:(P.zip qs)[i]?=some (p,q):=by rw[List.getElem?_zip_eq_some];exact⟨L,m⟩
  have Z:(P.zip qs).take (i+1)=(P.zip qs).take i++[(p,q)]:=by rw[A1n,hz];rfl
  obtain⟨bp,op,rfl,ep⟩:=Ac.at' (V.mono T) (j:=i) (e:=Ap p) (by simp[L]);obtain⟨p1,p2⟩:=p;refine G.N P.length c C ep ?_;obtain⟨b2,o2,e0,e2⟩:=Ac.at' (Ac.mono I T) (j:=i+1) (e:=zS (Ae q)) (by unfold Cc;rw[A1a,A1a,A7r,m];rfl);cases e0;refine G.i i<|G.n (P.length+1) F e2<|G.B 162 3 40 (.agg #[zO,zE,zE]) [Bt ((p1,p2),q)] (Afk _) ?_;intro g4 u4 l4 e4;refine G.k 162 3 40 (.agg #[zO,zE,zE]) PH.mt (((P.zip qs).take i).map Bt) [Bt ((p1,p2),q)] (.slice pa i pc) g4 0 1 1 U e4 (Afk _) ?_;intro v5 m5 t;have e6:((P.zip qs).take i).map Bt++[Bt ((p1,p2),q)]=((P.zip qs).take (i+1)).map Bt:=by rw[Z];simp
  rw[e6]at t;obtain⟨a5,c5,rfl⟩:=t.shape;have el:(((P.zip qs).take (i+1)).map Bt).length=i+1:=by rw[A03,A1e];omega
  rw[el]at t⊢;exact G.i i<|G.b (H (i+1,a5,c5) _ _ _ cV (W.trans l4) ⟨dV,t⟩ dV)
 obtain rfl:i=P.length:=oV;refine G.lF P.length P.length ?_;rw[A1j oV]at U;refine G.give _ _ _ kV U (fun g=>.inl rfl) ?_;intro u6 l6 hF;exact G.r (.tuple #[.agg #[zS (Ae m0),.slice pa P.length pc],zO]) ⟨rfl,_,rfl,⟨pa,pc,by rw[Q],by rw[Q];exact hF⟩⟩
end
section
variable {P:List Par}{m m0:PH}{v:Value}
def Bu (r:Value×zV):Arr:=⟨r.1,34,1,r.2⟩
def oT (v:Value)(rows:List (Value×zV)):Arr:=⟨v,46,1,rows.map (·.1)⟩
def D6 {r:Value×zV}:(Bu r).At m0 m=Af m0 m r.1 34 1 r.2:=rfl
def Aaa {e:List (Value×zV)}:(oT v e).At m0 m=Af m0 m v 46 1 (e.map (·.1)):=rfl
def txV (l:zR):zV:=l.map fun q=>zS (Ae q)
def Bgm (l:zR):(txV l).length=l.length:=by simp[txV]
def Md (l:zR)(q:Rat):txV l++[zS (Ae q)]=txV (l++[q]):=by simp[txV]
def E7 (q:Rat):A9 1 [zS (Ae q)]:=Gc [Ae q]
def J7 (l:zR):txV l=Cc (l.map Ae):=by simp[txV,Cc]
def Lh (C:CF)(P:List Par):zM:=(An P).map fun e=>(An P).map (As C e)
def Ex {i:Nat}:(An P).take (i+1)=none::(P.take i).map some:=by unfold An;rw[List.take_succ_cons,A5g]
def Afv {u:PH}{v cv:Value}{T:zC}{R:List Br}{F:List Al}{lab:Int}{C:CF}{K k:Nat}(h:Te u v cv T R F lab C K k P) :
 Ag prog 58 [v,cv] u PH.mt fun r u' m'=>∃ (pa:zP) (pc:Nat) (xa:zP) (xc:Nat) (ra:zP) (rc:Nat) (E:List (Value×zV)),
  r=.tuple #[.agg #[.slice pa P.length pc,.slice xa (P.length+1) xc,.slice ra (P.length+1) rc],zO]/\Ac u' (.slice pa P.length pc) 2 (P.map Ap)/\E.map (·.2)=(Lh C P).map txV /\
  Bag m' (Bu (.slice ra (P.length+1) rc,txV ((An P).map (Bh C)))::oT (.slice xa (P.length+1) xc) E::E.map Bu):=by
 have b1:=Aif h.sch h.ok h.cof h.sC h.vC h.K h.bel;have bz:=h.p24;have hK:=h.K;have c0:=h.lab0;have hS:=fun (u':PH) (l:PH.le u u') (p:Par)=>At9 p (h.cof.mono l) oV;have hQ:=fun (u':PH) (l:PH.le u u') (p q:Par)=>U2 p q (h.cof.mono l) oV;have ag:=Cp P;obtain⟨xa,xc,xb,xd,xe,xf,rfl,_⟩:=id h.sch;obtain⟨a1,n1,c1,a2,n2,c2,rfl⟩:=id h.cof.opn;refine Ag.o func58<|G.c call37 b1 ?_;intro v1 u1 l1 hp;obtain⟨ps,L,rfl,hL,_,ai⟩:=hp.resolve_left fun⟨_,L,bf,ai⟩=>by rw[ai.eq h.prm]at bf;omega
 rw[ai.eq h.prm]at hL;obtain⟨pa,pc,rfl⟩:=hL.opn;rw[A03]at hL⊢;refine G.nF 0 0<|G.lF lab 0<|G.c call137 (hS u1 l1 B7) ?_;rintro v2 u2 l2 rfl;refine G.buildM 34 1 16 zE [zS (Ae (C.s B7))] kV (E7 _) rfl oV mV mV ?_;intro g3 m3 bg;refine G.buildM 34 1 16 zE [zS (Ae C.c)] kV (E7 _) rfl oV mV mV ?_;intro g4 m4 bh;refine G.l (ι:=Nat×(zP×Nat)×(zP×Nat)) (fun i=>[(3,.p 1 0),(4,.p 2 0),(6,sV pa P.length pc),(8,.p 6001 0),(9,.p 7006 0),(10,sV i.2.1.1 (i.1+1) i.2.1.2),(42,sV pa P.length pc),(43,iV P.length),(44,iV i.1)])
  (fun i=>[(1,⟨38,[tV (Ae C.c),sV a1 n1 c1,sV a2 n2 c2]⟩),(2,⟨57,[sN,sN,sN]⟩),(6001,⟨118,[iV (-1),tV []]⟩),
   (7006,⟨57,[.v (.slice pa P.length pc),.v zN,.v (.slice i.2.2.1 (i.1+1) i.2.2.2)]⟩)])
  (fun i u' m'=>i.1<=P.length/\Bag m' [Bu (.slice i.2.1.1 (i.1+1) i.2.1.2,txV (((An P).take (i.1+1)).map (As C none))),Bu (.slice i.2.2.1 (i.1+1) i.2.2.2,txV (((An P).take (i.1+1)).map (Bh C)))]) (fun i=>P.length-i.1) (0,(some ⟨g4,0,none⟩,1),(some ⟨g3,0,none⟩,1))
  ⟨oV,m3,bh,PH.mt,bg,trivial⟩ ?_
 rintro J ⟨i,⟨fa,fc⟩,⟨ra,rc⟩⟩ hJ u5 m5 l5 ⟨hi,H⟩;simp only at hi H hJ;have ad:=(l1.trans l2).trans l5;by_cases a0:i<P.length
 ·refine G.lT i P.length ?_;obtain⟨p,a3⟩:∃ p,P[i]?=some p:=⟨_,A01 a0⟩;have ab:(An P).take (i+1+1)=(An P).take (i+1)++[some p]:=by rw[Ex,Ex,A1n,a3];simp
  obtain⟨bp,op,rfl,ep⟩:=Ac.at' (hL.mono (l2.trans l5)) (j:=i) (e:=Ap p) (by simp[a3]);refine G.N P.length pc a0 ep<|G.c call137 (hS u5 ad p) ?_;rintro v6 u6 l6 rfl;refine G.B 34 1 16 zE [zS (Ae (C.s p))] (E7 _) ?_;intro g7 u7 l7 e7;obtain⟨m0,U,Q⟩:=H.focus 0 rfl;rw[D6]at U;have Z:(txV (((An P).take (i+1)).map (As C none))).length=i+1:=by rw[Bgm,A03,A1e];omega
  refine G.append 34 1 16 zE m0 (txV (((An P).take (i+1)).map (As C none))) [zS (Ae (C.s p))] (.slice fa (i+1) fc) g7 0 1 1 kV rfl rfl oV U e7 (E7 _) rfl oV (by rw[Z];omega) (by rw[Z];omega) ?_;intro v8 m8 a6;have e8:txV (((An P).take (i+1)).map (As C none))++[zS (Ae (C.s p))]=txV (((An P).take (i+1+1)).map (As C none)):=by rw[ab,A1i,Md];rfl
  rw[e8]at a6;have ak:(txV (((An P).take (i+1+1)).map (As C none))).length=i+1+1:=by rw[Bgm,A03,A1e];omega
  obtain⟨a8,c8,rfl⟩:=a6.shape;rw[ak]at a6⊢;have aj:=Q (Bu (.slice a8 (i+1+1) c8,txV (((An P).take (i+1+1)).map (As C none)))) m8 a6;have br:=(ad.trans l6).trans l7;refine G.c call66 (hQ u7 br B7 p) ?_;rintro v9 u9 l9 rfl;refine G.B 34 1 16 zE [zS (Ae (C.t (Ay B7 p)))] (E7 _) ?_;intro ae c5 bm b7;obtain⟨bs,b3,al⟩:=aj.focus 1 rfl;rw[D6]at b3;have b0:(txV (((An P).take (i+1)).map (Bh C))).length=i+1:=by rw[Bgm,A03,A1e];omega
  refine G.append 34 1 16 zE bs (txV (((An P).take (i+1)).map (Bh C))) [zS (Ae (C.t (Ay B7 p)))] (.slice ra (i+1) rc) ae 0 1 1 kV rfl rfl oV b3 b7 (E7 _) rfl oV (by rw[b0];omega) (by rw[b0];omega) ?_;intro ca b6 V;have b8:txV (((An P).take (i+1)).map (Bh C))++[zS (Ae (C.t (Ay B7 p)))]=txV (((An P).take (i+1+1)).map (Bh C)):=by rw[ab,A1i,Md];rfl
  rw[b8]at V;have bi:(txV (((An P).take (i+1+1)).map (Bh C))).length=i+1+1:=by rw[Bgm,A03,A1e];omega
  obtain⟨an,aq,rfl⟩:=V.shape;rw[bi]at V⊢;have a9:=al (Bu (.slice an (i+1+1) aq,txV (((An P).take (i+1+1)).map (Bh C)))) b6 V;exact G.i i<|G.b (hJ (i+1,(a8,c8),(an,aq)) _ _ _ cV ((((l5.trans l6).trans l7).trans l9).trans bm) ⟨dV,a9⟩ dV)
 obtain rfl:i=P.length:=oV;refine G.lF P.length P.length ?_;clear hJ;rw[show (An P).take (P.length+1)=An P by rw[A1j oV]]at H;have ad:=(l1.trans l2).trans l5;have c3:(txV ((An P).map (As C none))).length=P.length+1:=by rw[Bgm,A03,ag]
 refine G.B 46 1 24 zN [.slice fa (P.length+1) fc] (B5 _ _ _) ?_;intro g6 u6 l6 e6;refine G.append 46 1 24 zN m5 [] [.slice fa (P.length+1) fc] zN g6 0 1 1 kV rfl rfl oV (Af.nil _ _ _) e6 (B5 _ _ _) rfl oV mV mV ?_;intro v7 m7 af;obtain⟨a7,c7,rfl⟩:=af.shape;have ay:Bag m7 (Bu (.slice ra (P.length+1) rc,txV ((An P).map (Bh C)))::oT (.slice a7 1 c7) [(.slice fa (P.length+1) fc,txV ((An P).map (As C none)))]::[(Value.slice fa (P.length+1) fc,txV ((An P).map (As C none)))].map Bu) :=
  Bag.perm (A5r (l₁:=[oT (.slice a7 1 c7) [(.slice fa (P.length+1) fc,txV ((An P).map (As C none)))],Bu (.slice fa (P.length+1) fc,txV ((An P).map (As C none)))]) (l₂:=[Bu (.slice ra (P.length+1) rc,txV ((An P).map (Bh C)))])) ⟨m5,af,H⟩
 have bo:=ad.trans l6;have ah:=hL.mono ((l2.trans l5).trans l6);have bj:∀ i,i<=P.length->((Lh C P).take (i+1)).length=i+1:=fun i hi=>by rw[A1e];unfold Lh;rw[A03,ag];omega
 refine G.l (ι:=Nat×(zP×Nat)×List (Value×zV)) (fun i=>[(3,.p 1 0),(4,.p 2 0),(6,sV pa P.length pc),(9,.p 7006 0),(70,sV pa P.length pc),(71,iV P.length),(72,iV i.1)])
  (fun i=>[(1,⟨38,[tV (Ae C.c),sV a1 n1 c1,sV a2 n2 c2]⟩),(2,⟨57,[sN,sN,sN]⟩),
   (7006,⟨57,[.v (.slice pa P.length pc),.v (.slice i.2.1.1 (i.1+1) i.2.1.2),.v (.slice ra (P.length+1) rc)]⟩)])
  (fun i u' m'=>i.1<=P.length/\i.2.2.map (·.2)=((Lh C P).take (i.1+1)).map txV/\Bag m' (Bu (.slice ra (P.length+1) rc,txV ((An P).map (Bh C)))::oT (.slice i.2.1.1 (i.1+1) i.2.1.2) i.2.2::i.2.2.map Bu)) (fun i=>P.length-i.1)
  (0,(a7,c7),[(.slice fa (P.length+1) fc,txV ((An P).map (As C none)))]) ⟨oV,by unfold Lh An;rfl,ay⟩ ?_
 clear ay af H;rintro J ⟨i,⟨a4,a5⟩,E⟩ hJ u8 m8 l8 ⟨hi,I,H⟩;simp only at hi I H hJ;have bk:E.length=i+1:=by have:=congrArg List.length I;rw[A03,A03,bj i hi]at this;exact this
 by_cases a0:i<P.length
 ·refine G.lT i P.length ?_;obtain⟨p,a3⟩:∃ p,P[i]?=some p:=⟨_,A01 a0⟩;have ab:(An P).take (i+1+1)=(An P).take (i+1)++[some p]:=by rw[Ex,Ex,A1n,a3];simp
  have b5:=bo.trans l8;obtain⟨bp,op,e0,ep⟩:=Ac.at' (ah.mono l8) (j:=i) (e:=Ap p) (by simp[a3]);subst e0;refine G.N P.length pc a0 ep<|G.c call137 (hS u8 b5 p) ?_;rintro v9 u9 l9 rfl;refine G.buildM 34 1 16 zE [zS (Ae (C.s p))] kV (E7 _) rfl oV mV mV ?_;intro ae c4 av;refine G.l (ι:=Nat×(zP×Nat)) (fun j=>[(3,.p 1 0),(4,.p 2 0),(6,sV (some ⟨bp,op,none⟩) P.length pc),(9,.p 7006 0),(14,.p 18002 0),(15,sV j.2.1 (j.1+1) j.2.2),(70,sV (some ⟨bp,op,none⟩) P.length pc),(71,iV P.length),(72,iV i),(80,sV (some ⟨bp,op,none⟩) P.length pc),(81,iV P.length),(82,iV j.1)])
   (fun j=>[(1,⟨38,[tV (Ae C.c),sV a1 n1 c1,sV a2 n2 c2]⟩),(2,⟨57,[sN,sN,sN]⟩),
    (7006,⟨57,[.v (.slice (some ⟨bp,op,none⟩) P.length pc),.v (.slice a4 (i+1) a5),.v (.slice ra (P.length+1) rc)]⟩),(18002,⟨118,[.v (zI p.1),.v (zS p.2)]⟩)])
   (fun j u' m'=>j.1<=P.length/\Bag m' (Bu (.slice j.2.1 (j.1+1) j.2.2,txV (((An P).take (j.1+1)).map (As C (some p))))::Bu (.slice ra (P.length+1) rc,txV ((An P).map (Bh C)))::oT (.slice a4 (i+1) a5) E::E.map Bu)) (fun j=>P.length-j.1)
   (0,some ⟨ae,0,none⟩,1) ⟨oV,m8,av,H⟩ ?_
  rintro J2 ⟨j,la,lc⟩ aw bw b6 ac ⟨hj,aa⟩;simp only at hj aa aw;have b4:=(b5.trans l9).trans ac;by_cases az:j<P.length
  ·refine G.lT j P.length ?_;obtain⟨q,b2⟩:∃ q,P[j]?=some q:=⟨_,A01 az⟩;have bl:(An P).take (j+1+1)=(An P).take (j+1)++[some q]:=by rw[Ex,Ex,A1n,b2];simp
   obtain⟨bq,oq,e0,eq⟩:=Ac.at' (ah.mono ((l8.trans l9).trans ac)) (j:=j) (e:=Ap q) (by simp[b2]);cases e0;refine G.N P.length pc az eq<|G.c call66 (hQ bw b4 p q) ?_;rintro cb bx am rfl;refine G.B 34 1 16 zE [zS (Ae (C.t (Ay p q)))] (E7 _) ?_;intro be c6 bn ba;obtain⟨m0,U,Q⟩:=aa.focus 0 rfl;rw[D6]at U;have Z:(txV (((An P).take (j+1)).map (As C (some p)))).length=j+1:=by rw[Bgm,A03,A1e];omega
   refine G.append 34 1 16 zE m0 (txV (((An P).take (j+1)).map (As C (some p)))) [zS (Ae (C.t (Ay p q)))] (.slice la (j+1) lc) be 0 1 1 kV rfl rfl oV U ba (E7 _) rfl oV (by rw[Z];omega) (by rw[Z];omega) ?_;intro cd bu X;have bb:txV (((An P).take (j+1)).map (As C (some p)))++[zS (Ae (C.t (Ay p q)))]=txV (((An P).take (j+1+1)).map (As C (some p))):=by rw[bl,A1i,Md];rfl
   rw[bb]at X;have ak:(txV (((An P).take (j+1+1)).map (As C (some p)))).length=j+1+1:=by rw[Bgm,A03,A1e];omega
   obtain⟨ap,au,rfl⟩:=X.shape;rw[ak]at X⊢;have Y:=Q (Bu (.slice ap (j+1+1) au,txV (((An P).take (j+1+1)).map (As C (some p))))) bu X;exact G.i j<|G.b (aw (j+1,ap,au) _ _ _ cV ((ac.trans am).trans bn) ⟨dV,Y⟩ dV)
  obtain rfl:j=P.length:=oV;refine G.lF P.length P.length ?_;rw[show (An P).take (P.length+1)=An P by rw[A1j oV]]at aa;refine G.B 46 1 24 zN [.slice la (P.length+1) lc] (B5 _ _ _) ?_;intro bd bx am b9;obtain⟨m0,U,Q⟩:=aa.focus 2 rfl;rw[Aaa]at U;refine G.k 46 1 24 zN m0 (E.map (·.1)) [.slice la (P.length+1) lc] (.slice a4 (i+1) a5) bd 0 1 1 U b9 (B5 _ _ _) ?_;intro cc bt W;have em:E.map (·.1)++[Value.slice la (P.length+1) lc]=(E++[(Value.slice la (P.length+1) lc,txV ((An P).map (As C (some p))))]).map (·.1):=mV;rw[em]at W;obtain⟨ao,ar,rfl⟩:=W.shape;have el:((E++[(Value.slice la (P.length+1) lc,txV ((An P).map (As C (some p))))]).map (·.1)).length=i+1+1:=by simp[bk]
  rw[el]at W⊢;have ax:=Q (oT (.slice ao (i+1+1) ar) (E++[(Value.slice la (P.length+1) lc,txV ((An P).map (As C (some p))))])) bt W;have Y:=Bag.perm S8 ax;refine G.i i<|G.b (hJ (i+1,(ao,ar),E++[(Value.slice la (P.length+1) lc,txV ((An P).map (As C (some p))))]) _ _ _ cV (((l8.trans l9).trans ac).trans am) ⟨dV,?_,by simpa using Y⟩ dV);dsimp only;rw[A1i,I];unfold Lh;rw[<-A5g,<-A5g,ab,A1i,A1i];rfl
 obtain rfl:i=P.length:=oV;refine G.lF P.length P.length ?_;rw[A1j (by unfold Lh;rw[A03,ag];omega)]at I;exact G.r (.tuple #[.agg #[.slice pa P.length pc,.slice a4 (P.length+1) a5,.slice ra (P.length+1) rc],zO]) ⟨pa,pc,a4,a5,ra,rc,E,rfl,ah.mono l8,I,H⟩
end
section
variable {C:CF}{F:List Al}{K c i k n:Nat}{P:List Par}{R:List Br}{T:zC}{X:zM}{cv v:Value}{lab:Int}{m u:PH}{o s:Arr}{q:Rat}{r:Value×zV}{rows:List (Value×zV)}
def Lw (h:rows[i]?=some r):(s::o::rows.map Bu)[i+2]?=some (Bu r):=by simp[h]
def Agw :(s::o::rows.map Bu).set (i+2) (Bu r)=s::o::(rows.set i r).map Bu:=by
 simp[A2g]
def Aho {x:Value}{es es':zV}(h:rows[i]?=some (x,es)):oT v (rows.set i (x,es'))=oT v rows:=by
 unfold oT
 congr 1
 rw[A2g];exact Ny (by rw[A1a,h];rfl)
def Ayw {g n c i:Nat}(t:Bag m (s::oT (zG g n c) rows::rows.map Bu))(Y:rows.map (·.2)=X.map txV)(Q:Rec n n X)(hi:i<n) :
 ∃ H L,rows[i]?=some (zG H n L,txV (gM X i))/\ElP m g (0+i*1) (zG H n L)/\∀ j,j<n->ElP m H (0+j*1) (zS (Ae (gR (gM X i) j))):=by
 have a0:rows.length=n:=by have:=congrArg List.length Y;simpa[Q.1] using this
 have h:rows[i]?=some rows[i]:=A01 oV;obtain⟨⟨vi,V⟩,Z⟩:∃ x,rows[i]=x:=⟨_,rfl⟩;rw[Z]at h;have U:V=txV (gM X i):=by
  have W:(rows.map (·.2))[i]?=some V:=by rw[A1a,h];rfl
  have J:i<X.length:=by rw[Q.1];exact hi
  rw[Y,A1a,A01 J]at W;rw[Ch J];simpa using W.symm
 subst U;have E:(txV (gM X i)).length=n:=by rw[Bgm,Q.2 i hi]
 obtain⟨H,L,e⟩:=t.ptr (i+2) (Lw h) (by intro e;simp only[Bu]at e;rw[e]at E;simp at E;omega);simp only[Bu]at e;rw[E]at e;subst e;refine⟨H,L,h,t.el 1 (x:=oT _ rows) rfl rfl (by show (rows.map (·.1))[i]?=_;rw[A1a,h];rfl),fun j hj=>?_⟩;have I:j<(gM X i).length:=by rw[Q.2 i hi];exact hj
 exact t.el (i+2) (x:=Bu _) (Lw h) rfl (by show (txV (gM X i))[j]?=_;unfold txV;rw[A1a,A01 I,Cu I];rfl)
def V9 {v:Value}{a:zP}(h:Bag m (s::oT (.slice a n c) rows::rows.map Bu))(V:rows.map (·.2)=X.map txV)(U:PH.le m u):C7 u (.slice a n c) (Cv X):=by
 obtain⟨m0,h0,_⟩:=h.focus 1 rfl;have I:rows.length=X.length:=by have:=congrArg List.length V;simpa using this
 rw[Aaa]at h0;refine⟨rows.map (·.1),h0.list U,by simp[Cv,I],fun j r t=>?_⟩;unfold Cv at t;rw[A1a]at t;cases hx:X[j]? with
 |none=>rw[hx]at t;cases t
 |some x =>
  rw[hx]at t;simp only[A4c,A1f]at t;subst t;obtain⟨Y,_⟩:=A05.1 hx;have e:rows[j]?=some rows[j]:=A01 oV;obtain⟨⟨vi,L⟩,W⟩:∃ x,rows[j]=x:=⟨_,rfl⟩;rw[W]at e;have H:L=txV x:=by
   have E:(rows.map (·.2))[j]?=some L:=by rw[A1a,e];rfl
   rw[V,A1a,hx]at E;simpa using E.symm
  subst H;obtain⟨Z,E,_⟩:=h.focus (j+2) (Lw e);rw[D6]at E;obtain⟨a1,c1,J⟩:=E.shape;simp only at J;subst J;have Q:=E.list U;simp only[Bgm]at Q;refine⟨a1,c1,by rw[A1a,e];simp[Bgm],?_⟩;rw[A03];unfold Cj;rw[<-J7];exact Q
def D0 (q:Rat)(X:zM):Nat->zM
 |0=>X
 |1=>X
 |i+2=>(D0 q X (i+1)).set (i+1) ((gM (D0 q X (i+1)) (i+1)).set (i+1) (gR (gM (D0 q X (i+1)) (i+1)) (i+1)+q))
def Nx {q:Rat}{X:zM}{n:Nat}(e:Rec n n X):∀ i,i<=n->Rec n n (D0 q X i)
 |0,_=>e
 |1,_=>e
 |i+2,h=>by
  have j:=Nx e (q:=q) (i+1) oV;exact I8 j oV (by rw[A21,j.2 (i+1) oV])
theorem Vv {q:Rat}{X:zM}{n:Nat}(H:Rec n n X):∀ i,i<=n->∀ a b,a<n->b<n->en (D0 q X i) a b=en X a b+if a=b/\0<a/\a<i then q else 0
 |0,_,a,b,_,_=>by rw[if_neg oV];show en X a b=en X a b+0;grind
 |1,_,a,b,_,_=>by rw[if_neg oV];show en X a b=en X a b+0;grind
 |i+2,h,a,b,ha,hb=>by
  have e:=Vv H (q:=q) (i+1) oV a b ha hb;have I:=Nx H (q:=q) (i+1) oV;have J:i+1<(gM (D0 q X (i+1)) (i+1)).length:=by rw[I.2 (i+1) oV];omega
  show gR (gM ((D0 q X (i+1)).set (i+1) _) a) b=_;rw[Kb (by rw[I.1];omega)];by_cases j:i+1=a
  ·rw[if_pos j,Aht J];by_cases t:i+1=b
   ·subst j;subst t;rw[if_pos rfl,if_pos ⟨rfl,oV,oV⟩];rw[if_neg oV]at e;show en (D0 q X (i+1)) (i+1) (i+1)+q=_;rw[e];grind
   subst j;rw[if_neg t,if_neg oV];rw[if_neg oV]at e;exact e
  rw[if_neg j];show en (D0 q X (i+1)) a b=_;rw[e];by_cases E:a=b/\0<a/\a<i+1
  ·rw[if_pos E,if_pos oV]
  rw[if_neg E,if_neg oV]
def Azh {r:zR}(h:X[i]?=some r):gM X i=r:=by unfold gM;rw[A02,h];rfl
def Aep {l:zR}{r:Rat}(h:l[i]?=some r):gR l i=r:=by unfold gR;rw[A02,h];rfl
def Aj2 (C:CF)(P:List Par)(hi:i<P.length+1):gM (Lh C P) i=(An P).map (As C ((An P).getD i none)):=by
 have e:i<(An P).length:=by rw[Cp];exact hi
 refine Azh ?_;unfold Lh;rw[A1a,A01 e,A02,A01 e];rfl
def Sj (C:CF)(P:List Par):Rec (P.length+1) (P.length+1) (Lh C P) :=
 ⟨by unfold Lh;rw[A03,Cp],fun i hi=>by rw[Aj2 C P hi,A03,Cp]⟩
def Abs (C:CF)(P:List Par){i j:Nat}(hi:i<P.length+1)(h:j<P.length+1):en (Lh C P) i j=As C ((An P).getD i none) ((An P).getD j none):=by
 have e:j<(An P).length:=by rw[Cp];exact h
 unfold en;rw[Aj2 C P hi];refine Aep ?_;rw[A1a,A02 (l:=An P) (i:=j),A01 e];rfl
def Fd.de (h:Fd q):De 2 2 q:=by
 obtain⟨p,e,j⟩:=h.thirty;exact⟨p,30,e,oV,oV,oV⟩
def Te.cellDe (h:Te u v cv T R F lab C K k P)(e f:Option Par):De 75 18 (As C e f):=by
 cases e<;>cases f
 ·show De 75 18 C.c;rw[h.mom.c];exact (De.nat (a:=2) (by have:=h.mom.lt;omega)).mono oV oV
 ·exact h.mom.s _
 ·exact h.mom.s _
 exact h.mom.t _
theorem Ae1 (h:Te u v cv T R F lab C K k P)(hq:Fd q) :
 zF 16 [v,cv,zS (Ae q)] u fun r Q=>(∃ e:Int,e≠0/\(k=0/\e=12\/e=3/\k≠0/\11<P.length)/\r=.tuple #[.agg #[zN,zN,zN],zI e]) \/
  (k≠0/\P.length<=11/\∃ (pa:zP) (pc:Nat) (xa:zP) (xc:Nat) (ra:zP) (rc:Nat),r=.tuple #[.agg #[.slice pa P.length pc,.slice xa (P.length+1) xc,.slice ra (P.length+1) rc],zO]/\Ac Q (.slice pa P.length pc) 2 (P.map Ap) /\
   C7 Q (.slice xa (P.length+1) xc) (Cv (D0 q (Lh C P) (P.length+1)))/\Cj Q (.slice ra (P.length+1) rc) (((An P).map (Bh C)).map Ae)):=by
 have ad:=Afv h;have ab:=fun (Q:PH) (l:PH.le u Q)=>Afs (h.mono l) hq;have ac:=h.cellDe;obtain⟨xa,xc,xb,xd,xe,xf,rfl,_⟩:=id h.sch;obtain⟨a1,n1,c1,a2,n2,c2,rfl⟩:=id h.cof.opn;refine Fn0.o func16<|G.callO _ _ kV call58 ad ?_;rintro v1 u1 m1 l1 ⟨pa,pc,ya,L,ra,rc,rows,rfl,a8,t,E⟩ _;rw[By];refine G.nF 0 0<|G.c call59 (ab u1 l1) ?_;rintro v2 u2 l2 rfl;by_cases h0:k=0
 ·rw[if_pos h0];exact G.nT 12 0<|G.drop PH.mt kV (PH.mt_le _)<|G.r (.tuple #[.agg #[zN,zN,zN],zI 12]) ⟨rfl,.inl ⟨12,oV,.inl ⟨h0,rfl⟩,rfl⟩⟩
 rw[if_neg h0];refine G.nF 0 0 ?_;by_cases ae:P.length+1>12
 ·exact G.gT (P.length+1:Nat) 12<|G.drop PH.mt kV (PH.mt_le _)<|G.r (.tuple #[.agg #[zN,zN,zN],zI 3]) ⟨rfl,.inl ⟨3,oV,.inr ⟨rfl,h0,oV⟩,rfl⟩⟩
 refine G.gF (P.length+1:Nat) 12 ?_;have hX:=Sj C P;generalize aa:Lh C P=X at t hX;have a9:∀ i j,i<P.length+1->j<P.length+1->De 75 18 (en X i j):=fun i j hi hj=>by rw[<-aa,Abs C P hi hj];exact ac _ _
 have a5:rows.length=P.length+1:=by have:=congrArg List.length t;simpa[hX.1] using this
 obtain⟨go,co,eo⟩:=E.ptr 1 rfl (fun e=>by
  have:(rows.map (·.1)).length=0:=by rw[show rows.map (·.1) = [] from e];rfl
  rw[A03]at this;omega)
 have a6:(Value.slice ya (P.length+1) L)=zG go (P.length+1) co:=by
  have e1:(oT (.slice ya (P.length+1) L) rows).v=Value.slice ya (P.length+1) L:=rfl;rw[e1]at eo;rw[eo];have:(oT (.slice ya (P.length+1) L) rows).es.length=P.length+1:=by show (rows.map (·.1)).length=_;rw[A03,a5]
  rw[this]
 cases a6;refine G.l (ι:=Nat×List (Value×zV)) (fun i=>[(2,tV (Ae q)),(6,.p 2 0),(8,.p 1006 0),(11,iV i.1)])
  (fun _=>[(2,⟨57,[sN,sN,sN]⟩),(1006,⟨57,[sV pa P.length pc,sV (zA go) (P.length+1) L,sV ra (P.length+1) rc]⟩)])
  (fun i Q m'=>1<=i.1/\i.1<=P.length+1/\i.2.map (·.2)=(D0 q X i.1).map txV/\Bag m' (Bu (.slice ra (P.length+1) rc,txV ((An P).map (Bh C)))::oT (zG go (P.length+1) L) i.2::i.2.map Bu)) (fun i=>P.length+1-i.1)
  (1,rows) ⟨oV,oV,t,E⟩ ?_
 clear E t a5;rintro J ⟨i,rows⟩ hJ u3 m3 l3 ⟨a7,hi,t,E⟩;simp only at a7 hi t E hJ;have W:=Nx (q:=q) hX i hi;by_cases H:i<P.length+1
 ·refine G.lT i (P.length+1:Nat) ?_;obtain⟨gi,U,a4,e1,e2⟩:=Ayw E t W H;have Z:gR (gM (D0 q X i) i) i=en X i i:=by
   have:=Vv (q:=q) hX i hi i i H H;rw[if_neg oV]at this;show en (D0 q X i) i i=_;rw[this];grind
  have hd:=a9 i i H H;refine G.O (P.length+1) L H e1<|G.O (P.length+1) U H (e2 i H) ?_;rw[Z];have ha:=hd.add hq.de (f:=77) oV oV;refine G.c call60 (Aug (hd.tx oV oV oV oV) hq.tx (ha.tx oV oV oV oV)) ?_;rintro v4 u4 l4 rfl;refine G.nF 0 0<|G.O (P.length+1) L H e1<|G.a gi 0 (P.length+1) U i 1 H ?_;obtain⟨m0,I,a3⟩:=E.focus (i+2) (Lw a4);rw[D6]at I;have af:(txV (gM (D0 q X i) i)).length=P.length+1:=by rw[Bgm,W.2 i H]
  refine G.storeA 1 m0 (txV (gM (D0 q X i) i)) gi (P.length+1) U i (zS (Ae (en X i i+q))) kV I oV rfl rfl ?_;intro m5 V;have es:(txV (gM (D0 q X i) i)).set i (zS (Ae (en X i i+q)))=txV ((gM (D0 q X i) i).set i (gR (gM (D0 q X i) i) i+q)):=by
   rw[Z];unfold txV;rw[A2g]
  rw[es]at V;have Y:=a3 (Bu (zG gi (P.length+1) U,txV ((gM (D0 q X i) i).set i (gR (gM (D0 q X i) i) i+q)))) m5 V;rw[Agw,<-Aho a4 (es':=txV ((gM (D0 q X i) i).set i (gR (gM (D0 q X i) i) i+q)))]at Y;refine G.i i<|G.b (hJ (i+1,rows.set i (zG gi (P.length+1) U,txV ((gM (D0 q X i) i).set i (gR (gM (D0 q X i) i) i+q)))) _ _ _ cV (l3.trans l4) ⟨dV,dV,?_,Y⟩ dV);dsimp only;obtain⟨j,rfl⟩:∃ j,i=j+1:=⟨i-1,oV⟩;rw[A2g,t,<-A2g];rfl
 obtain rfl:i=P.length+1:=oV;refine G.lF (P.length+1:Nat) (P.length+1:Nat)<|G.giveP (ma:=m3) (sm:=PH.mt) kV (by funext g;unfold PH.or;cases m3 g<;>rfl) (fun g=>.inr rfl) (fun g=>.inl rfl) ?_
 intro u6 l6 a0;obtain⟨m0,I,_⟩:=E.focus 0 rfl;rw[D6]at I;have hR:Cj u6 (.slice ra (P.length+1) rc) (((An P).map (Bh C)).map Ae):=by
  unfold Cj;rw[<-J7];exact I.list a0
 exact G.r (.tuple #[.agg #[.slice pa P.length pc,zG go (P.length+1) L,.slice ra (P.length+1) rc],zO]) ⟨rfl,.inr ⟨h0,oV,pa,pc,_,L,ra,rc,rfl,a8.mono ((l2.trans l3).trans l6),V9 (v:=zT) E t a0,hR⟩⟩
end
section
variable {n q:Nat}
structure Tq (q:Rat):Prop where
 tx:Tx q
 den:q.den ∣ 21600
 num:q.num.natAbs<=3000000000000
def A0p {q d:Nat}(h:q ∣ 21600)(e:d ∣ 21600):q*(d/Nat.gcd q d) ∣ 21600:=by
 rw[<-Nat.mul_div_assoc _ (Nat.gcd_dvd_right _ _)];exact Ba7 h e
def leW (h:q ∣ 21600):0<q/\q<=21600:=⟨Nat.pos_of_dvd_of_pos h oV,A48 oV h⟩
def nlM (h:n<1000000000000000000):nl n<=2:=A4 (by simpa using h)
def Awq (h:n<100000000000000000):Lib.nDigits n<=17:=Cz (k:=17) oV oV
def Amo {u:PH}{v:Value}{A:zM}{n w:Nat}(h:C7 u v (Cv A))(hA:A.length<=12)(hr:∀ r∈A,r.length=w)(hw:w<=12)(hT:∀ r∈A,∀ q∈r,Tq q)(hn:n<=12):zF 138 [v,zI n] u fun v' _=>v'=zL:=by
 obtain⟨a,c,rfl⟩:=h.opn;rw[A3]at h⊢;refine Fn0.o func138<|G.c call67 (Ac6 (n:=1) oV oV) ?_;intro v1 u1 l1 k1;obtain⟨f1,rfl⟩:=k1.opB;refine G.l (ι:=Nat×B3×Nat) (fun i=>[(0,sV a A.length c),(1,iV n),(5,.p 1001 0),(18,iV A.length),(19,iV i.1)]) (fun i=>[(1001,⟨67,bc i.2.1⟩)])
  (fun i u' X=>i.1<=A.length/\i.2.2 ∣ 21600/\Do u' (bv i.2.1) (i.2.2:Int)/\X=PH.mt) (fun i=>A.length-i.1) (0,f1,1) ⟨A1t _,Ba6 _,k1,rfl⟩ ?_
 rintro J ⟨i,f,q⟩ hJ u2 m2 l2 ⟨hi,I,H,rfl⟩;simp only at hi I H hJ;by_cases m:i<A.length
 ·refine G.lT i A.length ?_;obtain⟨b1,o1,a1,c1,rfl,Q,Z⟩:=(h.mono (l1.trans l2)).row (Dw (A01 m));rw[A03,hr _ (A09 m)]at Q Z;refine G.N A.length c m Q<|G.l (ι:=Nat×B3×Nat) (fun k=>[(0,sV (some ⟨b1,o1,none⟩) A.length c),(1,iV n),(5,.p 1001 0),(18,iV A.length),(19,iV i),(6,iV i),(26,iV w),(27,iV k.1)]) (fun k=>[(1001,⟨67,bc k.2.1⟩)])
   (fun k u' X=>k.1<=w/\k.2.2 ∣ 21600/\Do u' (bv k.2.1) (k.2.2:Int)/\X=PH.mt) (fun k=>w-k.1) (0,f,q) ⟨A1t _,I,H,rfl⟩ ?_
  clear H I;rintro J2 ⟨k,f,q⟩ F u3 m3 P ⟨hk,I,H,rfl⟩;simp only at hk I H F;by_cases E:k<w
  ·refine G.lT k w ?_;have C:k<A[i].length:=by rw[hr _ (A09 m)];exact E
   have t:Tq A[i][k]:=hT _ (A09 m) _ (A09 C);obtain⟨b2,o2,rfl,e3⟩:=Ac.at' (Ac.mono Z P) (j:=k) (e:=zS (Ae A[i][k])) (by simp[Cc,A01 C]);refine G.N A.length c m (Q.mono P)<|G.N w c1 E e3<|G.c call27 (G8 t.tx) ?_;intro v4 u4 K k4;obtain⟨b4,a4,n4,c4,ah,an,aj,rfl,_,_,a6⟩:=k4.opn;have hd:=t.den;generalize A[i][k]=x at *
   obtain⟨a8,a0⟩:=leW hd;obtain⟨T,a3⟩:=leW I;have al:0<Nat.gcd q x.den:=Nat.gcd_pos_of_pos_left _ T;refine G.c call145 (Abo (H.mono K) a6 (A04 (nl1 oV) oV) (A04 (nl1 oV) oV)) ?_;intro v5 u5 Y k5;simp only[A1s]at k5;obtain⟨f5,rfl⟩:=k5.opB;have ae:Nat.gcd q x.den<=q:=Nat.gcd_le_left _ T;refine G.c call147 (Q5 (a6.mono Y) k5 (A04 (nl1 oV) oV) (A04 (nl1 oV) oV) oV) ?_;rintro v6 u6 l6 ⟨x6,y6,rfl,U,V⟩;obtain⟨f6,rfl⟩:=U.opB;obtain⟨a7,rfl⟩:=V.opB;have e6:((x.den:Int)).tdiv ((Nat.gcd q x.den:Nat):Int)=((x.den/Nat.gcd q x.den:Nat):Int):=by
    rw[A32 oV];rfl
   rw[e6]at U;have L:=A0p I hd;have a9:x.den/Nat.gcd q x.den<=x.den:=A3u _ _;refine G.c call74 (Gg (H.mono (((K.trans Y).trans l6))) U (A04 (nl1 oV) oV) (A04 (nlN oV) oV)) ?_;intro v7 u7 l7 W;obtain⟨f7,rfl⟩:=W.opB;rw[<-A4d]at W;generalize q*(x.den/Nat.gcd q x.den)=r at *
   obtain⟨am,ag⟩:=leW L;refine G.c call206 (Q0 W (A04 (nlM oV) oV)) ?_;rintro v8 u8 l8 rfl;have R:Lib.nDigits (r:Int).natAbs<=17:=Awq oV;generalize Lib.nDigits (r:Int).natAbs=D at *
   have ab:n*D<=12*17:=A25 hn R;exact G.mul (n:Int) (D:Int) ((n*D:Nat):Int) kV (by rw[A4d]) oV oV<|G.gF (n*D:Nat) 600<|G.i k<|G.b (F (k+1,f7,r) _ _ _ cV (((((P.trans K).trans Y).trans l6).trans l7).trans l8) ⟨dV,L,W.mono l8,rfl⟩ dV)
  exact G.lF k w<|G.i i<|G.b (hJ (i+1,f,q) _ _ _ cV (l2.trans P) ⟨dV,I,H,rfl⟩ dV)
 refine G.lF i A.length ?_;clear hJ m hi;refine G.l (ι:=Nat) (fun i=>[(0,sV a A.length c),(1,iV n),(5,.p 1001 0),(58,iV A.length),(59,iV i)]) (fun i=>[(1001,⟨67,bc f⟩)])
  (fun i u' X=>i<=A.length/\X=PH.mt) (fun i=>A.length-i) 0 ⟨A1t _,rfl⟩ ?_
 rintro J i hJ u3 m3 P ⟨hi,rfl⟩;by_cases m:i<A.length
 ·refine G.lT i A.length ?_;obtain⟨b1,o1,a1,c1,rfl,Q,Z⟩:=(h.mono ((l1.trans l2).trans P)).row (Dw (A01 m));rw[A03,hr _ (A09 m)]at Q Z;refine G.N A.length c m Q<|G.l (ι:=Nat) (fun k=>[(0,sV (some ⟨b1,o1,none⟩) A.length c),(1,iV n),(5,.p 1001 0),(58,iV A.length),(59,iV i),(11,iV i),(66,iV w),(67,iV k)]) (fun k=>[(1001,⟨67,bc f⟩)])
   (fun k u' X=>k<=w/\X=PH.mt) (fun k=>w-k) 0 ⟨A1t _,rfl⟩ ?_
  rintro J2 k F u4 m4 K ⟨hk,rfl⟩;by_cases E:k<w
  ·refine G.lT k w ?_;have C:k<A[i].length:=by rw[hr _ (A09 m)];exact E
   have t:Tq A[i][k]:=hT _ (A09 m) _ (A09 C);obtain⟨b2,o2,rfl,e3⟩:=Ac.at' (Ac.mono Z K) (j:=k) (e:=zS (Ae A[i][k])) (by simp[Cc,A01 C]);refine G.N A.length c m (Q.mono K)<|G.N w c1 E e3<|G.c call27 (G8 t.tx) ?_;intro v5 u5 Y k5;obtain⟨b5,a5,n5,c5,ai,ao,ak,rfl,_,ad,ac⟩:=k5.opn;have hd:=t.den;have a2:=t.num;generalize A[i][k]=x at *
   obtain⟨a8,a0⟩:=leW hd;obtain⟨T,a3⟩:=leW I;have aa:=H.mono ((P.trans K).trans Y);refine G.c call147 (Q5 aa ac (A04 (nlM oV) oV) (A04 (nl1 oV) oV) oV) ?_;rintro v6 u6 l6 ⟨x6,y6,rfl,U,V⟩;obtain⟨f6,rfl⟩:=U.opB;obtain⟨a7,rfl⟩:=V.opB;have e6:((q:Int)).tdiv (x.den:Int)=((q/x.den:Nat):Int):=by
    rw[A32 oV];rfl
   rw[e6]at U;have a9:q/x.den<=q:=A3u _ _;refine G.c call74 (Gg (ad.mono l6) U (A04 (nlM oV) oV) (A04 (nlN oV) oV)) ?_;intro v7 u7 l7 W;obtain⟨f7,rfl⟩:=W.opB;have af:(x.num*((q/x.den:Nat):Int)).natAbs<=3000000000000*21600:=by
    rw[A26,A1s];exact A25 a2 oV
   refine G.c call206 (Q0 W (A04 (nlM oV) oV)) ?_;rintro v8 u8 l8 rfl;have R:Lib.nDigits (x.num*((q/x.den:Nat):Int)).natAbs<=17:=Awq oV;generalize Lib.nDigits (x.num*((q/x.den:Nat):Int)).natAbs=D at *
   have ab:n*D<=12*17:=A25 hn R;exact G.mul (n:Int) (D:Int) ((n*D:Nat):Int) kV (by rw[A4d]) oV oV<|G.gF (n*D:Nat) 600<|G.i k<|G.b (F (k+1) _ _ _ cV ((((K.trans Y).trans l6).trans l7).trans l8) ⟨oV,rfl⟩ oV)
  exact G.lF k w<|G.i i<|G.b (hJ (i+1) _ _ _ cV (P.trans K) ⟨oV,rfl⟩ oV)
 exact G.lF i A.length<|G.gF n 600<|G.z zL
end
section
variable {X:zM}{n p r w:Nat}
def Ay1 (n m:Nat)(X:zM)(y:Nat->Rat):Prop:=∀ i,i<n->Bb n (fun j=>en X i j*y j)=en X i m
theorem Yt (h:Rec n w X)(P:n<=w)(C:r<n)(hp:p<n)(K:r<=p)(h0:en X p r≠0)(F:∀ i j,i<n->j<r->en X i j=if i=j then 1 else 0) :
 ∀ i j,i<n->j<r+1->en (J8 X r r p) i j=if i=j then 1 else 0:=by
 intro i j hi L;unfold J8;rw[h.1];have E:Rec n w (if p=r then X else If X p r):=by
  split
  ·exact h
  exact Mk h hp C
 have u:∀ i j,en (if p=r then X else If X p r) i j=if i=r then en X p j else if i=p then en X r j else en X i j:=fun i j=>by
  split
  ·rename_i e;subst e;split
   ·rename_i e;rw[e]
   rfl
  rw[Si h hp C]
 rw[Acm C oV n 0 _ oV (R8 E C) i j oV,Jd E C i j,Jd E C i r,Jd E C r j,if_pos rfl,u i j,u i r,u r j,u r r,if_pos rfl,if_pos rfl];have I:en X p r*(1/en X p r)=1:=by grind
 generalize 1/en X p r=q at *
 by_cases m:i=r
 ·rw[if_neg oV,if_pos m,if_pos m];by_cases H:j=r
  ·rw[H,m,if_pos rfl,I]
  rw[F p j hp oV,if_neg oV,if_neg oV];grind
 rw[if_pos ⟨oV,oV,m⟩,if_neg m,if_neg m,if_neg m,if_neg m];by_cases H:j=r
 ·subst H;rw[if_neg m];generalize (if i=p then en X j j else en X i j)=t;rw[show t-t*(en X p j*q)=t-t*(en X p j*q) from rfl,I];grind
 rw[F p j hp oV,if_neg (show ¬ p=j by omega)];by_cases J:i=p
 ·rw[if_pos J,F r j C oV,if_neg (show ¬ r=j by omega),if_neg (show ¬ i=j by omega)];grind
 rw[if_neg J,F i j hi oV];grind
theorem Aes (n:Nat)(a b y:Nat->Rat)(t:Rat):Bb n (fun j=>(a j-t*b j)*y j)=Bb n (fun j=>a j*y j)-t*Bb n (fun j=>b j*y j):=by
 rw[<-B4,<-Y8];exact Ah fun j _=>by grind
theorem Afg (n:Nat)(b y:Nat->Rat)(q:Rat):Bb n (fun j=>(b j*q)*y j)=q*Bb n (fun j=>b j*y j):=by
 rw[<-B4];exact Ah fun j _=>by grind
theorem Ans {n w m r c p:Nat}{y:Nat->Rat}(h:Rec n w X)(W:n<=w)(V:m<w)(t:r<n)(hp:p<n)(U:c<n)(h0:en X p c≠0)(R:Ay1 n m (J8 X r c p) y):Ay1 n m X y:=by
 have J:Rec n w (if p=r then X else If X p r):=by
  split
  ·exact h
  exact Mk h hp t
 have u:∀ i j,en (if p=r then X else If X p r) i j=if i=r then en X p j else if i=p then en X r j else en X i j:=fun i j=>by
  split
  ·rename_i e;subst e;split
   ·rename_i e;rw[e]
   rfl
  rw[Si h hp t]
 have C:∀ k j,k<n->j<w->en (J8 X r c p) k j=if k=r then en X p j*(1/en X p c) else (if k=p then en X r j else en X k j)-(if k=p then en X r c else en X k c)*(en X p j*(1/en X p c)):=by
  intro k j K Q;unfold J8;rw[h.1,Acm t oV n 0 _ oV (R8 J t) k j Q,Jd J t k j,Jd J t k c,Jd J t r j,if_pos rfl,u k j,u k c,u r j,u r c,if_pos rfl,if_pos rfl];by_cases e:k=r
  ·rw[if_neg oV,if_pos e,if_pos e,if_pos e]
  rw[if_pos ⟨oV,oV,e⟩,if_neg e,if_neg e,if_neg e,if_neg e,if_neg e]
 have T:en X p c*(1/en X p c)=1:=by grind
 generalize 1/en X p c=q at *
 have H:Bb n (fun j=>en X p j*y j)=en X p m:=by
  have E:=R r t;rw[Ah (g:=fun j=>(en X p j*q)*y j) fun j Q=>by rw[C r j t oV,if_pos rfl],C r m t oV,if_pos rfl,Afg]at E;generalize Bb n (fun j=>en X p j*y j)=S at *
  have:en X p c*(q*S)=en X p c*(en X p m*q):=by rw[E]
  grind
 have F:∀ k,k<n->k≠r->Bb n (fun j=>(if k=p then en X r j else en X k j)*y j)=if k=p then en X r m else en X k m:=by
  intro k K I;have E:=R k K;rw[Ah (g:=fun j=>((if k=p then en X r j else en X k j)-((if k=p then en X r c else en X k c)*q)*en X p j)*y j) fun j Q=>by rw[C k j K oV,if_neg I];grind,C k m K oV,if_neg I,Aes,H]at E;grind
 intro i hi;by_cases L:i=p
 ·rw[L];exact H
 by_cases P:i=r
 ·have E:=F p hp (fun e=>L (by rw[P,e]));rw[P];simpa using E
 have E:=F i hi P;simpa[L] using E
theorem Z5 {n w m:Nat}(H:n<=w)(F:m<w):∀ f c P X d,c+f=n->P.length=c->Rec n w X->(∀ i j,i<n->j<c->en X i j=if i=j then 1 else 0) ->
 ¬ (Bn f c P X d).1.length<n->Ay1 n m X (fun i=>en (Bn f c P X d).2.1 i m)
 |0,c,P,X,d,hc,hP,h,hu,e=>by
  have I:Bn 0 c P X d=(P,X,d):=rfl;rw[I];intro i hi;have:∀ l,l<=n->Bb l (fun j=>en X i j*en X j m)=if i<l then en X i m else 0:=by
   intro l;induction l with
   |zero=>intro _;rw[Uk,if_neg oV]
   |succ l ih =>
    intro e;rw[Ds,ih oV,hu i l hi oV];by_cases u:i<l
    ·rw[if_pos u,if_neg oV,if_pos oV];grind
    by_cases C:i=l
    ·rw[if_neg u,if_pos C,if_pos oV,<-C];grind
    rw[if_neg u,if_neg C,if_neg oV];grind
  rw[this n (A08 _),if_pos hi]
 |f+1,c,P,X,d,hc,hP,h,hu,e=>by
  revert e
  unfold Bn;rw[if_pos (show P.length<X.length by rw[h.1];omega)];obtain⟨L,Q⟩:=Ss X c (X.length-P.length) P.length;have J:=W7 X c (X.length-P.length) P.length;generalize El X c (X.length-P.length) P.length=p at *
  split
  ·intro e;have:=Yb f (c+1) P X d;omega
  rename_i hpx;intro e;have K:=h.1;have t:p<n:=oV;have h0:=J oV;rw[hP]at e⊢;have E:=Yt h oV (show c<n by omega) t oV h0 hu;exact Ans h H F oV t oV h0 (Z5 H F f (c+1) (P++[c]) (J8 X c c p) _ oV (by simp[hP]) (Xw h oV t) E e)
end
def Bgd (n:Nat)(X:zM)(y:Nat->Rat):Prop:=∀ i,i<n->Bb n (fun j=>en X i j*y j)=en X i n
def Bf6 {n:Nat}(f c:Nat)(P:zK)(X:zM)(d:Rat)(m:c+f=n)(e:P.length=c)(h:Rec n (n+1) X)(u:∀ i j,i<n->j<c->en X i j=if i=j then 1 else 0)(t:¬ (Bn f c P X d).1.length<n) :
 Bgd n X (fun i=>en (Bn f c P X d).2.1 i n):=Z5 oV oV f c P X d m e h u t
section
variable {A:zM}{b l:zR}{i j:Nat}{q:Rat}
def Ad3 {m0 m:PH}{v:Value}{t:TypeId}{sz:Nat}{es:zV}(h:Af m0 m v t sz es):PH.le m0 m:=by
 rcases h.2 with ⟨_,_,rfl⟩|⟨g,cap,rest,e,rfl,_⟩
 ·exact PH.le_refl _
 exact Jw _ e
def Wp {n w:Nat}:∀ f c P X d,Rec n w X->Rec n w (Bn f c P X d).2.1
 |0,_,_,_,_,h=>h
 |f+1,c,P,X,d,h=>by
  rw[Bn];by_cases e:P.length<X.length
  ·rw[if_pos e];by_cases hp:El X c (X.length-P.length) P.length=X.length
   ·rw[if_pos hp];exact Wp f _ _ _ _ h
   rw[if_neg hp];have m:=Ss X c (X.length-P.length) P.length;have t:=h.1;exact Wp f _ _ _ _ (Xw h oV oV)
  rw[if_neg e];exact h
def Xz (A:zM)(b:zR):zM:=(List.range A.length).map fun i=>gM A i++[gR b i]
def Bfd (h:i<A.length):gM (Xz A b) i=gM A i++[gR b i]:=by
 unfold Xz;rw[Azh (r:=gM A i++[gR b i])];rw[A1a,A31 h];rfl
def Bfc (e:Sq A):Rec A.length (A.length+1) (Xz A b) :=
 ⟨by simp[Xz],fun i hi=>by rw[Bfd hi,A1d,Ch hi,e.len hi];rfl⟩
def Bgi (h:j<l.length):gR (l++[q]) j=gR l j:=by
 unfold gR;rw[A02,A02,A1r h]
def Bgc (h:j=l.length):gR (l++[q]) j=q:=by
 subst h;unfold gR;rw[A02,A18 (A08 _)];simp
def Bfl (h:Sq A)(hi:i<A.length)(e:j<A.length):en (Xz A b) i j=en A i j:=by
 unfold en;rw[Bfd hi,Bgi (by rw[Ch hi,h.len hi];exact e)]
def Bge (e:Sq A)(hi:i<A.length):en (Xz A b) i A.length=gR b i:=by
 unfold en;rw[Bfd hi,Bgc (by rw[Ch hi,e.len hi])]
def Tq.sz (h:Tq q):Sz q 2:=by
 have h1:=h.num;have h2:=(leW h.den).2;exact⟨nlM oV,nlM oV⟩
def Bgg (u:Sq A)(E:b.length=A.length)(hT:∀ r∈A,∀ q∈r,Tq q)(C:∀ q∈b,Tq q):SzM (Xz A b) 2:=Aco (Bfc u) (fun i j hi F=>by
 by_cases t:j<A.length
 ·have m:j<A[i].length:=by rw[u.len hi];exact t
  have e:=Bfl (b:=b) u hi t;unfold en at e;rw[e,Ch hi,Cu m];exact (hT _ (A09 hi) _ (A09 m)).sz
 obtain rfl:j=A.length:=oV;have e:=Bge (b:=b) u hi;unfold en at e;have h:i<b.length:=oV;rw[e,Cu h];exact (C _ (A09 h)).sz)
def es1 {n:Nat}(h:n<=12):es 2 n<=1000000000:=A04 (Apd 2 h) fV
def Bf1 {u:PH}{v bv:Value}{A:zM}{b:zR}(h:C7 u v (Cv A))(hb:Cj u bv (b.map Ae))(hs:Sq A)(ah:b.length=A.length)(h0:0<A.length)(hT:∀ r∈A,∀ q∈r,Tq q)(a5:∀ q∈b,Tq q)
 (aw:∀ y:Nat->Rat,Bgd A.length (Xz A b) y->∀ i,i<A.length->Tx (y i)) :
 zF 95 [v,bv] u fun r u'=>(∃ e:Int,e≠0/\(Bn A.length 0 [] (Xz A b) 1).1.length<A.length/\r=.tuple #[zN,zI e]) \/
  ∃ qs lv,r=.tuple #[lv,zO]/\qs.length=A.length/\Bgd A.length (Xz A b) (gR qs)/\Cj u' lv (qs.map Ae):=by
 obtain⟨a0,c0,rfl⟩:=h.opn;rw[A3]at h⊢;obtain⟨a1,c1,rfl⟩:=Ac.opn hb;have bd:(Cc (b.map Ae)).length=A.length:=by simp[Cc,ah]
 rw[bd]at hb⊢;have R:=hs.le;refine Fn0.o func95<|G.c call61 (And h hs) ?_;rintro v1 u1 l1 rfl;refine G.nF 0 0<|G.nF A.length A.length<|G.nF A.length A.length ?_;have h1:=h.mono l1;have ae:Cj u1 (.slice a1 A.length c1) (b.map Ae):=Ac.mono hb l1;clear h hb;refine G.l (ι:=Nat) (fun i=>[(0,sV a0 A.length c0),(1,sV a1 A.length c1),(6,iV A.length),(7,iV A.length),(35,sV a1 A.length c1),(36,iV A.length),(37,iV i)]) (fun _=>[])
  (fun i u' m'=>i<=A.length/\m'=PH.mt) (fun i=>A.length-i) 0 ⟨oV,rfl⟩ ?_
 rintro J i hJ u2 m2 l2 ⟨hi,rfl⟩;by_cases C:i<A.length
 ·refine G.lT i A.length ?_;have Q:i<b.length:=oV;obtain⟨b2,o2,rfl,e3⟩:=Ac.at' (Ac.mono ae l2) (j:=i) (e:=zS (Ae b[i])) (by simp[Cc,A01 Q]);refine G.N A.length c1 C e3<|G.c call24 (Ee (a5 _ (A09 Q)).tx) ?_;rintro v3 u3 l3 rfl;exact G.i i<|G.b (hJ (i+1) _ _ _ cV (l2.trans l3) ⟨oV,rfl⟩ oV)
 clear hJ;refine G.lF i A.length ?_;have h2:=h1.mono l2;have af:Cj u2 (.slice a1 A.length c1) (b.map Ae):=Ac.mono ae l2;clear h1 ae;refine G.c call138 (Amo (n:=A.length) (w:=A.length) h2 R hs.row R hT R) ?_;rintro v3 u3 l3 rfl;refine G.c call170 (Bfh (Ac.mono af l3) oV) ?_;intro v4 u4 l4 hc;refine G.c call138 (Amo (n:=A.length) (w:=1) hc (by simp[Bfa,ah,R]) (by simp[Bfa]) oV (by simpa[Bfa] using a5) R) ?_;rintro v5 u5 l5 rfl;have lx:=(l3.trans l4).trans l5;refine G.callO _ _ kV call62 (Ane (h2.mono lx) hs) ?_;rintro v6 u6 m6 l6 ⟨a6,co,a3,rfl,ad,I⟩ _;rw[By];have am:Cj u6 (.slice a1 A.length c1) (b.map Ae):=Ac.mono af (lx.trans l6);have V:a3.length=A.length:=ad.1;obtain⟨go,bm,eo⟩:=I.ptr 0 rfl (by intro e;simp only[oQ,A6c]at e;rw[e]at V;simp at V;omega);simp only[oQ,A03,V,Value.slice.injEq,true_and]at eo;obtain⟨rfl,rfl⟩:=eo;clear h2 af hc;refine G.l (ι:=Nat×List (Value×zV)) (fun i=>[(1,sV a1 A.length c1),(6,iV A.length),(7,iV A.length),(11,sV (zA go) A.length co),(57,iV A.length),(58,iV i.1)]) (fun _=>[])
  (fun i u' m'=>i.1<=A.length/\i.2.length=A.length/\(∀ j r,i.2[j]?=some r->AtP QP u' r.2 (gM A j++if j<i.1 then [gR b j] else []))/\Bag m' (oQ (zG go A.length co) i.2::i.2.map Ej)) (fun i=>A.length-i.1) (0,a3)
  ⟨oV,V,fun j r K=>by rw[if_neg oV,A1x];exact ad.2 j r K,I⟩ ?_
 clear I ad V;rintro J ⟨i,m⟩ hJ u7 m7 l7 ⟨hi,aj,hQ,F⟩;simp only at hi aj hQ F hJ;by_cases C:i<A.length
 ·refine G.lT i A.length ?_;have W:m[i]?=some m[i]:=A01 oV;have t:=hQ i _ W;rw[if_neg (Nat.lt_irrefl _),A1x]at t;obtain⟨⟨vi,L⟩,he⟩:∃ x,m[i]=x:=⟨_,rfl⟩;rw[he]at W t;simp only at t;have H:L.length=A.length:=by rw[t.1,Ch C,hs.len C]
  have av:(oQ (zG go A.length co) m::m.map Ej)[i+1]?=some (Ej (vi,L)):=by simp[W]
  obtain⟨gi,ci,e⟩:=F.ptr (i+1) av (by intro e;simp only[Ej]at e;rw[e]at H;simp at H;omega);simp only[Ej]at e;rw[H]at e;subst e;have bg:ElP m7 go (0+i*1) (zG gi A.length ci):=F.el 0 (x:=oQ _ _) rfl rfl (by simp[oQ,W]);refine G.O A.length co C bg ?_;have Q:i<b.length:=oV;obtain⟨b2,o2,rfl,e3⟩:=Ac.at' (Ac.mono am l7) (j:=i) (e:=zS (Ae b[i])) (by simp[Cc,A01 Q]);refine G.N A.length c1 C e3<|G.c call27 (G8 (a5 _ (A09 Q)).tx) ?_;intro v8 u8 l8 k8;obtain⟨P,rfl⟩:=k8.opQ;refine G.B 69 4 64 zQ [qv P] (Akh P) ?_;intro g9 u9 l9 e9;obtain⟨mm,Y,au⟩:=F.focus (i+1) av;rw[Rg]at Y;refine G.append 69 4 64 zQ mm L [qv P] (zG gi A.length ci) g9 0 1 1 kV rfl rfl oV Y e9 (Akh P) rfl oV oV oV ?_;intro bk a8 ab;have a9:=au (Ej (bk,L++[qv P])) a8 ab;obtain⟨T,U,rfl⟩:=ab.shape;rw[A2j]at a9;obtain⟨mo,az,ai⟩:=a9.focus 0 rfl;rw[Al7]at az;refine G.a go 0 A.length co i 1 C<|G.storeA 1 mo _ go A.length co i (.slice T (L++[qv P]).length U) kV az gV rfl rfl ?_;intro bi ac;rw[show (m.map (·.1)).set i (Value.slice T (L++[qv P]).length U)=(m.set i (Value.slice T (L++[qv P]).length U,L++[qv P])).map (·.1) by rw[A2g]]at ac;have aa:=ai (oQ (zG go A.length co) (m.set i (Value.slice T (L++[qv P]).length U,L++[qv P]))) bi ac;rw[A2p,<-A2g]at aa;refine G.i i<|G.b (hJ (i+1,m.set i (Value.slice T (L++[qv P]).length U,L++[qv P])) _ _ _ cV ((l7.trans l8).trans l9) ⟨dV,by dsimp only;rw[A21];exact aj,?_,aa⟩ dV);intro j r K;dsimp only at K⊢;rw[A1z]at K;by_cases an:i=j
  ·subst an;rw[if_pos rfl,if_pos oV]at K;cases K;rw[if_pos oV,Cu Q];exact (t.mono (fun _ _ k=>k.mono (l8.trans l9))).snoc (k8.mono l9)
  rw[if_neg an]at K;have h9:=(hQ j r K).mono (fun _ _ k=>k.mono (l8.trans l9));by_cases ap:j<i
  ·rw[if_pos ap]at h9;rw[if_pos oV];exact h9
  rw[if_neg ap]at h9;rw[if_neg oV];exact h9
 clear hJ;obtain rfl:i=A.length:=oV;refine G.lF A.length A.length ?_;have a4:=Bfc (b:=b) hs;have b9:=Bgg hs ah hT a5;have b7:QAt u7 m (Xz A b):=⟨by rw[aj,a4.1],fun j r K=>by
  have ao:j<A.length:=by
   obtain⟨q1,_⟩:=A05.1 K;omega
  have h9:=hQ j r K;rw[if_pos ao]at h9;rw[Bfd ao];exact h9⟩
 clear hQ am;refine G.A call139 (Apb a4 oV oV oV b9 oV (es1 R) b7 F) ?_;rintro v8 u8 m8 l8 ⟨pa,pc,f,a2,rfl,_,b6,ag⟩ _;rw[By];have ak:=Bf6 A.length 0 [] (Xz A b) 1 oV rfl a4 (fun i j _ K=>absurd K (Nat.not_lt_zero _));have hE:=Wp A.length 0 [] (Xz A b) 1 a4;generalize bo:Bn A.length 0 [] (Xz A b) 1=E at *
 by_cases C:E.1.length<A.length
 ·exact G.lT E.1.length A.length<|G.drop PH.mt kV (PH.mt_le _)<|G.r (.tuple #[zN,zI 6]) ⟨rfl,.inl ⟨6,oV,C,rfl⟩⟩
 have X:=ak C;have b8:=aw _ X;refine G.lF E.1.length A.length ?_;obtain⟨m9,ax,ba⟩:=ag;refine G.drop m9 kV (Ad3 ax) ?_;clear ax;refine G.l (ι:=Nat×(zP×Nat)×zV) (fun i=>[(7,iV A.length),(11,sV (zA go) A.length co),(15,sV i.2.1.1 i.1 i.2.1.2),(87,iV A.length),(88,iV i.1)]) (fun _=>[])
  (fun i u' m'=>i.1<=A.length/\AtP QP u' i.2.2 ((List.range i.1).map fun k=>en E.2.1 k A.length)/\Bag m' (Ej (.slice i.2.1.1 i.1 i.2.1.2,i.2.2)::oQ (zG go A.length co) a2::a2.map Ej)) (fun i=>A.length-i.1) (0,(none,0),[])
  ⟨oV,AtP.nil,m9,Af.nil _ _ _,ba⟩ ?_
 rintro J ⟨i,⟨ra,rc⟩,es⟩ hJ br a8 b0 ⟨hi,t,a7⟩;simp only at hi t a7 hJ;have H:es.length=i:=by rw[t.1];simp
 by_cases aq:i<A.length
 ·refine G.lT i A.length ?_;obtain⟨gi,ci,L,W,bl,bn,bf,be⟩:=Agr a7 (b6.mono b0) hE aq oV;obtain⟨fi,h5,h6,h7⟩:=be A.length oV;refine G.O A.length co aq bf<|G.o (A.length+1) ci h7<|G.B 69 4 64 zQ [qv fi] (Akh fi) ?_;intro b5 bs al b4;obtain⟨mm,Y,bb⟩:=a7;rw[Rg]at Y;refine G.append 69 4 64 zQ mm es [qv fi] (.slice ra i rc) b5 0 1 1 kV rfl rfl oV Y b4 (Akh fi) rfl oV oV oV ?_;intro bu bq Z;obtain⟨b1,b3,rfl⟩:=Z.shape;have el:(es++[qv fi]).length=i+1:=by simp[H]
  rw[el]at Z⊢;refine G.i i<|G.b (hJ (i+1,(b1,b3),es++[qv fi]) _ _ _ cV (b0.trans al) ⟨dV,?_,mm,Z,bb⟩ dV);dsimp only;rw[A5d,A1i];exact (t.mono (fun _ _ k=>k.mono al)).snoc (h6.mono al)
 clear hJ;obtain rfl:i=A.length:=oV;refine G.lF A.length A.length<|G.giveP (ma:=a8) (sm:=PH.mt) kV (by funext g;unfold PH.or;cases a8 g<;>rfl) (fun g=>.inr rfl) (fun g=>.inl rfl) ?_
 intro bj bh ar;obtain⟨mf,ay,_⟩:=a7.focus 0 rfl;rw[Rg]at ay;have hL:Ac bj (.slice ra es.length rc) 4 es:=by rw[H];simpa[H] using ay.list ar
 rw[H]at hL;refine G.c call83 (Apw hL (t.mono (fun _ _ k=>k.mono bh)) (by
  intro q hq;obtain⟨k,hk,rfl⟩:=A1b.1 hq;exact b8 k (A6q.1 hk)) gV) ?_
 rintro bw bt bp ⟨lv,rfl,hS⟩;refine G.r (.tuple #[lv,zO]) ⟨rfl,.inr ⟨_,lv,rfl,mV,?_,hS⟩⟩;have hg:∀ k,k<A.length->gR ((List.range A.length).map fun k=>en E.2.1 k A.length) k=en E.2.1 k A.length:=fun k hk=>Aep (by rw[A1a,A31 hk];rfl);intro k hk;rw[<-X k hk];exact Ah (fun j K=>by rw[hg j K])
end
section
variable {i j:Nat}{qs:zR}
theorem Wy {q:Rat}{z:Int}{D:Nat}(h:q*(D:Rat)=(z:Rat))(h0:0<D):q.den ∣ D/\q.num.natAbs<=z.natAbs:=by
 have u:q=Rat.divInt z (D:Int):=by
  rw[A37,A2r,<-h];have:=T4 h0;grind
 obtain⟨e,m,E⟩:=O7 (y:=z) (z:=(D:Int)) oV;rw[u];constructor
 ·have t:((Rat.divInt z (D:Int)).den:Int)=((D/Nat.gcd z.natAbs D:Nat):Int):=by
   rw[m,show ((D:Int)).natAbs=D from rfl,A32 oV,<-A5k]
  rw[Int.ofNat.inj t];exact Nat.div_dvd_of_dvd (Nat.gcd_dvd_right _ _)
 rw[e,A8o];exact A3u _ _
section
variable {P:List Par} {C:CF} {q:Rat} {N:Nat}
def Eh (C:CF)(P:List Par)(q:Rat):zM:=D0 q (Lh C P) (P.length+1)
def Yz (C:CF)(P:List Par):zR:=(An P).map (Bh C)
def Rx:Rec (P.length+1) (P.length+1) (Eh C P q):=Nx (Sj C P) _ (A08 _)
def N8 (hi:i<P.length+1)(e:j<P.length+1):en (Eh C P q) i j=As C ((An P).getD i none) ((An P).getD j none)+if i=j/\0<i then q else 0:=by
 unfold Eh;rw[Vv (Sj C P) _ (A08 _) i j hi e,Abs C P hi e];have:(if i=j/\0<i/\i<P.length+1 then q else 0)=if i=j/\0<i then q else 0:=by simp[hi]
 rw[this]
def Ag3:(Yz C P).length=P.length+1:=by unfold Yz;rw[A03,Cp]
def A0b (hi:i<P.length+1):gR (Yz C P) i=Bh C ((An P).getD i none):=by
 have e:=Cp P;refine Aep ?_;unfold Yz;rw[A1a,A02,A01 oV];rfl
def Am9 (m:P.Nodup)(u:qs.length=P.length)(t:j<P.length):Fo P[j] (P.zip qs)=gR qs j:=by
 have h:j<qs.length:=oV
 rw[Cu h];refine Kh ?_ (A3d.2 ⟨j,gV,mV⟩);have e:(P.zip qs).map (·.1)=P:=List.map_fst_zip oV;rw[e];exact m
def Ar2 (e:P.Nodup){m0:Rat}(h:qs.length=P.length):∀ j,j<P.length+1->cfE m0 (P.zip qs) ((An P).getD j none)=gR (m0::qs) j:=by
 intro j m;cases j with
 |zero=>rfl
 |succ j =>
  unfold An;rw[A6b,A02,A1a,A01 oV];show Fo P[j] (P.zip qs)=gR (m0::qs) (j+1);rw[Am9 e h oV];rfl
def Alq (hi:i<P.length+1):(An P).getD i none∈An P:=by
 have:=Cp P;rw[A02,A01 oV];exact A09 _
end
end
end Go.Proofs.YtemmheaocgmebaaGreatDoor
