/- Parts of one proof, joined by a program. -/
import Derived.Test.YtemmheaocgmebaaGreatDoorR10
set_option linter.defProp false
set_option linter.unusedVariables false
set_option linter.unusedSimpArgs false
set_option linter.unusedSectionVars false
set_option maxHeartbeats 16000000
namespace Go.Proofs.YtemmheaocgmebaaGreatDoor
open Go.Proofs.Tryz
open Go.RowKit Go.MapKept
def A6c:=@List.map_eq_nil_iff
def A5r:=@List.perm_append_comm
def Ba8:=@Int.one_mul
section
variable {k:Nat}{s:Src}{ts:List Int}{u:PH}{v:Value}
def Asx {L:List (List UInt8)}(h:J0 u s ts)(H:k<=s.n)(m:Ac u v 1 (L.map nmV))(C:0<L.length)(E:L.length<=1000000) :
 Ag prog 51 [s.ptr,v] u (s.M k) fun v _ J=>∃ t∈L,∃ g:Nat,v=.string (mkS t)/\g<=s.n/\J=s.M g:=by
 obtain⟨a,c,rfl⟩:=m.opn;rw[A03]at m⊢;refine Ag.o func51<|G.A call14 (I4 h H C E) ?_;rintro O N K I ⟨r,g,rfl,F,z,rfl⟩ _;rw[By];obtain⟨b,off,rfl,e⟩:=Ac.at' (m.mono I) (j:=r) (e:=.string (mkS L[r])) (by simp[nmV,A01 F]);exact G.a b off L.length c r 1 F<|G.lU none b (off+r*1) (.string (mkS L[r])) e<|G.r _ ⟨L[r],A09 F,g,rfl,z,rfl⟩
structure Fd (q:Rat):Prop where
 pos:0<q
 thirty:∃ p:Int,q*30=p/\p.natAbs<=90
 tx:Tx q
def Awd:∀ t∈[[49],[49,47,50],[51],[49,47,49,48],[55,47,51]],∃ q:Rat,t=Ae q/\Fd q:=by
 intro t e;simp only[A1g,A11,or_false]at e;rcases e with rfl|rfl|rfl|rfl|rfl
 ·exact⟨1,jV,jV,⟨30,jV,fV⟩,jV,jV⟩
 ·exact⟨1/2,jV,jV,⟨15,jV,fV⟩,jV,jV⟩
 ·exact⟨3,jV,jV,⟨90,jV,fV⟩,jV,jV⟩
 ·exact⟨1/10,jV,jV,⟨3,jV,fV⟩,jV,jV⟩
 exact⟨7/3,jV,jV,⟨70,jV,fV⟩,jV,jV⟩
def Afm (h:J0 u s ts)(z:k<=s.n) :
 Ag prog 12 [s.ptr] u (s.M k) fun v _ H=>∃ (q:Rat) (e:Nat),v=.string (mkS (Ae q))/\Fd q/\e<=s.n/\H=s.M e:=by
 refine Ag.o func12<|G.B 9 1 16 (.string (mkS [])) ([[49],[49,47,50],[51],[49,47,49,48],[55,47,51]].map nmV) (G6 _) ?_;intro g J F m;refine G.A call51 (Asx (L:=[[49],[49,47,50],[51],[49,47,49,48],[55,47,51]]) (h.mono F) z m.listP mV mV) ?_;rintro N K I l2 ⟨t,E,e,rfl,j,rfl⟩ _;rw[By];obtain⟨q,rfl,C⟩:=Awd t E;exact G.r (.string (mkS (Ae q))) ⟨q,e,rfl,C,j,rfl⟩
def Afs {v m:Value}{T:List (List UInt8×Nat)}{R:List Br}{F:List Al}{lab:Int}{C:CF}{K k:Nat}{P:List Par}{q:Rat}(h:Te u v m T R F lab C K k P)(j:Fd q) :
 Fn0 prog 59 [m,.string (mkS (Ae q))] u fun r _=>r=.int .i64 (if k=0 then 12 else 0):=by
 have e:=h.mom;obtain⟨a1,n1,c1,a2,n2,c2,rfl⟩:=id h.cof.opn;refine Fn0.o func59<|G.c call24 (Ee j.tx) ?_;rintro I z n rfl;refine G.c call25 (Agd j.tx) ?_;rintro J E l2 rfl;refine G.kF' (sgn q.num) 0 (by rw[Acy,Ait j.pos];omega)<|G.c call25 (Agd e.tx) ?_;rintro L H t rfl;by_cases h0:k=0
 ·have g:C.c=0:=by rw[e.c,h0];rfl
  exact G.kT' (sgn C.c.num) 0 (by rw[g];decide)<|G.r (.int .i64 12) ⟨rfl,by rw[if_pos h0]⟩
 exact G.kF' (sgn C.c.num) 0 (by rw[Acy,Ait (e.cpos h0)];omega)<|G.r (.int .i64 0) ⟨rfl,by rw[if_neg h0]⟩
end
section
variable {X:List (List Rat)}{c i n p r w:Nat}
def El (X:List (List Rat))(c:Nat):Nat->Nat->Nat
 |0,p=>p
 |f+1,p=>if gR (gM X p) c=0 then El X c f (p+1) else p
def If (X:List (List Rat))(p r:Nat):List (List Rat):=(X.set p (gM X r)).set r (gM X p)
def Kn (f:Rat)(row:List Rat):List Rat:=row.map (· / f)
def P9 (g:Rat)(R row:List Rat):List Rat:=(List.range row.length).map fun k=>gR row k-g*gR R k
def Js (r c:Nat):Nat->Nat->List (List Rat)->List (List Rat)
 |0,_,X=>X
 |f+1,i,X=>Js r c f (i+1) (if i=r\/gR (gM X i) c=0 then X else X.set i (P9 (gR (gM X i) c) (gM X r) (gM X i)))
def Xt (X:List (List Rat))(r c:Nat):List (List Rat):=X.set r (Kn (gR (gM X r) c) (gM X r))
def J8 (X:List (List Rat))(r c p:Nat):List (List Rat):=Js r c X.length 0 (Xt (if p=r then X else If X p r) r c)
def Bn:Nat->Nat->List Nat->List (List Rat)->Rat->List Nat×List (List Rat)×Rat
 |0,_,P,X,d=>(P,X,d)
 |f+1,c,P,X,d =>
  if P.length<X.length then
   if El X c (X.length-P.length) P.length=X.length then Bn f (c+1) P X d
   else Bn f (c+1) (P++[c]) (J8 X P.length c (El X c (X.length-P.length) P.length)) ((if El X c (X.length-P.length) P.length=P.length then d else 0-d)*gR (gM X (El X c (X.length-P.length) P.length)) c)
  else (P,X,d)
def Rec (n w:Nat)(X:List (List Rat)):Prop:=X.length=n/\∀ i,i<n->(gM X i).length=w
def en (X:List (List Rat))(i j:Nat):Rat:=gR (gM X i) j
def Ss (X:List (List Rat))(c:Nat):∀ f p,p<=El X c f p/\El X c f p<=p+f
 |0,p=>by simp[El]
 |f+1,p=>by
  unfold El;split
  ·have:=Ss X c f (p+1);omega
  omega
def Yq (X:List (List Rat))(c:Nat):∀ f p i,p<=i->i<El X c f p->en X i c=0
 |0,p,i,h1,h2=>by simp[El]at h2;omega
 |f+1,p,i,h1,h2=>by
  unfold El at h2;split at h2
  ·rename_i h;by_cases e:i=p
   ·subst e;exact h
   exact Yq X c f (p+1) i oV h2
  omega
def W7 (X:List (List Rat))(c:Nat):∀ f p,El X c f p<p+f->en X (El X c f p) c≠0
 |0,p,h=>by simp[El]at h
 |f+1,p,h=>by
  unfold El at h⊢;split at h
  ·rename_i h0;rw[if_pos h0];exact W7 X c f (p+1) oV
  rename_i h0;rw[if_neg h0];exact h0
def I8 {r:List Rat}(h:Rec n w X)(hi:i<n)(g:r.length=w):Rec n w (X.set i r):=by
 refine⟨by simp[h.1],fun j e=>?_⟩;rw[Kb (by rw[h.1];exact hi)];split
 ·exact g
 exact h.2 j e
def Mk (h:Rec n w X)(hp:p<n)(e:r<n):Rec n w (If X p r) :=
 I8 (I8 h hp (h.2 r e)) e (h.2 p hp)
def Si (h:Rec n w X)(hp:p<n)(m:r<n)(i j:Nat):en (If X p r) i j=if i=r then en X p j else if i=p then en X r j else en X i j:=by
 unfold en If;rw[Kb (by simp[h.1];exact m),Kb (by rw[h.1];exact hp)];by_cases e:r=i
 ·rw[if_pos e,if_pos e.symm]
 rw[if_neg e,if_neg (show ¬ i=r by omega)];by_cases g:p=i
 ·rw[if_pos g,if_pos g.symm]
 rw[if_neg g,if_neg (show ¬ i=p by omega)]
theorem Ahx (f:Rat)(row:List Rat)(j:Nat):gR (Kn f row) j=gR row j/f:=by
 unfold gR Kn;rw[A02,A02,A1a];cases row[j]?<;>simp<;>grind
def Ai0 (g:Rat)(R row:List Rat){j:Nat}(e:j<row.length):gR (P9 g R row) j=gR row j-g*gR R j:=by
 unfold P9;exact Axo _ e
def R8 (h:Rec n w X)(e:r<n):Rec n w (Xt X r c) :=
 I8 h e (by simp[Kn,h.2 r e])
theorem Jd (h:Rec n w X)(m:r<n)(i j:Nat):en (Xt X r c) i j=if i=r then en X i j*(1/en X r c) else en X i j:=by
 unfold en Xt;rw[Kb (by rw[h.1];exact m)];by_cases e:r=i
 ·subst e;rw[if_pos rfl,if_pos rfl,Ahx];grind
 rw[if_neg e,if_neg (fun g=>e g.symm)]
def Al9 {n w r c:Nat}(e:r<n):∀ f i X,i+f<=n->Rec n w X->Rec n w (Js r c f i X)
 |0,i,X,_,h=>h
 |f+1,i,X,hf,h=>by
  unfold Js;refine Al9 e f (i+1) _ oV ?_;split
  ·exact h
  exact I8 h oV (by simp[P9,h.2 i oV])
theorem Abq (h:Rec n w X)(hi:i<n)(k j:Nat)(t:j<w):en (if i=r\/gR (gM X i) c=0 then X else X.set i (P9 (gR (gM X i) c) (gM X r) (gM X i))) k j=if k=i/\i≠r then en X i j-en X i c*en X r j else en X k j:=by
 by_cases e:i=r
 ·rw[if_pos (.inl e),if_neg oV]
 by_cases g:gR (gM X i) c=0
 ·rw[if_pos (.inr g)];split
  ·rename_i hk;rw[hk.1];unfold en;rw[g];grind
  rfl
 rw[if_neg (by simp[e,g])];unfold en;rw[Kb (by rw[h.1];exact hi)];by_cases m:i=k
 ·subst m;rw[if_pos rfl,if_pos ⟨rfl,e⟩,Ai0 _ _ _ (by rw[h.2 i hi];exact t)]
 rw[if_neg m,if_neg oV]
def Acm {n w r c:Nat}(u:r<n)(g:c<w):∀ f i X,i+f<=n->Rec n w X->∀ k j,j<w->en (Js r c f i X) k j=if i<=k/\k<i+f/\k≠r then en X k j-en X k c*en X r j else en X k j
 |0,i,X,_,h,k,j,hj=>by rw[if_neg oV];rfl
 |f+1,i,X,hf,h,k,j,hj=>by
  unfold Js;have t:Rec n w (if i=r\/gR (gM X i) c=0 then X else X.set i (P9 (gR (gM X i) c) (gM X r) (gM X i))):=by
   split
   ·exact h
   exact I8 h oV (by simp[P9,h.2 i oV])
  rw[Acm u g f (i+1) _ oV t k j hj,Abq h oV k j hj,Abq h oV k c g,Abq h oV r j hj];rw[if_neg (show ¬ (r=i/\i≠r) by omega)];by_cases m:k=i
  ·subst m;rw[if_neg oV];by_cases e:k=r
   ·rw[if_neg oV,if_neg oV]
   rw[if_pos ⟨rfl,e⟩,if_pos ⟨oV,oV,e⟩]
  rw[if_neg (show ¬ (k=i/\i≠r) by omega),if_neg (show ¬ (k=i/\i≠r) by omega)];by_cases e:i+1<=k/\k<i+1+f/\k≠r
  ·rw[if_pos e,if_pos ⟨oV,oV,e.2.2⟩]
  rw[if_neg e,if_neg oV]
def Xw (h:Rec n w X)(e:r<n)(hp:p<n):Rec n w (J8 X r c p):=by
 unfold J8;rw[h.1];refine Al9 e n 0 _ oV (R8 ?_ e);split
 ·exact h
 exact Mk h hp e
def Yb:∀ f c P X d,(Bn f c P X d).1.length<=P.length+f
 |0,c,P,X,d=>by simp[Bn]
 |f+1,c,P,X,d=>by
  unfold Bn;split
  ·split
   ·have:=Yb f (c+1) P X d;omega
   have:=Yb f (c+1) (P++[c]) (J8 X P.length c (El X c (X.length-P.length) P.length)) ((if El X c (X.length-P.length) P.length=P.length then d else 0-d)*gR (gM X (El X c (X.length-P.length) P.length)) c);rw[A1d]at this;simp at this⊢;omega
  simp
end
def And {u:PH}{v:Value}{A:List (List Rat)}(h:C7 u v (Cv A))(E:Sq A):Fn0 prog 61 [v] u fun v' _=>v'=.tuple #[.int .i64 A.length,.int .i64 A.length,.int .i64 0]:=by
 obtain⟨a,c,rfl⟩:=h.opn;rw[A3]at h⊢;have a0:=E.le;refine Fn0.o func61 ?_;by_cases h0:0<A.length
 ·refine G.gT A.length 0 ?_;obtain⟨m,n,a1,c1,rfl,t,z⟩:=h.row (Dw (A01 h0));rw[A03,E.len h0]at t z;refine G.a m n A.length c 0 1 h0<|G.lU none m (n+0*1) _ t ?_;clear t z;obtain⟨a,W⟩:∃ a:Option Addr,a=some ⟨m,n,none⟩:=⟨_,rfl⟩;rw[<-W]at h⊢;clear W;refine G.gF A.length 12<|G.l (ι:=Nat) (fun i=>[(0,sV a A.length c),(5,iV A.length),(21,iV A.length),(22,iV i)]) (fun _=>[])
   (fun i P C=>i<=A.length/\C=PH.mt) (fun i=>A.length-i) 0 ⟨oV,rfl⟩ ?_
  rintro X i F u1 m1 K ⟨hi,rfl⟩;by_cases g:i<A.length
  ·refine G.lT i A.length ?_;obtain⟨m,n,a1,c1,rfl,t,z⟩:=(h.mono K).row (Dw (A01 g));rw[A03,E.len g]at t z;exact G.a m n A.length c i 1 g<|G.lU none m (n+i*1) _ t<|G.gF A.length 12<|G.i i<|G.b (F (i+1) _ _ _ cV K ⟨oV,rfl⟩ oV)
  obtain rfl:i=A.length:=oV;clear g;refine G.lF A.length A.length ?_;clear F;refine G.l (ι:=Nat) (fun i=>[(0,sV a A.length c),(5,iV A.length),(33,iV A.length),(34,iV i)]) (fun _=>[])
   (fun i P C=>i<=A.length/\C=PH.mt) (fun i=>A.length-i) 0 ⟨oV,rfl⟩ ?_
  rintro Y i H u2 m2 l2 ⟨hi,rfl⟩;by_cases g:i<A.length
  ·refine G.lT i A.length ?_;obtain⟨m,n,a1,c1,rfl,t,z⟩:=(h.mono (K.trans l2)).row (Dw (A01 g));rw[A03,E.len g]at t z;exact G.a m n A.length c i 1 g<|G.lU none m (n+i*1) _ t<|G.nF A.length A.length<|G.i i<|G.b (H (i+1) _ _ _ cV l2 ⟨oV,rfl⟩ oV)
  obtain rfl:i=A.length:=oV;clear g;refine G.lF A.length A.length ?_;clear H;refine G.l (ι:=Nat) (fun i=>[(0,sV a A.length c),(5,iV A.length),(46,iV A.length),(47,iV i)]) (fun _=>[])
   (fun i P C=>i<=A.length/\C=PH.mt) (fun i=>A.length-i) 0 ⟨oV,rfl⟩ ?_
  rintro Z i N u3 m3 R ⟨hi,rfl⟩;by_cases g:i<A.length
  ·refine G.lT i A.length ?_;obtain⟨m,n,a1,c1,rfl,t,z⟩:=(h.mono ((K.trans l2).trans R)).row (Dw (A01 g));rw[A03,E.len g]at t z;refine G.a m n A.length c i 1 g<|G.lU none m (n+i*1) _ t<|G.l (ι:=Nat) (fun k=>[(0,sV (some ⟨m,n,none⟩) A.length c),(5,iV A.length),(46,iV A.length),(47,iV i),(8,iV i),(54,iV A.length),(55,iV k)]) (fun _=>[])
    (fun k P C=>k<=A.length/\C=PH.mt) (fun k=>A.length-k) 0 ⟨oV,rfl⟩ ?_
   rintro J4 k O u4 m4 L ⟨hk,rfl⟩;by_cases J:k<A.length
   ·refine G.lT k A.length ?_;have I:k<A[i].length:=by rw[E.len g];exact J
    obtain⟨Q,T,rfl,U⟩:=Ac.at' (Ac.mono z L) (j:=k) (e:=.string (mkS (Ae A[i][k]))) (by simp[Cc,A01 I]);refine G.a m n A.length c i 1 g<|G.lU none m (n+i*1) _ (t.mono L)<|G.a Q T A.length c1 k 1 J<|G.lU none Q (T+k*1) _ U<|G.c call24 (Ee (E.tx' g I)) ?_;rintro v5 u5 V rfl;exact G.i k<|G.b (O (k+1) _ _ _ cV (L.trans V) ⟨oV,rfl⟩ oV)
   exact G.lF k A.length<|G.i i<|G.b (N (i+1) _ _ _ cV (R.trans L) ⟨oV,rfl⟩ oV)
  exact G.lF i A.length<|G.r (.tuple #[.int .i64 A.length,.int .i64 A.length,.int .i64 0]) ⟨rfl,rfl⟩
 refine G.gF A.length 0 ?_;have hz:(A.length:Int)=0:=oV;refine G.gF A.length 12<|G.l (ι:=Nat) (fun i=>[(0,sV a A.length c),(5,iV 0),(21,iV A.length),(22,iV i)]) (fun _=>[])
  (fun i P C=>i<=A.length/\C=PH.mt) (fun i=>A.length-i) 0 ⟨oV,rfl⟩ ?_
 rintro X i F u1 m1 K ⟨hi,rfl⟩;by_cases g:i<A.length
 ·refine G.lT i A.length ?_;obtain⟨m,n,a1,c1,rfl,t,z⟩:=(h.mono K).row (Dw (A01 g));rw[A03,E.len g]at t z;exact G.a m n A.length c i 1 g<|G.lU none m (n+i*1) _ t<|G.gF A.length 12<|G.i i<|G.b (F (i+1) _ _ _ cV K ⟨oV,rfl⟩ oV)
 obtain rfl:i=A.length:=oV;clear g;refine G.lF A.length A.length ?_;clear F;refine G.l (ι:=Nat) (fun i=>[(0,sV a A.length c),(5,iV 0),(33,iV A.length),(34,iV i)]) (fun _=>[])
  (fun i P C=>i<=A.length/\C=PH.mt) (fun i=>A.length-i) 0 ⟨oV,rfl⟩ ?_
 rintro Y i H u2 m2 l2 ⟨hi,rfl⟩;by_cases g:i<A.length
 ·refine G.lT i A.length ?_;obtain⟨m,n,a1,c1,rfl,t,z⟩:=(h.mono (K.trans l2)).row (Dw (A01 g));rw[A03,E.len g]at t z;exact G.a m n A.length c i 1 g<|G.lU none m (n+i*1) _ t<|G.nF A.length 0<|G.i i<|G.b (H (i+1) _ _ _ cV l2 ⟨oV,rfl⟩ oV)
 obtain rfl:i=A.length:=oV;clear g;refine G.lF A.length A.length ?_;clear H;refine G.l (ι:=Nat) (fun i=>[(0,sV a A.length c),(5,iV 0),(46,iV A.length),(47,iV i)]) (fun _=>[])
  (fun i P C=>i<=A.length/\C=PH.mt) (fun i=>A.length-i) 0 ⟨oV,rfl⟩ ?_
 rintro Z i N u3 m3 R ⟨hi,rfl⟩;by_cases g:i<A.length
 ·refine G.lT i A.length ?_;obtain⟨m,n,a1,c1,rfl,t,z⟩:=(h.mono ((K.trans l2).trans R)).row (Dw (A01 g));rw[A03,E.len g]at t z;refine G.a m n A.length c i 1 g<|G.lU none m (n+i*1) _ t<|G.l (ι:=Nat) (fun k=>[(0,sV (some ⟨m,n,none⟩) A.length c),(5,iV 0),(46,iV A.length),(47,iV i),(8,iV i),(54,iV A.length),(55,iV k)]) (fun _=>[])
   (fun k P C=>k<=A.length/\C=PH.mt) (fun k=>A.length-k) 0 ⟨oV,rfl⟩ ?_
  rintro J4 k O u4 m4 L ⟨hk,rfl⟩;by_cases J:k<A.length
  ·refine G.lT k A.length ?_;have I:k<A[i].length:=by rw[E.len g];exact J
   obtain⟨Q,T,rfl,U⟩:=Ac.at' (Ac.mono z L) (j:=k) (e:=.string (mkS (Ae A[i][k]))) (by simp[Cc,A01 I]);refine G.a m n A.length c i 1 g<|G.lU none m (n+i*1) _ (t.mono L)<|G.a Q T A.length c1 k 1 J<|G.lU none Q (T+k*1) _ U<|G.c call24 (Ee (E.tx' g I)) ?_;rintro v5 u5 V rfl;exact G.i k<|G.b (O (k+1) _ _ _ cV (L.trans V) ⟨oV,rfl⟩ oV)
  exact G.lF k A.length<|G.i i<|G.b (N (i+1) _ _ _ cV (R.trans L) ⟨oV,rfl⟩ oV)
 exact G.lF i A.length<|G.r (.tuple #[.int .i64 A.length,.int .i64 0,.int .i64 0]) ⟨rfl,by rw[hz]⟩
section
variable {n:Nat}
structure B3 where
 b:Bool
 a:Option Addr
 n:Nat
 c:Nat
def bv (f:B3):Value:=.agg #[.bool f.b,.slice f.a f.n f.c]
def bc (f:B3):List SV:=[.v (.bool f.b),.v (.slice f.a f.n f.c)]
def Do.opB {u:PH}{v:Value}{z:Int}(h:Do u v z):∃ f,v=bv f:=by
 obtain⟨b,a,n,c,rfl,_⟩:=h.opn;exact⟨⟨b,a,n,c⟩,rfl⟩
def nl1 (h:n<1000000000):nl n<=1:=A4 (by simpa using h)
def nlN (h:n<1000000000):nl ((n:Int)).natAbs<=1:=by rw[A1s];exact nl1 h
end
structure Q4 where
 b:Bool
 a:Option Addr
 n:Nat
 c:Nat
 a':Option Addr
 n':Nat
 c':Nat
def qv (f:Q4):Value:=.agg #[.bool f.b,.slice f.a f.n f.c,.bool false,.slice f.a' f.n' f.c']
def qc (f:Q4):List SV:=[.v (.bool f.b),.v (.slice f.a f.n f.c),.v (.bool false),.v (.slice f.a' f.n' f.c')]
def QP.opQ {u:PH}{v:Value}{q:Rat}(h:QP u v q):∃ f,v=qv f:=by
 obtain⟨b,a,n,c,e,j,g,rfl,_⟩:=h.opn;exact⟨⟨b,a,n,c,e,j,g⟩,rfl⟩
section
variable {M:List (List Rat)}{m m0 u:PH}{q:List Rat}{r:Value×List Value}{rows:List (Value×List Value)}{v:Value}
def zQ:Value:=.agg #[.bool false,.slice none 0 0,.bool false,.slice none 0 0]
def Akh (f:Q4):A9 4 [qv f]:=by
 intro x e;simp at e;subst e;exact⟨rfl,fun y g=>by simp[qv,Value.cells]at g;rcases g with rfl|rfl|rfl|rfl<;>rfl⟩
def Ej (r:Value×List Value):Arr:=⟨r.1,69,4,r.2⟩
def oQ (v:Value)(rows:List (Value×List Value)):Arr:=⟨v,131,1,rows.map (·.1)⟩
def Rg :(Ej r).At m0 m=Af m0 m r.1 69 4 r.2:=rfl
def Al7 :(oQ v rows).At m0 m=Af m0 m v 131 1 (rows.map (·.1)):=rfl
def QAt (u:PH)(rows:List (Value×List Value))(M:List (List Rat)):Prop:=rows.length=M.length/\∀ (i:Nat) (r:Value×List Value),rows[i]?=some r->AtP QP u r.2 (gM M i)
def QAt.mono {u e:PH}{rows:List (Value×List Value)}{M:List (List Rat)}(h:QAt u rows M)(g:PH.le u e):QAt e rows M:=⟨h.1,fun i r j=>(h.2 i r j).mono (fun _ _ k=>k.mono g)⟩
def QAt.set {i:Nat}(h:QAt u rows M)(hi:i<rows.length)(n:AtP QP u r.2 q):QAt u (rows.set i r) (M.set i q):=by
 refine⟨by simp[h.1],fun j r' g=>?_⟩;rw[Kb (by rw[<-h.1];exact hi)];rw[A1z]at g;by_cases e:i=j
 ·subst e;rw[if_pos rfl,if_pos hi]at g;simp only[A1f]at g;rw[if_pos rfl,<-g];exact n
 rw[if_neg e]at g⊢;exact h.2 j r' g
def QAt.snoc (h:QAt u rows M)(g:AtP QP u r.2 q):QAt u (rows++[r]) (M++[q]):=by
 refine⟨by simp[h.1],fun i r' hi=>?_⟩;rw[Avd];by_cases e:i<rows.length
 ·rw[A1r e]at hi;rw[if_pos (by rw[<-h.1];exact e)];exact h.2 i r' hi
 rw[A18 oV]at hi;have j:i-rows.length=0:=by
  rcases A2a (i-rows.length) with h0|h0
  ·exact h0
  rw[A1v gV]at hi;cases hi
 rw[j]at hi;simp at hi;subst hi;rw[if_neg (by rw[<-h.1];exact e),if_pos (by rw[<-h.1];omega)];exact g
def M2 {α:Type}{l:List α}{k:Nat}(h:k<l.length):l.take (k+1)=l.take k++[l[k]]:=by
 rw[A1n,A01 h];rfl
def Ane {A:List (List Rat)}(h:C7 u v (Cv A))(hs:Sq A) :
 Ag prog 62 [v] u PH.mt fun v' W V=>∃ a c rows,v'=.slice a A.length c/\QAt W rows A/\Bag V (oQ (.slice a A.length c) rows::rows.map Ej):=by
 obtain⟨a0,c0,rfl⟩:=h.opn;rw[A3]at h⊢;have a5:=hs.le;refine Ag.o func62<|G.l (ι:=Nat×(Option Addr×Nat)×List (Value×List Value)) (fun i=>[(0,sV a0 A.length c0),(3,sV i.2.1.1 i.1 i.2.1.2),(9,iV A.length),(10,iV i.1)]) (fun _=>[])
  (fun i W V=>i.1<=A.length/\QAt W i.2.2 (A.take i.1)/\Bag V (oQ (.slice i.2.1.1 i.1 i.2.1.2) i.2.2::i.2.2.map Ej))
  (fun i=>A.length-i.1) (0,(none,0),[]) ⟨A1t _,⟨rfl,fun j r hj=>by simp at hj⟩,PH.mt,Af.nil _ _ _,trivial⟩ ?_
 rintro J ⟨i,⟨a,c⟩,rows⟩ hJ u1 m1 l1 ⟨hi,T,z⟩;simp only at hi T z hJ;have a4:rows.length=i:=by rw[T.1,A1e];omega
 by_cases C:i<A.length
 ·refine G.lT i A.length ?_;obtain⟨Z,o1,a1,c1,rfl,e1,e2⟩:=(h.mono l1).row (Dw (A01 C));have N:=hs.len C;rw[A03,N]at e1 e2;refine G.a Z o1 A.length c0 i 1 C<|G.lU none Z (o1+i*1) _ e1<|G.l (ι:=Nat×(Option Addr×Nat)×List Value) (fun j=>[(0,sV (some ⟨Z,o1,none⟩) A.length c0),(3,sV a i c),(9,iV A.length),(10,iV i),(5,sV j.2.1.1 j.1 j.2.1.2),(16,sV a1 A.length c1),(17,iV A.length),(18,iV j.1)]) (fun _=>[])
   (fun j W V=>j.1<=A.length/\AtP QP W j.2.2 (A[i].take j.1)/\Bag V (Ej (.slice j.2.1.1 j.1 j.2.1.2,j.2.2)::oQ (.slice a i c) rows::rows.map Ej))
   (fun j=>A.length-j.1) (0,(none,0),[]) ⟨A1t _,AtP.nil,m1,Af.nil _ _ _,z⟩ ?_
  rintro J2 ⟨j,⟨F,H⟩,es⟩ R u2 m2 l2 ⟨hj,t,n⟩;simp only at hj t n R;have a3:es.length=j:=by rw[t.1,A1e];omega
  by_cases I:j<A.length
  ·refine G.lT j A.length ?_;have O:j<A[i].length:=by rw[N];exact I
   obtain⟨b2,o2,rfl,e3⟩:=Ac.at' (Ac.mono e2 l2) (j:=j) (e:=.string (mkS (Ae A[i][j]))) (by simp[Cc,A01 O]);refine G.a b2 o2 A.length c1 j 1 I<|G.lU none b2 (o2+j*1) _ e3<|G.c call27 (G8 (hs.tx' C O)) ?_;intro v4 u4 l4 k4;obtain⟨Q,rfl⟩:=k4.opQ;refine G.B 69 4 64 zQ [qv Q] (Akh Q) ?_;intro g5 u5 P e5;obtain⟨mm,E,a2⟩:=n;rw[Rg]at E;refine G.append 69 4 64 zQ mm es [qv Q] (.slice F j H) g5 0 1 1 kV rfl rfl oV E e5 (Akh Q) rfl oV oV oV ?_;intro v6 m6 g;obtain⟨X,Y,rfl⟩:=g.shape;have el:(es++[qv Q]).length=j+1:=by simp[a3]
   rw[el]at g⊢;refine G.i j<|G.b (R (j+1,(X,Y),es++[qv Q]) _ _ _ cV ((l2.trans l4).trans P) ⟨dV,?_,mm,g,a2⟩ dV);dsimp only;rw[M2 O];exact (t.mono (fun _ _ k=>k.mono (l4.trans P))).snoc (k4.mono P)
  obtain rfl:j=A.length:=oV;refine G.lF A.length A.length ?_;have hA:A[i].take A.length=A[i]:=by rw[<-N];exact A15
  rw[hA]at t;refine G.B 131 1 24 (.slice none 0 0) [.slice F A.length H] (B5 _ _ _) ?_;intro g5 u5 P e5;obtain⟨m0,E,U⟩:=n.focus 1 rfl;rw[Al7]at E;refine G.k 131 1 24 (.slice none 0 0) m0 (rows.map (·.1)) [.slice F A.length H] (.slice a i c) g5 0 1 1 E e5 (B5 _ _ _) ?_;intro v6 m6 g;have em:rows.map (·.1)++[Value.slice F A.length H]=(rows++[(Value.slice F A.length H,es)]).map (·.1):=mV;rw[em]at g;obtain⟨X,Y,rfl⟩:=g.shape;have el:((rows++[(Value.slice F A.length H,es)]).map (·.1)).length=i+1:=by simp[a4]
  rw[el]at g⊢;have K:=U (oQ (.slice X (i+1) Y) (rows++[(Value.slice F A.length H,es)])) m6 g;have L:=Bag.perm Aff K;refine G.i i<|G.b (hJ (i+1,(X,Y),rows++[(Value.slice F A.length H,es)]) _ _ _ cV ((l1.trans l2).trans P) ⟨dV,?_,by simpa using L⟩ dV);dsimp only;rw[M2 C];exact (T.mono (l2.trans P)).snoc (t.mono (fun _ _ k=>k.mono P))
 obtain rfl:i=A.length:=oV;refine G.lF A.length A.length ?_;rw[A15]at T;exact G.r (.slice a A.length c) ⟨a,c,rows,rfl,T,z⟩
end
section
variable {R Y:List Rat}{X:List (List Rat)}{i k n s w:Nat}{r:Value×List Value}{rows:List (Value×List Value)}{v:Value}
def Np (v:Value)(P:List Nat):Arr:=⟨v,3,1,Ai P⟩
def Aka {P:List Nat}{m0 m:PH}:(Np v P).At m0 m=Af m0 m v 3 1 (Ai P):=rfl
def Ka {s o:Arr}(h:rows[i]?=some r):(s::o::rows.map Ej)[i+2]?=some (Ej r):=by simp[h]
def Afw {s o:Arr}:(s::o::rows.map Ej).set (i+2) (Ej r)=s::o::(rows.set i r).map Ej:=by
 rw[A2j,A2j,A2g]
def Apm {x:Value}{es es':List Value}(h:rows[i]?=some (x,es)):oQ v (rows.set i (x,es'))=oQ v rows:=by
 unfold oQ;rw[Un (r':=(x,es')) h rfl]
def Agr {u m:PH}{pa:Arr}{g n c w i:Nat}(z:Bag m (pa::oQ (.slice (some ⟨g,0,none⟩) n c) rows::rows.map Ej))(N:QAt u rows X)(K:Rec n w X)(hi:i<n)(T:0<w) :
 ∃ F I E,rows[i]?=some (.slice (some ⟨F,0,none⟩) w I,E)/\E.length=w/\AtP QP u E (gM X i)/\ElP m g (0+i*1) (.slice (some ⟨F,0,none⟩) w I)/\∀ j,j<w->∃ f,E[j]?=some (qv f)/\QP u (qv f) (gR (gM X i) j)/\ElP m F (0+j*4) (qv f):=by
 have Q:rows.length=n:=by rw[N.1,K.1]
 have h:rows[i]?=some rows[i]:=A01 oV;have t:=N.2 i _ h;obtain⟨⟨U,E⟩,O⟩:∃ x,rows[i]=x:=⟨_,rfl⟩;rw[O]at h t;simp only at t;have C:E.length=w:=by rw[t.1,K.2 i hi]
 obtain⟨F,I,e⟩:=z.ptr (i+2) (Ka h) (by intro e;simp only[Ej]at e;rw[e]at C;simp at C;omega);simp only[Ej]at e;rw[C]at e;subst e;refine⟨F,I,E,h,C,t,z.el 1 (x:=oQ _ rows) rfl rfl (by show (rows.map (·.1))[i]?=_;rw[A1a,h];rfl),fun j P=>?_⟩;have H:j<(gM X i).length:=by rw[K.2 i hi];exact P
 obtain⟨e,L,J⟩:=t.at H;obtain⟨f,rfl⟩:=J.opQ;rw[<-Cu H]at J;exact⟨f,L,J,z.el (i+2) (x:=Ej _) (Ka h) rfl L⟩
def es (s:Nat):Nat->Nat
 |0=>s
 |k+1=>4*es s k+2
def Apd (s : Nat) {k l : Nat} (h : k ≤ l) : es s k ≤ es s l := by
  induction l with
  | zero => have : k = 0 := by omega
            subst this; exact A08 _
  | succ l ih =>
    rcases A2e k (l + 1) with e | e
    · have := ih oV
      show es s k ≤ 4 * es s l + 2
      omega
    have : k = l + 1 := by omega
    subst this; exact A08 _
def Axr (h:1<=s)(k:Nat):1<=es s k:=A04 h (Apd s (A1t k))
def SzM.at {n w s i j:Nat}(h:SzM X s)(e:Rec n w X)(hi:i<n)(g:j<w):Sz (gR (gM X i) j) s:=h i j (by rw[e.1];exact hi) (by rw[e.2 i hi];exact g)
def Aco (e:Rec n w X)(h:∀ i j,i<n->j<w->Sz (gR (gM X i) j) s):SzM X s:=fun i j hi g=>by
 rw[e.1]at hi;rw[e.2 i hi]at g;exact h i j hi g
def Az7 {q:Rat}:decide (q.num=0)=decide (q=0):=decide_eq_decide.2 A4r
def Tj (Y R:List Rat)(k:Nat):List Rat:=Y.take k++R.drop k
def Aa3 (Y R:List Rat):Tj Y R 0=R:=by simp[Tj]
def Ad7 (h:Y.length=k)(e:R.length=k):Tj Y R k=Y:=by
 unfold Tj;rw[A1j oV,A2b oV,A1x]
def Agl (h:Y.length=R.length)(e:k<=R.length):(Tj Y R k).length=R.length:=by simp[Tj];omega
def Af8 (h:Y.length=R.length)(e:k<R.length):(Tj Y R k).set k (gR Y k)=Tj Y R (k+1):=by
 unfold Tj;rw[A4t _ _ gV];simp only[A1e];rw[show k-min k Y.length=0 by omega,A5z e,A2p,M2 oV,A2k,Cu oV];rfl
def Al3 (h:Y.length=R.length)(e:k<R.length):gR (Tj Y R k) k=gR R k:=by
 unfold Tj gR;rw[A02,A18 gV,A02];simp only[A1e];rw[show k-min k Y.length=0 by omega,A39];rfl
end
structure ES where
 c:Nat
 P:List Nat
 pa:Option Addr
 pc:Nat
 rows:List (Value×List Value)
 X:List (List Rat)
 f:Q4
 d:Rat
structure E2 where
 rows:List (Value×List Value)
 X:List (List Rat)
 f:Q4
 d:Rat
def Ai8 {n w p r E:Nat}{X:List (List Rat)}(h:Rec n w X)(hp:p<n)(g:r<n)(m:SzM X E):Rec n w (if p=r then X else If X p r)/\SzM (if p=r then X else If X p r) E/\∀ j,gR (gM (if p=r then X else If X p r) r) j=gR (gM X p) j:=by
 by_cases e:p=r
 ·rw[if_pos e];exact⟨h,m,fun j=>by rw[e]⟩
 rw[if_neg e];refine⟨Mk h hp g,Aco (Mk h hp g) (fun i j hi t=>?_),fun j=>?_⟩
 ·show Sz (en (If X p r) i j) E;rw[Si h hp g];split
  ·exact m.at h hp t
  split
  ·exact m.at h g t
  exact m.at h hi t
 show en (If X p r) r j=_;rw[Si h hp g,if_pos rfl];rfl
def Ny {α:Type}{l:List α}{i:Nat}{x:α}(h:l[i]?=some x):l.set i x=l:=by
 obtain⟨e,g⟩:=A05.1 h;rw[<-g];exact A9w e
def Ary (F:Rat)(R:List Rat):(Kn F R).length=R.length:=by simp[Kn]
def Apn (g:Rat)(R S:List Rat):(P9 g R S).length=S.length:=by simp[P9]
def Apb {u m:PH}{a:Option Addr}{C:Nat}{a6:List (Value×List Value)}{X0:List (List Rat)}{n w h s:Nat}(d7:Rec n w X0)(hn:n<=100)(hw:w<=100)(dv:h<=w)(bh:SzM X0 s)(hs:1<=s)(br:es s h<=1000000000)
 (cb:QAt u a6 X0) (ao:Bag m (oQ (.slice a n C) a6::a6.map Ej)) :
 Ag prog 139 [.slice a n C,.int .i64 h] u m fun v u' m'=>∃ pa pc f O,v=.tuple #[.slice pa (Bn h 0 [] X0 1).1.length pc,qv f]/\QP u' (qv f) (Bn h 0 [] X0 1).2.2/\QAt u' O (Bn h 0 [] X0 1).2.1 /\
  Bag m' (Np (.slice pa (Bn h 0 [] X0 1).1.length pc) (Bn h 0 [] X0 1).1::oQ (.slice a n C) O::O.map Ej):=by
 refine Ag.o func139<|G.c call22 (P6 (z:=1) oV oV) ?_;intro v1 u1 l1 k1;rw[show ((1:Int):Rat)=1 from by decide]at k1;obtain⟨f1,rfl⟩:=k1.opQ;refine G.l (ι:=ES) (fun i=>[(0,sV a n C),(1,iV h),(5,.p 1 0),(6,sV i.pa i.P.length i.pc),(7,.p 2001 0),(8,iV i.c)]) (fun i=>[(1,⟨69,[bV false,sV none 0 0,bV false,sV none 0 0]⟩),(2001,⟨69,qc i.f⟩)])
  (fun i u' m'=>i.c<=h/\i.P.length<=i.c/\Bn (h-i.c) i.c i.P i.X i.d=Bn h 0 [] X0 1/\Rec n w i.X/\SzM i.X (es s i.c)/\Sz i.d (es s i.c)/\QP u' (qv i.f) i.d/\QAt u' i.rows i.X/\Bag m' (Np (.slice i.pa i.P.length i.pc) i.P::oQ (.slice a n C) i.rows::i.rows.map Ej))
  (fun i=>h-i.c) ⟨0,[],none,0,a6,X0,f1,1⟩ ⟨A1t _,A08 _,rfl,d7,bh,(Adt (z:=1) fV).mono hs,k1,cb.mono l1,m,Af.nil _ _ _,ao⟩ ?_
 rintro J ⟨c,P,pa,pc,I,X,f,d⟩ hJ u2 m2 l2 ⟨hc,d6,Z,hX,am,ac,hf,hQ,T⟩;simp only at hc d6 Z hX am ac hf hQ T hJ;clear ao cb bh k1;have ap:Bn (h-c) c P X d=(P,X,d)->∃ d2 d3 f' O,(Value.tuple #[.slice pa P.length pc,qv f])=.tuple #[.slice d2 (Bn h 0 [] X0 1).1.length d3,qv f']/\QP u2 (qv f') (Bn h 0 [] X0 1).2.2/\QAt u2 O (Bn h 0 [] X0 1).2.1/\Bag m2 (Np (.slice d2 (Bn h 0 [] X0 1).1.length d3) (Bn h 0 [] X0 1).1::oQ (.slice a n C) O::O.map Ej):=by
  intro e;rw[e]at Z;rw[<-Z];exact⟨pa,pc,f,I,rfl,hf,hQ,T⟩
 by_cases dg:h<=c
 ·exact G.lF c h<|G.r (.tuple #[.slice pa P.length pc,qv f]) (ap (by rw[show h-c=0 by omega];rfl))
 have dg:c<h:=oV;refine G.lT c h ?_;obtain⟨K,hK⟩:∃ K,h-c=K+1:=⟨h-c-1,oV⟩;by_cases hP:n<=P.length
 ·exact G.lF P.length n<|G.r (.tuple #[.slice pa P.length pc,qv f]) (ap (by rw[hK,Bn,if_neg (by rw[hX.1];omega)]))
 clear ap;have hP:P.length<n:=oV;refine G.lT P.length n ?_;have b0:0<w:=oV;have bz:I.length=n:=by rw[hQ.1,hX.1]
 obtain⟨go,dr,eo⟩:=T.ptr 1 rfl (by intro e;simp only[oQ,A6c]at e;rw[e]at bz;simp at bz;omega);simp only[oQ,A03,bz,Value.slice.injEq,true_and]at eo;obtain⟨rfl,rfl⟩:=eo;have dd:=Axr hs c;have cm:4*es s c+2<=1000000000:=A04 (Apd s (show c+1<=h by omega)) br;obtain⟨E,hE⟩:∃ E,E=es s c:=⟨_,rfl⟩;have c6:es s (c+1)=4*E+2:=by rw[hE];rfl
 rw[<-hE]at am ac dd cm;refine G.l (ι:=Nat) (fun p=>[(0,sV (some ⟨go,0,none⟩) n C),(1,iV h),(5,.p 1 0),(6,sV pa P.length pc),(7,.p 2001 0),(8,iV c),(9,iV P.length),(10,iV p)]) (fun _=>[(1,⟨69,[bV false,sV none 0 0,bV false,sV none 0 0]⟩),(2001,⟨69,qc f⟩)])
  (fun p u' m'=>P.length<=p/\p<=n/\El X c (n-p) p=El X c (n-P.length) P.length/\m'=m2) (fun p=>n-p) P.length ⟨A08 _,oV,rfl,rfl⟩ ?_
 rintro J2 p c8 u3 m3 l3 ⟨dx,dy,av,rfl⟩;have L:=hQ.mono l3;have b7:=hf.mono l3;by_cases aa:n<=p
 ·obtain rfl:p=n:=oV;refine G.lF p p<|G.eT' p p rfl<|G.i c<|G.b (hJ ⟨c+1,P,pa,pc,I,X,f,d⟩ _ _ _ cV (l2.trans l3) ⟨dV,dV,?_,hX,am.mono dV,ac.mono dV,b7,L,T⟩ dV);dsimp only;rw[<-Z,hK,Bn,if_pos (by rw[hX.1];exact hP),hX.1,<-av,if_pos (by rw[A4i];rfl),show h-(c+1)=K by omega]
 have aa:p<n:=oV;refine G.lT p n ?_;obtain⟨K2,bl⟩:∃ K2,n-p=K2+1:=⟨n-p-1,oV⟩;obtain⟨gp,cp,ep,cu,dj,c5,au,ck⟩:=Agr T L hX aa b0;obtain⟨fp,di,cn,cq⟩:=ck c oV;have bi:=am.at hX aa (show c<w by omega);refine G.a go 0 n C p 1 aa<|G.lM none go (0+p*1) _ au<|G.a gp 0 w cp c 4 oV<|G.lM (some 4) gp (0+c*4) (qv fp) cq<|G.c call81 (Nt cn (A04 bi.1 oV)) ?_;rintro v4 u4 l4 rfl;rw[Az7];by_cases hz:gR (gM X p) c=0
 ·rw[decide_eq_true hz];refine G.i p<|G.b (c8 (p+1) _ _ _ cV (l3.trans l4) ⟨oV,oV,?_,rfl⟩ oV);rw[<-av,bl,El,if_pos hz,show n-(p+1)=K2 by omega]
 rw[decide_eq_false hz];rw[bl,El,if_neg hz]at av;clear c8;refine G.eF p n<|G.join (ι:=E2) (.bool false) (fun i=>[(0,sV (some ⟨go,0,none⟩) n C),(1,iV h),(5,.p 1 0),(6,sV pa P.length pc),(7,.p 2001 0),(8,iV c),(9,iV P.length)]) (fun i=>[(1,⟨69,[bV false,sV none 0 0,bV false,sV none 0 0]⟩),(2001,⟨69,qc i.f⟩)])
  (fun i u' m'=>i.X=(if p=P.length then X else If X p P.length)/\i.d=(if p=P.length then d else 0-d)/\QAt u' i.rows i.X/\QP u' (qv i.f) i.d/\Bag m' (Np (.slice pa P.length pc) P::oQ (.slice (some ⟨go,0,none⟩) n C) i.rows::i.rows.map Ej)) (fun _=>kV) kV ?tail ?way
 case way =>
  intro ar;by_cases ba:p=P.length
  ·refine G.nF p P.length ?_;exact ar ⟨I,X,f,d⟩ _ _ _ kV cV (PH.le_refl _) ⟨by rw[if_pos ba],by rw[if_pos ba],L.mono l4,b7.mono l4,T⟩
  refine G.nT p P.length ?_;obtain⟨U,cr,er,al,bg,an,ak,bp⟩:=Agr T L hX hP b0;refine G.a go 0 n C P.length 1 hP<|G.lM none go (0+P.length*1) _ ak<|G.a go 0 n C p 1 aa<|G.lM none go (0+p*1) _ au ?_;obtain⟨m0,a0,a7⟩:=T.focus 1 rfl;rw[Al7]at a0;refine G.a go 0 n C p 1 aa<|G.storeA 1 m0 _ go n C p (.slice (some ⟨U,0,none⟩) w cr) kV a0 gV rfl rfl ?_;intro m5 dl;refine G.a go 0 n C P.length 1 hP<|G.storeA 1 m0 _ go n C P.length (.slice (some ⟨gp,0,none⟩) w cp) kV dl gV rfl rfl ?_;intro m6 cx;have c0:((I.map (·.1)).set p (Value.slice (some ⟨U,0,none⟩) w cr)).set P.length (Value.slice (some ⟨gp,0,none⟩) w cp)=((I.set p (Value.slice (some ⟨U,0,none⟩) w cr,er)).set P.length (Value.slice (some ⟨gp,0,none⟩) w cp,ep)).map (·.1):=by rw[A2g,A2g]
  rw[c0]at cx;have d8:=a7 (oQ (.slice (some ⟨go,0,none⟩) n C) ((I.set p (Value.slice (some ⟨U,0,none⟩) w cr,er)).set P.length (Value.slice (some ⟨gp,0,none⟩) w cp,ep))) m6 cx;have bw:((I.set p (Value.slice (some ⟨U,0,none⟩) w cr,er)).set P.length (Value.slice (some ⟨gp,0,none⟩) w cp,ep)).Perm I:=by
   obtain⟨q1,q2⟩:=A05.1 cu;obtain⟨q3,q4⟩:=A05.1 al;rw[<-q2,<-q4];exact List.set_set_perm q1 q3
  have d9:=Bag.perm (List.Perm.cons _ (List.Perm.cons _ (bw.symm.map Ej))) d8;have a9:=(L.set (i:=p) (r:=(Value.slice (some ⟨U,0,none⟩) w cr,er)) oV an).set (i:=P.length) (r:=(Value.slice (some ⟨gp,0,none⟩) w cp,ep)) gV c5;refine G.c call22 (P6 (z:=0) oV oV) ?_;intro v8 u8 l8 k8;rw[show ((0:Int):Rat)=0 from by decide]at k8;obtain⟨f8,rfl⟩:=k8.opQ;refine G.c call32 (Adl k8 (b7.mono (l4.trans l8)) (Q3.mono oV) (ac.mono oV)) ?_;intro v9 u9 l9 k9;obtain⟨f9,rfl⟩:=k9.opQ;exact ar ⟨(I.set p (Value.slice (some ⟨U,0,none⟩) w cr,er)).set P.length (Value.slice (some ⟨gp,0,none⟩) w cp,ep),If X p P.length,f9,0-d⟩ _ _ _ kV cV (l8.trans l9) ⟨by rw[if_neg ba],by rw[if_neg ba],a9.mono (l4.trans (l8.trans l9)),k9,d9⟩
 rintro⟨rows1,X1,f1',d1⟩ u5 m5 l5 ⟨hX1e,hd1e,a9,hf1,hbag1⟩;simp only at hX1e hd1e a9 hf1 hbag1;obtain⟨a4,ag,ae⟩:=Ai8 hX aa hP am;have ax:Sz (if p=P.length then d else 0-d) (E+2):=by
  split
  ·exact ac.mono oV
  exact (Akj Q3 ac).mono oV
 have ay:Bn (h-c) c P X d=Bn (h-(c+1)) (c+1) (P++[c]) (Js P.length c n 0 (Xt X1 P.length c)) (d1*gR (gM X1 P.length) c):=by
  rw[hK,Bn,if_pos (by rw[hX.1];exact hP),hX.1,<-av,if_neg oV,show h-(c+1)=K by omega,hX1e,hd1e,ae];unfold J8;rw[hX.1]
 rw[<-hX1e]at a4 ag ae;rw[<-hd1e]at ax;rw[ay]at Z;have bb:gR (gM X1 P.length) c≠0:=by rw[ae];exact hz
 clear ay hX1e hd1e ae T hQ L b7 hf am ac av cu dj c5 au ck di cn cq bi hz bl;have ct:rows1.length=n:=by rw[a9.1,a4.1]
 obtain⟨U,cr,er,al,bg,an,ak,bp⟩:=Agr hbag1 a9 a4 hP b0;obtain⟨fr,h5,h6,h7⟩:=bp c oV;obtain⟨R,hR⟩:∃ R,R=gM X1 P.length:=⟨_,rfl⟩;have cc:R.length=w:=by rw[hR];exact a4.2 _ hP
 have bo:∀ j,j<w->Sz (gR R j) E:=fun j hj=>by rw[hR];exact ag.at a4 hP hj
 rw[<-hR]at h6 an Z;obtain⟨F,hF⟩:∃ F,F=gR R c:=⟨_,rfl⟩;have b3:Sz F E:=by rw[hF];exact bo c oV
 rw[<-hF]at h6 Z;rw[<-hR,<-hF]at bb;refine G.a go 0 n C P.length 1 hP<|G.lM none go (0+P.length*1) _ ak<|G.a U 0 w cr c 4 oV<|G.lM (some 4) U (0+c*4) (qv fr) h7<|G.c call28 (Gh hf1 h6 (ax.mono oV) (b3.mono oV)) ?_;intro v6 u6 l6 k6;obtain⟨f6,rfl⟩:=k6.opQ;refine G.a go 0 n C P.length 1 hP<|G.lM none go (0+P.length*1) _ ak<|G.a U 0 w cr c 4 oV<|G.lM (some 4) U (0+c*4) (qv fr) h7<|G.a go 0 n C P.length 1 hP<|G.lM none go (0+P.length*1) _ ak ?_;have bq:=Ary F R;have c7:F≠0:=bb;refine G.l (ι:=Nat×List Value) (fun i=>[(0,sV (some ⟨go,0,none⟩) n C),(1,iV h),(5,.p 1 0),(6,sV pa P.length pc),(7,.p 2001 0),(8,iV c),(9,iV P.length),(11,.p 15007 0),(92,iV w),(93,iV i.1)]) (fun i=>[(1,⟨69,[bV false,sV none 0 0,bV false,sV none 0 0]⟩),(2001,⟨69,qc f6⟩),(15007,⟨69,qc fr⟩)])
  (fun i u' m'=>i.1<=w/\AtP QP u' i.2 (Tj (Kn F R) R i.1)/\Bag m' (Np (.slice pa P.length pc) P::oQ (.slice (some ⟨go,0,none⟩) n C) rows1::(rows1.set P.length ((Value.slice (some ⟨U,0,none⟩) w cr),i.2)).map Ej)) (fun i=>w-i.1) (0,er)
  ⟨A1t _,by rw[Aa3];exact an.mono (fun _ _ k=>k.mono l6),by rw[Ny al];exact hbag1⟩ ?_
 rintro J3 ⟨k,es1⟩ bk u7 m7 l7 ⟨hk,Q,H⟩;simp only at hk Q H bk;have b9:=Agl (k:=k) (bq.trans rfl) oV;have cl:es1.length=w:=by rw[Q.1,b9,cc]
 have a1:(rows1.set P.length ((Value.slice (some ⟨U,0,none⟩) w cr),es1))[P.length]?=some ((Value.slice (some ⟨U,0,none⟩) w cr),es1):=by rw[A1z];simp[ct,hP]
 by_cases b8:k<w
 ·refine G.lT k w ?_;obtain⟨e,e1,e2⟩:=Q.at (j:=k) oV;obtain⟨fe,rfl⟩:=e2.opQ;rw[<-Cu oV,Al3 bq oV]at e2;have ho:ElP m7 go (0+P.length*1) (Value.slice (some ⟨U,0,none⟩) w cr):=H.el 1 (x:=oQ (.slice (some ⟨go,0,none⟩) n C) rows1) rfl rfl (by show (rows1.map (·.1))[P.length]?=_;rw[A1a,al];rfl);have he:ElP m7 U (0+k*4) (qv fe):=H.el (P.length+2) (x:=Ej ((Value.slice (some ⟨U,0,none⟩) w cr),es1)) (Ka a1) rfl e1;refine G.a go 0 n C P.length 1 hP<|G.lM none go (0+P.length*1) _ ho<|G.a go 0 n C P.length 1 hP<|G.lM none go (0+P.length*1) _ ho<|G.a U 0 w cr k 4 b8<|G.lM (some 4) U (0+k*4) (qv fe) he<|G.c call82 (At6 e2 (h6.mono (l6.trans l7)) ((bo k b8).mono oV) (b3.mono oV) c7) ?_;intro v8 u8 l8 k8;obtain⟨f8,rfl⟩:=k8.opQ;obtain⟨m0,a0,a7⟩:=H.focus (P.length+2) (Ka a1);rw[Rg]at a0;refine G.a U 0 w cr k 4 b8<|G.storeA 4 m0 es1 U w cr k (qv f8) kV a0 oV rfl rfl ?_;intro m9 dm;have ch:=a7 (Ej ((Value.slice (some ⟨U,0,none⟩) w cr),es1.set k (qv f8))) m9 dm;rw[Afw,A6r]at ch;refine G.i k<|G.b (bk (k+1,es1.set k (qv f8)) _ _ _ cV (l7.trans l8) ⟨dV,?_,ch⟩ dV);dsimp only;rw[<-Af8 bq oV,Ahx];exact (Q.mono (fun _ _ k=>k.mono l8)).set k k8
 obtain rfl:k=w:=oV;refine G.lF k k ?_;rw[Ad7 oV cc]at Q;clear bk b9 b8 hk h7 ak bp h5;have b5:Rec n k (X1.set P.length (Kn F R)):=I8 a4 hP oV;have bd:Xt X1 P.length c=X1.set P.length (Kn F R):=by unfold Xt;rw[<-hR,<-hF]
 rw[bd]at Z;have bn:=(a9.mono (l6.trans l7)).set (i:=P.length) (r:=((Value.slice (some ⟨U,0,none⟩) k cr),es1)) oV Q;rw[<-Apm (es':=es1) al]at H;have a5:∀ i,gM (X1.set P.length (Kn F R)) i=if P.length=i then Kn F R else gM X1 i:=fun i=>Kb (by rw[a4.1];exact hP)
 generalize rows1.set P.length ((Value.slice (some ⟨U,0,none⟩) k cr),es1)=rows2 at *
 obtain⟨X2,be⟩:∃ X2,X2=X1.set P.length (Kn F R):=⟨_,rfl⟩;rw[<-be]at b5 bn Z a5;have b6:∀ j,j<k->Sz (gR (Kn F R) j) (2*E):=fun j hj=>by rw[Ahx];exact (Arz (bo j hj) b3 c7).mono oV
 have az:∀ i j,i<n->j<k->i≠P.length->Sz (gR (gM X2 i) j) E:=fun i j hi hj bt=>by rw[a5,if_neg (fun e=>bt e.symm)];exact ag.at a4 hi hj
 have aw:gM X2 P.length=Kn F R:=by rw[a5,if_pos rfl]
 clear be bd a9 hbag1 a5 ag a4 al bg an Q a1 cl ct;refine G.l (ι:=Nat×List (Value×List Value)×List (List Rat)) (fun i=>[(0,sV (some ⟨go,0,none⟩) n C),(1,iV h),(5,.p 1 0),(6,sV pa P.length pc),(7,.p 2001 0),(8,iV c),(9,iV P.length),(113,iV n),(114,iV i.1)]) (fun i=>[(1,⟨69,[bV false,sV none 0 0,bV false,sV none 0 0]⟩),(2001,⟨69,qc f6⟩)])
  (fun i u' m'=>i.1<=n/\Js P.length c (n-i.1) i.1 i.2.2=Js P.length c n 0 X2/\Rec n k i.2.2/\gM i.2.2 P.length=Kn F R/\(∀ x j,i.1<=x->x<n->j<k->x≠P.length->Sz (gR (gM i.2.2 x) j) E)/\SzM i.2.2 (4*E+2)/\QAt u' i.2.1 i.2.2/\Bag m' (Np (.slice pa P.length pc) P::oQ (.slice (some ⟨go,0,none⟩) n C) i.2.1::i.2.1.map Ej))
  (fun i=>n-i.1) (0,rows2,X2) ⟨A1t _,rfl,b5,aw,fun x j _ hx hj bt=>az x j hx hj bt,Aco b5 (fun x j hx hj=>?_),bn,H⟩ ?_
 ·by_cases e:x=P.length
  ·rw[e,aw];exact (b6 j hj).mono oV
  exact (az x j hx hj e).mono oV
 clear H bn az aw b5;rintro J4 ⟨i,t,X3⟩ b4 u8 m8 l8 ⟨hi,ai,Y,a2,a3,a8,L,N⟩;simp only at hi ai Y a2 a3 a8 L N b4;have dk:t.length=n:=by rw[L.1,Y.1]
 by_cases V:i<n
 ·refine G.lT i n ?_;obtain⟨K3,bm⟩:∃ K3,n-i=K3+1:=⟨n-i-1,oV⟩;by_cases aj:i=P.length
  ·refine G.eT i P.length<|G.i i<|G.b (b4 (i+1,t,X3) _ _ _ cV l8 ⟨dV,?_,Y,a2,fun x j h1=>a3 x j (by dsimp only at h1;omega),a8,L,N⟩ dV);dsimp only;rw[<-ai,bm,Js,if_pos (.inl aj),show n-(i+1)=K3 by omega]
  refine G.eF i P.length ?_;obtain⟨gi,ci,ei,bx,df,c4,bu,db⟩:=Agr N L Y V b0;obtain⟨fg,g5,g6,g7⟩:=db c oV;have aq:=a3 i c (A08 _) V (show c<k by omega) aj;refine G.a go 0 n C i 1 V<|G.lM none go (0+i*1) _ bu<|G.a gi 0 k ci c 4 oV<|G.lM (some 4) gi (0+c*4) (qv fg) g7<|G.c call81 (Nt g6 (A04 aq.1 oV)) ?_;rintro v9 u9 l9 rfl;rw[Az7];by_cases af:gR (gM X3 i) c=0
  ·rw[decide_eq_true af];refine G.i i<|G.b (b4 (i+1,t,X3) _ _ _ cV (l8.trans l9) ⟨dV,?_,Y,a2,fun x j h1=>a3 x j (by dsimp only at h1;omega),a8,L.mono l9,N⟩ dV);dsimp only;rw[<-ai,bm,Js,if_pos (.inr af),show n-(i+1)=K3 by omega]
  rw[decide_eq_false af];obtain⟨S,hS⟩:∃ S,S=gM X3 i:=⟨_,rfl⟩;have cd:S.length=k:=by rw[hS];exact Y.2 i V
  have ce:∀ j,j<k->Sz (gR S j) E:=fun j hj=>by rw[hS];exact a3 i j (A08 _) V hj aj
  have cj:Js P.length c (n-(i+1)) (i+1) (X3.set i (P9 (gR S c) (Kn F R) S))=Js P.length c n 0 X2:=by
   rw[<-ai,bm,Js,if_neg (by simp[aj,af]),show n-(i+1)=K3 by omega,hS,a2]
  rw[<-hS]at g6 aq c4;generalize hg:gR S c=g at *
  have c1:=Apn g (Kn F R) S;refine G.a go 0 n C i 1 V<|G.lM none go (0+i*1) _ bu<|G.a gi 0 k ci c 4 oV<|G.lM (some 4) gi (0+c*4) (qv fg) g7<|G.a go 0 n C i 1 V<|G.lM none go (0+i*1) _ bu ?_;obtain⟨gs,cs,c3,cv,dq,du,dw,dc⟩:=Agr N L Y hP b0;refine G.l (ι:=Nat×List Value) (fun y=>[(0,sV (some ⟨go,0,none⟩) n C),(1,iV h),(5,.p 1 0),(6,sV pa P.length pc),(7,.p 2001 0),(8,iV c),(9,iV P.length),(113,iV n),(114,iV i),(13,iV i),(14,.p 25007 0),(141,iV k),(142,iV y.1)]) (fun y=>[(1,⟨69,[bV false,sV none 0 0,bV false,sV none 0 0]⟩),(2001,⟨69,qc f6⟩),(25007,⟨69,qc fg⟩)])
   (fun y u' m'=>y.1<=k/\AtP QP u' y.2 (Tj (P9 g (Kn F R) S) S y.1)/\Bag m' (Np (.slice pa P.length pc) P::oQ (.slice (some ⟨go,0,none⟩) n C) t::(t.set i ((Value.slice (some ⟨gi,0,none⟩) k ci),y.2)).map Ej)) (fun y=>k-y.1) (0,ei)
   ⟨A1t _,by rw[Aa3];exact c4.mono (fun _ _ k=>k.mono l9),by rw[Ny bx];exact N⟩ ?_
  rintro J5 ⟨y,W⟩ ca dz b2 b1 ⟨hy,Q,H⟩;simp only at hy Q H ca;have b9:=Agl (k:=y) c1 oV;have cl:W.length=k:=by rw[Q.1,b9,cd]
  have a1:(t.set i ((Value.slice (some ⟨gi,0,none⟩) k ci),W))[i]?=some ((Value.slice (some ⟨gi,0,none⟩) k ci),W):=by rw[A1z];simp[dk,V]
  have bs:(t.set i ((Value.slice (some ⟨gi,0,none⟩) k ci),W))[P.length]?=some (Value.slice (some ⟨gs,0,none⟩) k cs,c3):=by rw[A1z,if_neg aj];exact cv
  by_cases ad:y<k
  ·refine G.lT y k ?_;obtain⟨e,e1,e2⟩:=Q.at (j:=y) oV;obtain⟨fe,rfl⟩:=e2.opQ;rw[<-Cu oV,Al3 c1 oV]at e2;have ho:ElP b2 go (0+i*1) (Value.slice (some ⟨gi,0,none⟩) k ci):=H.el 1 (x:=oQ (.slice (some ⟨go,0,none⟩) n C) t) rfl rfl (by show (t.map (·.1))[i]?=_;rw[A1a,bx];rfl);have au:ElP b2 go (0+P.length*1) (Value.slice (some ⟨gs,0,none⟩) k cs):=H.el 1 (x:=oQ (.slice (some ⟨go,0,none⟩) n C) t) rfl rfl (by show (t.map (·.1))[P.length]?=_;rw[A1a,cv];rfl);have he:ElP b2 gi (0+y*4) (qv fe):=H.el (i+2) (x:=Ej ((Value.slice (some ⟨gi,0,none⟩) k ci),W)) (Ka a1) rfl e1;obtain⟨fs,s5,s6,_⟩:=dc y ad;rw[a2]at s6;have br:ElP b2 gs (0+y*4) (qv fs):=H.el (P.length+2) (x:=Ej (Value.slice (some ⟨gs,0,none⟩) k cs,c3)) (Ka bs) rfl s5;refine G.a go 0 n C i 1 V<|G.lM none go (0+i*1) _ ho<|G.a go 0 n C i 1 V<|G.lM none go (0+i*1) _ ho<|G.a gi 0 k ci y 4 ad<|G.lM (some 4) gi (0+y*4) (qv fe) he<|G.a go 0 n C P.length 1 hP<|G.lM none go (0+P.length*1) _ au<|G.a gs 0 k cs y 4 ad<|G.lM (some 4) gs (0+y*4) (qv fs) br<|G.c call28 (Gh (g6.mono (l9.trans b1)) (s6.mono (l9.trans b1)) (aq.mono oV) ((b6 y ad).mono oV)) ?_;intro e5 e0 c2 cy;obtain⟨ds,rfl⟩:=cy.opQ;have dh:=Fx aq (b6 y ad);refine G.c call32 (Adl (e2.mono c2) cy ((ce y ad).mono oV) (dh.mono oV)) ?_;intro e6 e3 d0 cz;obtain⟨bj,rfl⟩:=cz.opQ;obtain⟨m0,a0,a7⟩:=H.focus (i+2) (Ka a1);rw[Rg]at a0;refine G.a gi 0 k ci y 4 ad<|G.storeA 4 m0 W gi k ci y (qv bj) kV a0 oV rfl rfl ?_;intro dp cw;have bf:=a7 (Ej ((Value.slice (some ⟨gi,0,none⟩) k ci),W.set y (qv bj))) dp cw;rw[Afw,A6r]at bf;refine G.i y<|G.b (ca (y+1,W.set y (qv bj)) _ _ _ cV ((b1.trans c2).trans d0) ⟨dV,?_,bf⟩ dV);dsimp only;rw[<-Af8 c1 oV,Ai0 _ _ _ oV];exact (Q.mono (fun _ _ k=>k.mono (c2.trans d0))).set y cz
  obtain rfl:y=k:=oV;refine G.lF y y ?_;rw[Ad7 oV cd]at Q;rw[<-Apm (es':=W) bx]at H;refine G.i i ?_;have cg:Rec n y (X3.set i (P9 g (Kn F R) S)):=I8 Y V oV;have ab:∀ x,gM (X3.set i (P9 g (Kn F R) S)) x=if i=x then P9 g (Kn F R) S else gM X3 x:=fun x=>Kb (by rw[Y.1];exact V)
  refine G.b (b4 (i+1,t.set i ((Value.slice (some ⟨gi,0,none⟩) y ci),W),X3.set i (P9 g (Kn F R) S)) _ _ _ cV ((l8.trans l9).trans b1) ⟨dV,cj,cg,?_,?_,?_,?_,H⟩ dV)
  ·dsimp only;rw[ab,if_neg aj];exact a2
  ·intro x j h1 h2 h3 h4;dsimp only at h1⊢;rw[ab,if_neg oV];exact a3 x j oV h2 h3 h4
  ·refine Aco cg (fun x j hx hj=>?_);rw[ab];split
   ·rw[Ai0 _ _ _ oV];exact (Akj (ce j hj) (Fx aq (b6 j hj))).mono oV
   exact a8.at Y hx hj
  exact (L.mono (l9.trans b1)).set (i:=i) (r:=((Value.slice (some ⟨gi,0,none⟩) y ci),W)) oV Q
 obtain rfl:i=n:=oV;refine G.lF i i ?_;rw[A4i,Js]at ai;rw[<-ai]at Z;refine G.B 3 1 8 (.int .i64 0) [.int .i64 c] (Av [c]) ?_;intro g9 u9 l9 e9;obtain⟨m0,a0,da⟩:=N;rw[Aka]at a0;have df:(Ai P).length=P.length:=by simp[Ai]
 refine G.append 3 1 8 (.int .i64 0) m0 (Ai P) [.int .i64 c] (.slice pa P.length pc) g9 0 1 1 kV rfl rfl oV a0 e9 (Av [c]) rfl oV oV oV ?_;intro e4 b2 ah;rw[show Ai P++[Value.int .i64 c]=Ai (P++[c]) by simp[Ai]]at ah;obtain⟨d4,d5,rfl⟩:=ah.shape;have el:(Ai (P++[c])).length=(P++[c]).length:=by simp[Ai]
 rw[el]at ah⊢;refine G.i c<|G.b (hJ ⟨c+1,P++[c],d4,d5,t,X3,f6,d1*F⟩ _ _ _ cV ((((((l2.trans l3).trans l4).trans l5).trans l6).trans l7).trans (l8.trans l9)) ⟨dV,gV,Z,Y,?_,?_,k6.mono ((l7.trans l8).trans l9),L.mono l9,m0,ah,da⟩ dV)
 ·dsimp only;rw[c6];exact a8
 dsimp only;rw[c6];exact (Fx ax b3).mono oV
section
variable {es:List Value}{u:PH}
def N4.snoc1 {m:List (List (List UInt8))}{a:Option Addr}{c:Nat}{r:List (List UInt8)}(h:N4 u es m)(F:Cj u (.slice a r.length c) r):N4 u (es++[.slice a r.length c]) (m++[r]):=by
 refine⟨by simp[h.1],fun j r' e=>?_⟩;by_cases g:j<m.length
 ·rw[A1r g]at e;obtain⟨t,z,C,E⟩:=h.2 j r' e;exact⟨t,z,by rw[A1r (by rw[h.1];exact g)];exact C,E⟩
 rw[A18 oV]at e;have n:j-m.length=0:=by
  rcases A2a (j-m.length) with h0|h0
  ·exact h0
  rw[A1v gV]at e;cases e
 rw[n]at e;simp at e;subst e;exact⟨a,c,by rw[A18 (by rw[h.1];omega),h.1,n];rfl,F⟩
def Apw {v:Value}{m:List Rat}(h:Ac u v 4 es)(L:AtP QP u es m)(hT:∀ q∈m,Tx q)(Y:m.length<=1000):Fn0 prog 83 [v] u fun r O=>∃ N,r=.tuple #[N,.int .i64 0]/\Cj O N (m.map Ae):=by
 obtain⟨a,c,rfl⟩:=Ac.opn h;have F:=L.1;rw[F]at h⊢;refine Fn0.o func83<|G.l (ι:=Nat×(Option Addr×Nat)) (fun i=>[(4,sV i.2.1 i.1 i.2.2),(9,sV a m.length c),(10,iV m.length),(11,iV i.1)]) (fun _=>[])
  (fun i O X=>i.1<=m.length/\Af PH.mt X (.slice i.2.1 i.1 i.2.2) 34 1 (Cc ((m.take i.1).map Ae))) (fun i=>m.length-i.1) (0,none,0) ⟨oV,Af.nil _ _ _⟩ ?_
 rintro J ⟨i,pa,pc⟩ K u1 m1 I ⟨hi,E⟩;simp only at hi E K;by_cases z:i<m.length
 ·refine G.lT i m.length ?_;obtain⟨q,t⟩:∃ q,m[i]?=some q:=⟨_,A01 z⟩;have H:m.take (i+1)=m.take i++[q]:=by rw[A1n,t];rfl
  obtain⟨x,V,C⟩:=L.2 i q t;obtain⟨f,rfl⟩:=C.opQ;obtain⟨b,o,rfl,e⟩:=Ac.at' (Ac.mono h I) (j:=i) (e:=qv f) V;refine G.a b o m.length c i 4 z<|G.lU (some 4) b (o+i*4) (qv f) e<|G.c call84 (Ox (C.mono I) (hT q (A1k t))) ?_;rintro v2 u2 l2 rfl;refine G.nF 0 0<|G.B 34 1 16 (.string (mkS [])) [.string (mkS (Ae q))] (Gc [Ae q]) ?_;intro U u3 W R;refine G.append 34 1 16 (.string (mkS [])) PH.mt (Cc ((m.take i).map Ae)) [.string (mkS (Ae q))] (.slice pa i pc) U 0 1 1 kV rfl rfl oV E R (Gc [Ae q]) rfl oV (by simp[Cc];omega) (by simp[Cc];omega) ?_;intro v4 m4 n;have T:Cc ((m.take i).map Ae)++[.string (mkS (Ae q))]=Cc ((m.take (i+1)).map Ae):=by rw[H];simp[Cc]
  rw[T]at n;obtain⟨P,Q,rfl⟩:=n.shape;have el:(Cc ((m.take (i+1)).map Ae)).length=i+1:=by simp[Cc];omega
  rw[el]at n⊢;exact G.i i<|G.b (K (i+1,P,Q) _ _ _ cV ((I.trans l2).trans W) ⟨dV,n⟩ dV)
 obtain rfl:i=m.length:=oV;refine G.lF m.length m.length ?_;rw[A15]at E;refine G.give _ _ _ kV E (fun g=>.inl rfl) ?_;intro u6 Z hF;exact G.r (.tuple #[.slice pa m.length pc,.int .i64 0]) ⟨rfl,_,rfl,hF⟩
end
section
variable {P:List Par}{m m0:PH}{v:Value}
def Bu (r:Value×List Value):Arr:=⟨r.1,34,1,r.2⟩
def oT (v:Value)(rows:List (Value×List Value)):Arr:=⟨v,46,1,rows.map (·.1)⟩
def D6 {r:Value×List Value}:(Bu r).At m0 m=Af m0 m r.1 34 1 r.2:=rfl
def Aaa {e:List (Value×List Value)}:(oT v e).At m0 m=Af m0 m v 46 1 (e.map (·.1)):=rfl
def txV (l:List Rat):List Value:=l.map fun q=>.string (mkS (Ae q))
def Cw (l:List Rat):(txV l).length=l.length:=by simp[txV]
def Md (l:List Rat)(q:Rat):txV l++[.string (mkS (Ae q))]=txV (l++[q]):=by simp[txV]
def E7 (q:Rat):A9 1 [.string (mkS (Ae q))]:=Gc [Ae q]
def J7 (l:List Rat):txV l=Cc (l.map Ae):=by simp[txV,Cc]
def Lh (C:CF)(P:List Par):List (List Rat):=(An P).map fun e=>(An P).map (As C e)
def Ex {i:Nat}:(An P).take (i+1)=none::(P.take i).map some:=by unfold An;rw[List.take_succ_cons,A5g]
def Afv {u:PH}{v cv:Value}{T:List (List UInt8×Nat)}{R:List Br}{F:List Al}{lab:Int}{C:CF}{K k:Nat}(h:Te u v cv T R F lab C K k P) :
 Ag prog 58 [v,cv] u PH.mt fun r u' m'=>∃ (pa:Option Addr) (pc:Nat) (xa:Option Addr) (xc:Nat) (ra:Option Addr) (rc:Nat) (g:List (Value×List Value)),
  r=.tuple #[.agg #[.slice pa P.length pc,.slice xa (P.length+1) xc,.slice ra (P.length+1) rc],.int .i64 0]/\Ac u' (.slice pa P.length pc) 2 (P.map Ap)/\g.map (·.2)=(Lh C P).map txV /\
  Bag m' (Bu (.slice ra (P.length+1) rc,txV ((An P).map (Bh C)))::oT (.slice xa (P.length+1) xc) g::g.map Bu):=by
 have ay:=Aif h.sch h.ok h.cof h.sC h.vC h.K h.bel;have bu:=h.p24;have hK:=h.K;have bw:=h.lab0;have hS:=fun (u':PH) (l:PH.le u u') (p:Par)=>At9 p (h.cof.mono l) oV;have hQ:=fun (u':PH) (l:PH.le u u') (p q:Par)=>U2 p q (h.cof.mono l) oV;have ad:=Cp P;obtain⟨xa,xc,xb,xd,xe,xf,rfl,_⟩:=id h.sch;obtain⟨a1,n1,c1,a2,n2,c2,rfl⟩:=id h.cof.opn;refine Ag.o func58<|G.c call37 ay ?_;intro v1 u1 l1 hp;obtain⟨ps,L,rfl,hL,_,af⟩:=hp.resolve_left fun⟨_,L,bb,af⟩=>by rw[af.eq h.prm]at bb;omega
 rw[af.eq h.prm]at hL;obtain⟨pa,pc,rfl⟩:=hL.opn;rw[A03]at hL⊢;refine G.nF 0 0<|G.lF lab 0<|G.c call137 (hS u1 l1 B7) ?_;rintro v2 u2 l2 rfl;refine G.buildM 34 1 16 (.string (mkS [])) [.string (mkS (Ae (C.s B7)))] kV (E7 _) rfl oV mV mV ?_;intro g3 m3 bd;refine G.buildM 34 1 16 (.string (mkS [])) [.string (mkS (Ae C.c))] kV (E7 _) rfl oV mV mV ?_;intro g4 m4 be;refine G.l (ι:=Nat×(Option Addr×Nat)×(Option Addr×Nat)) (fun i=>[(3,.p 1 0),(4,.p 2 0),(6,sV pa P.length pc),(8,.p 6001 0),(9,.p 7006 0),(10,sV i.2.1.1 (i.1+1) i.2.1.2),(42,sV pa P.length pc),(43,iV P.length),(44,iV i.1)])
  (fun i=>[(1,⟨38,[tV (Ae C.c),sV a1 n1 c1,sV a2 n2 c2]⟩),(2,⟨57,[sV none 0 0,sV none 0 0,sV none 0 0]⟩),(6001,⟨118,[iV (-1),tV []]⟩),
   (7006,⟨57,[.v (.slice pa P.length pc),.v (.slice none 0 0),.v (.slice i.2.2.1 (i.1+1) i.2.2.2)]⟩)])
  (fun i u' m'=>i.1<=P.length/\Bag m' [Bu (.slice i.2.1.1 (i.1+1) i.2.1.2,txV (((An P).take (i.1+1)).map (As C none))),Bu (.slice i.2.2.1 (i.1+1) i.2.2.2,txV (((An P).take (i.1+1)).map (Bh C)))]) (fun i=>P.length-i.1) (0,(some ⟨g4,0,none⟩,1),(some ⟨g3,0,none⟩,1))
  ⟨oV,m3,be,PH.mt,bd,trivial⟩ ?_
 rintro J ⟨i,⟨fa,fc⟩,⟨ra,rc⟩⟩ hJ u5 m5 l5 ⟨hi,n⟩;simp only at hi n hJ;have aa:=(l1.trans l2).trans l5;by_cases W:i<P.length
 ·refine G.lT i P.length ?_;obtain⟨p,X⟩:∃ p,P[i]?=some p:=⟨_,A01 W⟩;have a6:(An P).take (i+1+1)=(An P).take (i+1)++[some p]:=by rw[Ex,Ex,A1n,X];simp
  obtain⟨Q,Y,rfl,ep⟩:=Ac.at' (hL.mono (l2.trans l5)) (j:=i) (e:=Ap p) (by simp[X]);refine G.a Q Y P.length pc i 2 W<|G.lU (some 2) Q (Y+i*2) (.agg #[.int .i64 p.1,.string (mkS p.2)]) ep<|G.c call137 (hS u5 aa p) ?_;rintro v6 u6 l6 rfl;refine G.B 34 1 16 (.string (mkS [])) [.string (mkS (Ae (C.s p)))] (E7 _) ?_;intro g7 u7 l7 e7;obtain⟨m0,H,E⟩:=n.focus 0 rfl;rw[D6]at H;have V:(txV (((An P).take (i+1)).map (As C none))).length=i+1:=by rw[Cw,A03,A1e];omega
  refine G.append 34 1 16 (.string (mkS [])) m0 (txV (((An P).take (i+1)).map (As C none))) [.string (mkS (Ae (C.s p)))] (.slice fa (i+1) fc) g7 0 1 1 kV rfl rfl oV H e7 (E7 _) rfl oV (by rw[V];omega) (by rw[V];omega) ?_;intro v8 m8 a3;have e8:txV (((An P).take (i+1)).map (As C none))++[.string (mkS (Ae (C.s p)))]=txV (((An P).take (i+1+1)).map (As C none)):=by rw[a6,A1i,Md];rfl
  rw[e8]at a3;have ah:(txV (((An P).take (i+1+1)).map (As C none))).length=i+1+1:=by rw[Cw,A03,A1e];omega
  obtain⟨a8,c8,rfl⟩:=a3.shape;rw[ah]at a3⊢;have ag:=E (Bu (.slice a8 (i+1+1) c8,txV (((An P).take (i+1+1)).map (As C none)))) m8 a3;have bm:=(aa.trans l6).trans l7;refine G.c call66 (hQ u7 bm B7 p) ?_;rintro v9 u9 l9 rfl;refine G.B 34 1 16 (.string (mkS [])) [.string (mkS (Ae (C.t (Ay B7 p))))] (E7 _) ?_;intro ab c0 bj b4;obtain⟨bn,b0,ai⟩:=ag.focus 1 rfl;rw[D6]at b0;have ax:(txV (((An P).take (i+1)).map (Bh C))).length=i+1:=by rw[Cw,A03,A1e];omega
  refine G.append 34 1 16 (.string (mkS [])) bn (txV (((An P).take (i+1)).map (Bh C))) [.string (mkS (Ae (C.t (Ay B7 p))))] (.slice ra (i+1) rc) ab 0 1 1 kV rfl rfl oV b0 b4 (E7 _) rfl oV (by rw[ax];omega) (by rw[ax];omega) ?_;intro c4 b3 I;have b5:txV (((An P).take (i+1)).map (Bh C))++[.string (mkS (Ae (C.t (Ay B7 p))))]=txV (((An P).take (i+1+1)).map (Bh C)):=by rw[a6,A1i,Md];rfl
  rw[b5]at I;have bf:(txV (((An P).take (i+1+1)).map (Bh C))).length=i+1+1:=by rw[Cw,A03,A1e];omega
  obtain⟨ak,an,rfl⟩:=I.shape;rw[bf]at I⊢;have a4:=ai (Bu (.slice ak (i+1+1) an,txV (((An P).take (i+1+1)).map (Bh C)))) b3 I;exact G.i i<|G.b (hJ (i+1,(a8,c8),(ak,an)) _ _ _ cV ((((l5.trans l6).trans l7).trans l9).trans bj) ⟨dV,a4⟩ dV)
 obtain rfl:i=P.length:=oV;refine G.lF P.length P.length ?_;clear hJ;rw[show (An P).take (P.length+1)=An P by rw[A1j oV]]at n;have aa:=(l1.trans l2).trans l5;have bx:(txV ((An P).map (As C none))).length=P.length+1:=by rw[Cw,A03,ad]
 refine G.B 46 1 24 (.slice none 0 0) [.slice fa (P.length+1) fc] (B5 _ _ _) ?_;intro g6 u6 l6 e6;refine G.append 46 1 24 (.slice none 0 0) m5 [] [.slice fa (P.length+1) fc] (.slice none 0 0) g6 0 1 1 kV rfl rfl oV (Af.nil _ _ _) e6 (B5 _ _ _) rfl oV mV mV ?_;intro v7 m7 ac;obtain⟨a7,c7,rfl⟩:=ac.shape;have av:Bag m7 (Bu (.slice ra (P.length+1) rc,txV ((An P).map (Bh C)))::oT (.slice a7 1 c7) [(.slice fa (P.length+1) fc,txV ((An P).map (As C none)))]::[(Value.slice fa (P.length+1) fc,txV ((An P).map (As C none)))].map Bu) :=
  Bag.perm (A5r (l₁:=[oT (.slice a7 1 c7) [(.slice fa (P.length+1) fc,txV ((An P).map (As C none)))],Bu (.slice fa (P.length+1) fc,txV ((An P).map (As C none)))]) (l₂:=[Bu (.slice ra (P.length+1) rc,txV ((An P).map (Bh C)))])) ⟨m5,ac,n⟩
 have bl:=aa.trans l6;have ae:=hL.mono ((l2.trans l5).trans l6);have bg:∀ i,i<=P.length->((Lh C P).take (i+1)).length=i+1:=fun i hi=>by rw[A1e];unfold Lh;rw[A03,ad];omega
 refine G.l (ι:=Nat×(Option Addr×Nat)×List (Value×List Value)) (fun i=>[(3,.p 1 0),(4,.p 2 0),(6,sV pa P.length pc),(9,.p 7006 0),(70,sV pa P.length pc),(71,iV P.length),(72,iV i.1)])
  (fun i=>[(1,⟨38,[tV (Ae C.c),sV a1 n1 c1,sV a2 n2 c2]⟩),(2,⟨57,[sV none 0 0,sV none 0 0,sV none 0 0]⟩),
   (7006,⟨57,[.v (.slice pa P.length pc),.v (.slice i.2.1.1 (i.1+1) i.2.1.2),.v (.slice ra (P.length+1) rc)]⟩)])
  (fun i u' m'=>i.1<=P.length/\i.2.2.map (·.2)=((Lh C P).take (i.1+1)).map txV/\Bag m' (Bu (.slice ra (P.length+1) rc,txV ((An P).map (Bh C)))::oT (.slice i.2.1.1 (i.1+1) i.2.1.2) i.2.2::i.2.2.map Bu)) (fun i=>P.length-i.1)
  (0,(a7,c7),[(.slice fa (P.length+1) fc,txV ((An P).map (As C none)))]) ⟨oV,by unfold Lh An;rfl,av⟩ ?_
 clear av ac n;rintro J ⟨i,⟨Z,a0⟩,g⟩ hJ u8 m8 l8 ⟨hi,z,n⟩;simp only at hi z n hJ;have bh:g.length=i+1:=by have:=congrArg List.length z;rw[A03,A03,bg i hi]at this;exact this
 by_cases W:i<P.length
 ·refine G.lT i P.length ?_;obtain⟨p,X⟩:∃ p,P[i]?=some p:=⟨_,A01 W⟩;have a6:(An P).take (i+1+1)=(An P).take (i+1)++[some p]:=by rw[Ex,Ex,A1n,X];simp
  have b2:=bl.trans l8;obtain⟨Q,Y,e0,ep⟩:=Ac.at' (ae.mono l8) (j:=i) (e:=Ap p) (by simp[X]);subst e0;refine G.a Q Y P.length pc i 2 W<|G.lU (some 2) Q (Y+i*2) (.agg #[.int .i64 p.1,.string (mkS p.2)]) ep<|G.c call137 (hS u8 b2 p) ?_;rintro v9 u9 l9 rfl;refine G.buildM 34 1 16 (.string (mkS [])) [.string (mkS (Ae (C.s p)))] kV (E7 _) rfl oV mV mV ?_;intro ab bz aq;refine G.l (ι:=Nat×(Option Addr×Nat)) (fun j=>[(3,.p 1 0),(4,.p 2 0),(6,sV (some ⟨Q,Y,none⟩) P.length pc),(9,.p 7006 0),(14,.p 18002 0),(15,sV j.2.1 (j.1+1) j.2.2),(70,sV (some ⟨Q,Y,none⟩) P.length pc),(71,iV P.length),(72,iV i),(80,sV (some ⟨Q,Y,none⟩) P.length pc),(81,iV P.length),(82,iV j.1)])
   (fun j=>[(1,⟨38,[tV (Ae C.c),sV a1 n1 c1,sV a2 n2 c2]⟩),(2,⟨57,[sV none 0 0,sV none 0 0,sV none 0 0]⟩),
    (7006,⟨57,[.v (.slice (some ⟨Q,Y,none⟩) P.length pc),.v (.slice Z (i+1) a0),.v (.slice ra (P.length+1) rc)]⟩),(18002,⟨118,[.v (.int .i64 p.1),.v (.string (mkS p.2))]⟩)])
   (fun j u' m'=>j.1<=P.length/\Bag m' (Bu (.slice j.2.1 (j.1+1) j.2.2,txV (((An P).take (j.1+1)).map (As C (some p))))::Bu (.slice ra (P.length+1) rc,txV ((An P).map (Bh C)))::oT (.slice Z (i+1) a0) g::g.map Bu)) (fun j=>P.length-j.1)
   (0,some ⟨ab,0,none⟩,1) ⟨oV,m8,aq,n⟩ ?_
  rintro J2 ⟨j,la,lc⟩ ar bs b3 a9 ⟨hj,a5⟩;simp only at hj a5 ar;have b1:=(b2.trans l9).trans a9;by_cases aw:j<P.length
  ·refine G.lT j P.length ?_;obtain⟨q,az⟩:∃ q,P[j]?=some q:=⟨_,A01 aw⟩;have bi:(An P).take (j+1+1)=(An P).take (j+1)++[some q]:=by rw[Ex,Ex,A1n,az];simp
   obtain⟨bq,oq,e0,eq⟩:=Ac.at' (ae.mono ((l8.trans l9).trans a9)) (j:=j) (e:=Ap q) (by simp[az]);cases e0;refine G.a Q Y P.length pc j 2 aw<|G.lU (some 2) Q (Y+j*2) (.agg #[.int .i64 q.1,.string (mkS q.2)]) eq<|G.c call66 (hQ bs b1 p q) ?_;rintro c5 bt aj rfl;refine G.B 34 1 16 (.string (mkS [])) [.string (mkS (Ae (C.t (Ay p q))))] (E7 _) ?_;intro ba c3 bk b7;obtain⟨m0,H,E⟩:=a5.focus 0 rfl;rw[D6]at H;have V:(txV (((An P).take (j+1)).map (As C (some p)))).length=j+1:=by rw[Cw,A03,A1e];omega
   refine G.append 34 1 16 (.string (mkS [])) m0 (txV (((An P).take (j+1)).map (As C (some p)))) [.string (mkS (Ae (C.t (Ay p q))))] (.slice la (j+1) lc) ba 0 1 1 kV rfl rfl oV H b7 (E7 _) rfl oV (by rw[V];omega) (by rw[V];omega) ?_;intro ca br O;have b8:txV (((An P).take (j+1)).map (As C (some p)))++[.string (mkS (Ae (C.t (Ay p q))))]=txV (((An P).take (j+1+1)).map (As C (some p))):=by rw[bi,A1i,Md];rfl
   rw[b8]at O;have ah:(txV (((An P).take (j+1+1)).map (As C (some p)))).length=j+1+1:=by rw[Cw,A03,A1e];omega
   obtain⟨am,ap,rfl⟩:=O.shape;rw[ah]at O⊢;have U:=E (Bu (.slice am (j+1+1) ap,txV (((An P).take (j+1+1)).map (As C (some p))))) br O;exact G.i j<|G.b (ar (j+1,am,ap) _ _ _ cV ((a9.trans aj).trans bk) ⟨dV,U⟩ dV)
  obtain rfl:j=P.length:=oV;refine G.lF P.length P.length ?_;rw[show (An P).take (P.length+1)=An P by rw[A1j oV]]at a5;refine G.B 46 1 24 (.slice none 0 0) [.slice la (P.length+1) lc] (B5 _ _ _) ?_;intro b9 bt aj b6;obtain⟨m0,H,E⟩:=a5.focus 2 rfl;rw[Aaa]at H;refine G.k 46 1 24 (.slice none 0 0) m0 (g.map (·.1)) [.slice la (P.length+1) lc] (.slice Z (i+1) a0) b9 0 1 1 H b6 (B5 _ _ _) ?_;intro c6 bo N;have em:g.map (·.1)++[Value.slice la (P.length+1) lc]=(g++[(Value.slice la (P.length+1) lc,txV ((An P).map (As C (some p))))]).map (·.1):=mV;rw[em]at N;obtain⟨al,ao,rfl⟩:=N.shape;have el:((g++[(Value.slice la (P.length+1) lc,txV ((An P).map (As C (some p))))]).map (·.1)).length=i+1+1:=by simp[bh]
  rw[el]at N⊢;have au:=E (oT (.slice al (i+1+1) ao) (g++[(Value.slice la (P.length+1) lc,txV ((An P).map (As C (some p))))])) bo N;have U:=Bag.perm S8 au;refine G.i i<|G.b (hJ (i+1,(al,ao),g++[(Value.slice la (P.length+1) lc,txV ((An P).map (As C (some p))))]) _ _ _ cV (((l8.trans l9).trans a9).trans aj) ⟨dV,?_,by simpa using U⟩ dV);dsimp only;rw[A1i,z];unfold Lh;rw[<-A5g,<-A5g,a6,A1i,A1i];rfl
 obtain rfl:i=P.length:=oV;refine G.lF P.length P.length ?_;rw[A1j (by unfold Lh;rw[A03,ad];omega)]at z;exact G.r (.tuple #[.agg #[.slice pa P.length pc,.slice Z (P.length+1) a0,.slice ra (P.length+1) rc],.int .i64 0]) ⟨pa,pc,Z,a0,ra,rc,g,rfl,ae.mono l8,z,n⟩
end
section
variable {C:CF}{F:List Al}{K c i k n:Nat}{P:List Par}{R:List Br}{T:List (List UInt8×Nat)}{X:List (List Rat)}{cv v:Value}{lab:Int}{m u:PH}{o s:Arr}{q:Rat}{r:Value×List Value}{rows:List (Value×List Value)}
def Lw (h:rows[i]?=some r):(s::o::rows.map Bu)[i+2]?=some (Bu r):=by simp[h]
def Agw :(s::o::rows.map Bu).set (i+2) (Bu r)=s::o::(rows.set i r).map Bu:=by
 simp[A2g]
def Aho {x:Value}{es es':List Value}(h:rows[i]?=some (x,es)):oT v (rows.set i (x,es'))=oT v rows:=by
 unfold oT
 congr 1
 rw[A2g];exact Ny (by rw[A1a,h];rfl)
def Ayw {g n c i:Nat}(t:Bag m (s::oT (.slice (some ⟨g,0,none⟩) n c) rows::rows.map Bu))(U:rows.map (·.2)=X.map txV)(L:Rec n n X)(hi:i<n) :
 ∃ E J,rows[i]?=some (.slice (some ⟨E,0,none⟩) n J,txV (gM X i))/\ElP m g (0+i*1) (.slice (some ⟨E,0,none⟩) n J)/\∀ j,j<n->ElP m E (0+j*1) (.string (mkS (Ae (gR (gM X i) j)))):=by
 have Y:rows.length=n:=by have:=congrArg List.length U;simpa[L.1] using this
 have h:rows[i]?=some rows[i]:=A01 oV;obtain⟨⟨Z,O⟩,V⟩:∃ x,rows[i]=x:=⟨_,rfl⟩;rw[V]at h;have N:O=txV (gM X i):=by
  have Q:(rows.map (·.2))[i]?=some O:=by rw[A1a,h];rfl
  have I:i<X.length:=by rw[L.1];exact hi
  rw[U,A1a,A01 I]at Q;rw[Ch I];simpa using Q.symm
 subst N;have z:(txV (gM X i)).length=n:=by rw[Cw,L.2 i hi]
 obtain⟨E,J,e⟩:=t.ptr (i+2) (Lw h) (by intro e;simp only[Bu]at e;rw[e]at z;simp at z;omega);simp only[Bu]at e;rw[z]at e;subst e;refine⟨E,J,h,t.el 1 (x:=oT _ rows) rfl rfl (by show (rows.map (·.1))[i]?=_;rw[A1a,h];rfl),fun j W=>?_⟩;have H:j<(gM X i).length:=by rw[L.2 i hi];exact W
 exact t.el (i+2) (x:=Bu _) (Lw h) rfl (by show (txV (gM X i))[j]?=_;unfold txV;rw[A1a,A01 H,Cu H];rfl)
def V9 {v:Value}{a:Option Addr}(g:Bag m (s::oT (.slice a n c) rows::rows.map Bu))(N:rows.map (·.2)=X.map txV)(L:PH.le m u):C7 u (.slice a n c) (Cv X):=by
 obtain⟨m0,h0,_⟩:=g.focus 1 rfl;have E:rows.length=X.length:=by have:=congrArg List.length N;simpa using this
 rw[Aaa]at h0;refine⟨rows.map (·.1),h0.list L,by simp[Cv,E],fun j r h=>?_⟩;unfold Cv at h;rw[A1a]at h;cases hx:X[j]? with
 |none=>rw[hx]at h;cases h
 |some x =>
  rw[hx]at h;simp only[A4c,A1f]at h;subst h;obtain⟨Q,_⟩:=A05.1 hx;have e:rows[j]?=some rows[j]:=A01 oV;obtain⟨⟨V,I⟩,O⟩:∃ x,rows[j]=x:=⟨_,rfl⟩;rw[O]at e;have z:I=txV x:=by
   have t:(rows.map (·.2))[j]?=some I:=by rw[A1a,e];rfl
   rw[N,A1a,hx]at t;simpa using t.symm
  subst z;obtain⟨U,t,_⟩:=g.focus (j+2) (Lw e);rw[D6]at t;obtain⟨a1,c1,H⟩:=t.shape;simp only at H;subst H;have J:=t.list L;simp only[Cw]at J;refine⟨a1,c1,by rw[A1a,e];simp[Cw],?_⟩;rw[A03];unfold Cj;rw[<-J7];exact J
def D0 (q:Rat)(X:List (List Rat)):Nat->List (List Rat)
 |0=>X
 |1=>X
 |i+2=>(D0 q X (i+1)).set (i+1) ((gM (D0 q X (i+1)) (i+1)).set (i+1) (gR (gM (D0 q X (i+1)) (i+1)) (i+1)+q))
def Nx {q:Rat}{X:List (List Rat)}{n:Nat}(e:Rec n n X):∀ i,i<=n->Rec n n (D0 q X i)
 |0,_=>e
 |1,_=>e
 |i+2,h=>by
  have g:=Nx e (q:=q) (i+1) oV;exact I8 g oV (by rw[A21,g.2 (i+1) oV])
theorem Vv {q:Rat}{X:List (List Rat)}{n:Nat}(z:Rec n n X):∀ i,i<=n->∀ a b,a<n->b<n->en (D0 q X i) a b=en X a b+if a=b/\0<a/\a<i then q else 0
 |0,_,a,b,_,_=>by rw[if_neg oV];show en X a b=en X a b+0;grind
 |1,_,a,b,_,_=>by rw[if_neg oV];show en X a b=en X a b+0;grind
 |i+2,h,a,b,ha,hb=>by
  have e:=Vv z (q:=q) (i+1) oV a b ha hb;have E:=Nx z (q:=q) (i+1) oV;have H:i+1<(gM (D0 q X (i+1)) (i+1)).length:=by rw[E.2 (i+1) oV];omega
  show gR (gM ((D0 q X (i+1)).set (i+1) _) a) b=_;rw[Kb (by rw[E.1];omega)];by_cases g:i+1=a
  ·rw[if_pos g,Aht H];by_cases j:i+1=b
   ·subst g;subst j;rw[if_pos rfl,if_pos ⟨rfl,oV,oV⟩];rw[if_neg oV]at e;show en (D0 q X (i+1)) (i+1) (i+1)+q=_;rw[e];grind
   subst g;rw[if_neg j,if_neg oV];rw[if_neg oV]at e;exact e
  rw[if_neg g];show en (D0 q X (i+1)) a b=_;rw[e];by_cases t:a=b/\0<a/\a<i+1
  ·rw[if_pos t,if_pos oV]
  rw[if_neg t,if_neg oV]
def Azh {r:List Rat}(h:X[i]?=some r):gM X i=r:=by unfold gM;rw[A02,h];rfl
def Aep {l:List Rat}{r:Rat}(h:l[i]?=some r):gR l i=r:=by unfold gR;rw[A02,h];rfl
def Aj2 (C:CF)(P:List Par)(hi:i<P.length+1):gM (Lh C P) i=(An P).map (As C ((An P).getD i none)):=by
 have e:i<(An P).length:=by rw[Cp];exact hi
 refine Azh ?_;unfold Lh;rw[A1a,A01 e,A02,A01 e];rfl
def Sj (C:CF)(P:List Par):Rec (P.length+1) (P.length+1) (Lh C P) :=
 ⟨by unfold Lh;rw[A03,Cp],fun i hi=>by rw[Aj2 C P hi,A03,Cp]⟩
def Abs (C:CF)(P:List Par){i j:Nat}(hi:i<P.length+1)(g:j<P.length+1):en (Lh C P) i j=As C ((An P).getD i none) ((An P).getD j none):=by
 have e:j<(An P).length:=by rw[Cp];exact g
 unfold en;rw[Aj2 C P hi];refine Aep ?_;rw[A1a,A02 (l:=An P) (i:=j),A01 e];rfl
def Fd.de (h:Fd q):De 2 2 q:=by
 obtain⟨p,e,g⟩:=h.thirty;exact⟨p,30,e,oV,oV,oV⟩
def Te.cellDe (h:Te u v cv T R F lab C K k P)(e f:Option Par):De 75 18 (As C e f):=by
 cases e<;>cases f
 ·show De 75 18 C.c;rw[h.mom.c];exact (De.nat (a:=2) (by have:=h.mom.lt;omega)).mono oV oV
 ·exact h.mom.s _
 ·exact h.mom.s _
 exact h.mom.t _
theorem Ae1 (h:Te u v cv T R F lab C K k P)(hq:Fd q) :
 Fn0 prog 16 [v,cv,.string (mkS (Ae q))] u fun r O=>(∃ e:Int,e≠0/\(k=0/\e=12\/e=3/\k≠0/\11<P.length)/\r=.tuple #[.agg #[.slice none 0 0,.slice none 0 0,.slice none 0 0],.int .i64 e]) \/
  (k≠0/\P.length<=11/\∃ (pa:Option Addr) (pc:Nat) (xa:Option Addr) (xc:Nat) (ra:Option Addr) (rc:Nat),r=.tuple #[.agg #[.slice pa P.length pc,.slice xa (P.length+1) xc,.slice ra (P.length+1) rc],.int .i64 0]/\Ac O (.slice pa P.length pc) 2 (P.map Ap) /\
   C7 O (.slice xa (P.length+1) xc) (Cv (D0 q (Lh C P) (P.length+1)))/\Cj O (.slice ra (P.length+1) rc) (((An P).map (Bh C)).map Ae)):=by
 have ab:=Afv h;have a9:=fun (O:PH) (l:PH.le u O)=>Afs (h.mono l) hq;have aa:=h.cellDe;obtain⟨xa,xc,xb,xd,xe,xf,rfl,_⟩:=id h.sch;obtain⟨a1,n1,c1,a2,n2,c2,rfl⟩:=id h.cof.opn;refine Fn0.o func16<|G.callO _ _ kV call58 ab ?_;rintro v1 u1 m1 l1 ⟨pa,pc,ya,I,ra,rc,rows,rfl,a6,t,z⟩ _;rw[By];refine G.nF 0 0<|G.c call59 (a9 u1 l1) ?_;rintro v2 u2 l2 rfl;by_cases h0:k=0
 ·rw[if_pos h0];exact G.nT 12 0<|G.drop PH.mt kV (PH.mt_le _)<|G.r (.tuple #[.agg #[.slice none 0 0,.slice none 0 0,.slice none 0 0],.int .i64 12]) ⟨rfl,.inl ⟨12,oV,.inl ⟨h0,rfl⟩,rfl⟩⟩
 rw[if_neg h0];refine G.nF 0 0 ?_;by_cases ac:P.length+1>12
 ·exact G.gT (P.length+1:Nat) 12<|G.drop PH.mt kV (PH.mt_le _)<|G.r (.tuple #[.agg #[.slice none 0 0,.slice none 0 0,.slice none 0 0],.int .i64 3]) ⟨rfl,.inl ⟨3,oV,.inr ⟨rfl,h0,oV⟩,rfl⟩⟩
 refine G.gF (P.length+1:Nat) 12 ?_;have hX:=Sj C P;generalize a8:Lh C P=X at t hX;have a7:∀ i j,i<P.length+1->j<P.length+1->De 75 18 (en X i j):=fun i j hi hj=>by rw[<-a8,Abs C P hi hj];exact aa _ _
 have a3:rows.length=P.length+1:=by have:=congrArg List.length t;simpa[hX.1] using this
 obtain⟨go,co,eo⟩:=z.ptr 1 rfl (fun e=>by
  have:(rows.map (·.1)).length=0:=by rw[show rows.map (·.1) = [] from e];rfl
  rw[A03]at this;omega)
 have a4:(Value.slice ya (P.length+1) I)=.slice (some ⟨go,0,none⟩) (P.length+1) co:=by
  have e1:(oT (.slice ya (P.length+1) I) rows).v=Value.slice ya (P.length+1) I:=rfl;rw[e1]at eo;rw[eo];have:(oT (.slice ya (P.length+1) I) rows).es.length=P.length+1:=by show (rows.map (·.1)).length=_;rw[A03,a3]
  rw[this]
 cases a4;refine G.l (ι:=Nat×List (Value×List Value)) (fun i=>[(2,tV (Ae q)),(6,.p 2 0),(8,.p 1006 0),(11,iV i.1)])
  (fun _=>[(2,⟨57,[sV none 0 0,sV none 0 0,sV none 0 0]⟩),(1006,⟨57,[sV pa P.length pc,sV (some ⟨go,0,none⟩) (P.length+1) I,sV ra (P.length+1) rc]⟩)])
  (fun i O m'=>1<=i.1/\i.1<=P.length+1/\i.2.map (·.2)=(D0 q X i.1).map txV/\Bag m' (Bu (.slice ra (P.length+1) rc,txV ((An P).map (Bh C)))::oT (.slice (some ⟨go,0,none⟩) (P.length+1) I) i.2::i.2.map Bu)) (fun i=>P.length+1-i.1)
  (1,rows) ⟨oV,oV,t,z⟩ ?_
 clear z t a3;rintro J ⟨i,rows⟩ hJ u3 m3 l3 ⟨a5,hi,t,z⟩;simp only at a5 hi t z hJ;have U:=Nx (q:=q) hX i hi;by_cases E:i<P.length+1
 ·refine G.lT i (P.length+1:Nat) ?_;obtain⟨L,N,a0,e1,e2⟩:=Ayw z t U E;have W:gR (gM (D0 q X i) i) i=en X i i:=by
   have:=Vv (q:=q) hX i hi i i E E;rw[if_neg oV]at this;show en (D0 q X i) i i=_;rw[this];grind
  have hd:=a7 i i E E;refine G.a go 0 (P.length+1) I i 1 E<|G.lM none go (0+i*1) (.slice (some ⟨L,0,none⟩) (P.length+1) N) e1<|G.a L 0 (P.length+1) N i 1 E<|G.lM none L (0+i*1) (.string (mkS (Ae (gR (gM (D0 q X i) i) i)))) (e2 i E) ?_;rw[W];have ha:=hd.add hq.de (f:=77) oV oV;refine G.c call60 (Aug (hd.tx oV oV oV oV) hq.tx (ha.tx oV oV oV oV)) ?_;rintro v4 u4 l4 rfl;refine G.nF 0 0<|G.a go 0 (P.length+1) I i 1 E<|G.lM none go (0+i*1) (.slice (some ⟨L,0,none⟩) (P.length+1) N) e1<|G.a L 0 (P.length+1) N i 1 E ?_;obtain⟨m0,H,Z⟩:=z.focus (i+2) (Lw a0);rw[D6]at H;have ad:(txV (gM (D0 q X i) i)).length=P.length+1:=by rw[Cw,U.2 i E]
  refine G.storeA 1 m0 (txV (gM (D0 q X i) i)) L (P.length+1) N i (.string (mkS (Ae (en X i i+q)))) kV H oV rfl rfl ?_;intro m5 Q;have es:(txV (gM (D0 q X i) i)).set i (.string (mkS (Ae (en X i i+q))))=txV ((gM (D0 q X i) i).set i (gR (gM (D0 q X i) i) i+q)):=by
   rw[W];unfold txV;rw[A2g]
  rw[es]at Q;have V:=Z (Bu (.slice (some ⟨L,0,none⟩) (P.length+1) N,txV ((gM (D0 q X i) i).set i (gR (gM (D0 q X i) i) i+q)))) m5 Q;rw[Agw,<-Aho a0 (es':=txV ((gM (D0 q X i) i).set i (gR (gM (D0 q X i) i) i+q)))]at V;refine G.i i<|G.b (hJ (i+1,rows.set i (.slice (some ⟨L,0,none⟩) (P.length+1) N,txV ((gM (D0 q X i) i).set i (gR (gM (D0 q X i) i) i+q)))) _ _ _ cV (l3.trans l4) ⟨dV,dV,?_,V⟩ dV);dsimp only;obtain⟨j,rfl⟩:∃ j,i=j+1:=⟨i-1,oV⟩;rw[A2g,t,<-A2g];rfl
 obtain rfl:i=P.length+1:=oV;refine G.lF (P.length+1:Nat) (P.length+1:Nat)<|G.giveP (ma:=m3) (sm:=PH.mt) kV (by funext g;unfold PH.or;cases m3 g<;>rfl) (fun g=>.inr rfl) (fun g=>.inl rfl) ?_
 intro u6 l6 Y;obtain⟨m0,H,_⟩:=z.focus 0 rfl;rw[D6]at H;have hR:Cj u6 (.slice ra (P.length+1) rc) (((An P).map (Bh C)).map Ae):=by
  unfold Cj;rw[<-J7];exact H.list Y
 exact G.r (.tuple #[.agg #[.slice pa P.length pc,.slice (some ⟨go,0,none⟩) (P.length+1) I,.slice ra (P.length+1) rc],.int .i64 0]) ⟨rfl,.inr ⟨h0,oV,pa,pc,_,I,ra,rc,rfl,a6.mono ((l2.trans l3).trans l6),V9 (v:=.bool true) z t Y,hR⟩⟩
end
section
variable {n q:Nat}
structure Tq (q:Rat):Prop where
 tx:Tx q
 den:q.den ∣ 21600
 num:q.num.natAbs<=3000000000000
def A0p {q d:Nat}(g:q ∣ 21600)(e:d ∣ 21600):q*(d/Nat.gcd q d) ∣ 21600:=by
 rw[<-Nat.mul_div_assoc _ (Nat.gcd_dvd_right _ _)];exact Ba7 g e
def leW (h:q ∣ 21600):0<q/\q<=21600:=⟨Nat.pos_of_dvd_of_pos h oV,A48 oV h⟩
def nlM (h:n<1000000000000000000):nl n<=2:=A4 (by simpa using h)
def Awq (h:n<100000000000000000):Lib.nDigits n<=17:=Cz (k:=17) oV oV
def Amo {u:PH}{v:Value}{A:List (List Rat)}{n w:Nat}(h:C7 u v (Cv A))(hA:A.length<=12)(hr:∀ r∈A,r.length=w)(hw:w<=12)(hT:∀ r∈A,∀ q∈r,Tq q)(hn:n<=12):Fn0 prog 138 [v,.int .i64 n] u fun v' _=>v'=.bool false:=by
 obtain⟨a,c,rfl⟩:=h.opn;rw[A3]at h⊢;refine Fn0.o func138<|G.c call67 (Ac6 (n:=1) oV oV) ?_;intro v1 u1 l1 k1;obtain⟨f1,rfl⟩:=k1.opB;refine G.l (ι:=Nat×B3×Nat) (fun i=>[(0,sV a A.length c),(1,iV n),(5,.p 1001 0),(18,iV A.length),(19,iV i.1)]) (fun i=>[(1001,⟨67,bc i.2.1⟩)])
  (fun i u' V=>i.1<=A.length/\i.2.2 ∣ 21600/\Do u' (bv i.2.1) (i.2.2:Int)/\V=PH.mt) (fun i=>A.length-i.1) (0,f1,1) ⟨A1t _,Ba6 _,k1,rfl⟩ ?_
 rintro J ⟨i,f,q⟩ Z u2 m2 l2 ⟨hi,I,H,rfl⟩;simp only at hi I H Z;by_cases g:i<A.length
 ·refine G.lT i A.length ?_;obtain⟨t,E,a1,c1,rfl,O,Y⟩:=(h.mono (l1.trans l2)).row (Dw (A01 g));rw[A03,hr _ (A09 g)]at O Y;refine G.a t E A.length c i 1 g<|G.lU none t (E+i*1) _ O<|G.l (ι:=Nat×B3×Nat) (fun k=>[(0,sV (some ⟨t,E,none⟩) A.length c),(1,iV n),(5,.p 1001 0),(18,iV A.length),(19,iV i),(6,iV i),(26,iV w),(27,iV k.1)]) (fun k=>[(1001,⟨67,bc k.2.1⟩)])
   (fun k u' V=>k.1<=w/\k.2.2 ∣ 21600/\Do u' (bv k.2.1) (k.2.2:Int)/\V=PH.mt) (fun k=>w-k.1) (0,f,q) ⟨A1t _,I,H,rfl⟩ ?_
  clear H I;rintro J2 ⟨k,f,q⟩ F u3 m3 N ⟨hk,I,H,rfl⟩;simp only at hk I H F;by_cases C:k<w
  ·refine G.lT k w ?_;have z:k<A[i].length:=by rw[hr _ (A09 g)];exact C
   have m:Tq A[i][k]:=hT _ (A09 g) _ (A09 z);obtain⟨X,o2,rfl,e3⟩:=Ac.at' (Ac.mono Y N) (j:=k) (e:=.string (mkS (Ae A[i][k]))) (by simp[Cc,A01 z]);refine G.a t E A.length c i 1 g<|G.lU none t (E+i*1) _ (O.mono N)<|G.a X o2 w c1 k 1 C<|G.lU none X (o2+k*1) _ e3<|G.c call27 (G8 m.tx) ?_;intro v4 u4 K k4;obtain⟨b4,a4,n4,c4,ah,an,aj,rfl,_,_,a6⟩:=k4.opn;have hd:=m.den;generalize A[i][k]=x at *
   obtain⟨a8,a0⟩:=leW hd;obtain⟨Q,a3⟩:=leW I;have al:0<Nat.gcd q x.den:=Nat.gcd_pos_of_pos_left _ Q;refine G.c call145 (Abo (H.mono K) a6 (A04 (nl1 oV) oV) (A04 (nl1 oV) oV)) ?_;intro v5 u5 W k5;simp only[A1s]at k5;obtain⟨f5,rfl⟩:=k5.opB;have ae:Nat.gcd q x.den<=q:=Nat.gcd_le_left _ Q;refine G.c call147 (Q5 (a6.mono W) k5 (A04 (nl1 oV) oV) (A04 (nl1 oV) oV) oV) ?_;rintro v6 u6 l6 ⟨x6,y6,rfl,R,T⟩;obtain⟨f6,rfl⟩:=R.opB;obtain⟨a7,rfl⟩:=T.opB;have e6:((x.den:Int)).tdiv ((Nat.gcd q x.den:Nat):Int)=((x.den/Nat.gcd q x.den:Nat):Int):=by
    rw[A32 oV];rfl
   rw[e6]at R;have L:=A0p I hd;have a9:x.den/Nat.gcd q x.den<=x.den:=A3u _ _;refine G.c call74 (Gg (H.mono (((K.trans W).trans l6))) R (A04 (nl1 oV) oV) (A04 (nlN oV) oV)) ?_;intro v7 u7 l7 U;obtain⟨f7,rfl⟩:=U.opB;rw[<-A4d]at U;generalize q*(x.den/Nat.gcd q x.den)=r at *
   obtain⟨am,ag⟩:=leW L;refine G.c call206 (Q0 U (A04 (nlM oV) oV)) ?_;rintro v8 u8 l8 rfl;have P:Lib.nDigits (r:Int).natAbs<=17:=Awq oV;generalize Lib.nDigits (r:Int).natAbs=D at *
   have ab:n*D<=12*17:=A25 hn P;exact G.mul (n:Int) (D:Int) ((n*D:Nat):Int) kV (by rw[A4d]) oV oV<|G.gF (n*D:Nat) 600<|G.i k<|G.b (F (k+1,f7,r) _ _ _ cV (((((N.trans K).trans W).trans l6).trans l7).trans l8) ⟨dV,L,U.mono l8,rfl⟩ dV)
  exact G.lF k w<|G.i i<|G.b (Z (i+1,f,q) _ _ _ cV (l2.trans N) ⟨dV,I,H,rfl⟩ dV)
 refine G.lF i A.length ?_;clear Z g hi;refine G.l (ι:=Nat) (fun i=>[(0,sV a A.length c),(1,iV n),(5,.p 1001 0),(58,iV A.length),(59,iV i)]) (fun i=>[(1001,⟨67,bc f⟩)])
  (fun i u' V=>i<=A.length/\V=PH.mt) (fun i=>A.length-i) 0 ⟨A1t _,rfl⟩ ?_
 rintro J i Z u3 m3 N ⟨hi,rfl⟩;by_cases g:i<A.length
 ·refine G.lT i A.length ?_;obtain⟨t,E,a1,c1,rfl,O,Y⟩:=(h.mono ((l1.trans l2).trans N)).row (Dw (A01 g));rw[A03,hr _ (A09 g)]at O Y;refine G.a t E A.length c i 1 g<|G.lU none t (E+i*1) _ O<|G.l (ι:=Nat) (fun k=>[(0,sV (some ⟨t,E,none⟩) A.length c),(1,iV n),(5,.p 1001 0),(58,iV A.length),(59,iV i),(11,iV i),(66,iV w),(67,iV k)]) (fun k=>[(1001,⟨67,bc f⟩)])
   (fun k u' V=>k<=w/\V=PH.mt) (fun k=>w-k) 0 ⟨A1t _,rfl⟩ ?_
  rintro J2 k F u4 m4 K ⟨hk,rfl⟩;by_cases C:k<w
  ·refine G.lT k w ?_;have z:k<A[i].length:=by rw[hr _ (A09 g)];exact C
   have m:Tq A[i][k]:=hT _ (A09 g) _ (A09 z);obtain⟨X,o2,rfl,e3⟩:=Ac.at' (Ac.mono Y K) (j:=k) (e:=.string (mkS (Ae A[i][k]))) (by simp[Cc,A01 z]);refine G.a t E A.length c i 1 g<|G.lU none t (E+i*1) _ (O.mono K)<|G.a X o2 w c1 k 1 C<|G.lU none X (o2+k*1) _ e3<|G.c call27 (G8 m.tx) ?_;intro v5 u5 W k5;obtain⟨b5,a5,n5,c5,ai,ao,ak,rfl,_,ad,ac⟩:=k5.opn;have hd:=m.den;have a2:=m.num;generalize A[i][k]=x at *
   obtain⟨a8,a0⟩:=leW hd;obtain⟨Q,a3⟩:=leW I;have aa:=H.mono ((N.trans K).trans W);refine G.c call147 (Q5 aa ac (A04 (nlM oV) oV) (A04 (nl1 oV) oV) oV) ?_;rintro v6 u6 l6 ⟨x6,y6,rfl,R,T⟩;obtain⟨f6,rfl⟩:=R.opB;obtain⟨a7,rfl⟩:=T.opB;have e6:((q:Int)).tdiv (x.den:Int)=((q/x.den:Nat):Int):=by
    rw[A32 oV];rfl
   rw[e6]at R;have a9:q/x.den<=q:=A3u _ _;refine G.c call74 (Gg (ad.mono l6) R (A04 (nlM oV) oV) (A04 (nlN oV) oV)) ?_;intro v7 u7 l7 U;obtain⟨f7,rfl⟩:=U.opB;have af:(x.num*((q/x.den:Nat):Int)).natAbs<=3000000000000*21600:=by
    rw[A26,A1s];exact A25 a2 oV
   refine G.c call206 (Q0 U (A04 (nlM oV) oV)) ?_;rintro v8 u8 l8 rfl;have P:Lib.nDigits (x.num*((q/x.den:Nat):Int)).natAbs<=17:=Awq oV;generalize Lib.nDigits (x.num*((q/x.den:Nat):Int)).natAbs=D at *
   have ab:n*D<=12*17:=A25 hn P;exact G.mul (n:Int) (D:Int) ((n*D:Nat):Int) kV (by rw[A4d]) oV oV<|G.gF (n*D:Nat) 600<|G.i k<|G.b (F (k+1) _ _ _ cV ((((K.trans W).trans l6).trans l7).trans l8) ⟨oV,rfl⟩ oV)
  exact G.lF k w<|G.i i<|G.b (Z (i+1) _ _ _ cV (N.trans K) ⟨oV,rfl⟩ oV)
 exact G.lF i A.length<|G.gF n 600<|G.r (.bool false) ⟨rfl,rfl⟩
end
section
variable {X:List (List Rat)}{n p r w:Nat}
def Ay1 (n m:Nat)(X:List (List Rat))(y:Nat->Rat):Prop:=∀ i,i<n->Bb n (fun j=>en X i j*y j)=en X i m
theorem Yt (h:Rec n w X)(K:n<=w)(u:r<n)(hp:p<n)(I:r<=p)(h0:en X p r≠0)(C:∀ i j,i<n->j<r->en X i j=if i=j then 1 else 0) :
 ∀ i j,i<n->j<r+1->en (J8 X r r p) i j=if i=j then 1 else 0:=by
 intro i j hi J;unfold J8;rw[h.1];have z:Rec n w (if p=r then X else If X p r):=by
  split
  ·exact h
  exact Mk h hp u
 have m:∀ i j,en (if p=r then X else If X p r) i j=if i=r then en X p j else if i=p then en X r j else en X i j:=fun i j=>by
  split
  ·rename_i e;subst e;split
   ·rename_i e;rw[e]
   rfl
  rw[Si h hp u]
 rw[Acm u oV n 0 _ oV (R8 z u) i j oV,Jd z u i j,Jd z u i r,Jd z u r j,if_pos rfl,m i j,m i r,m r j,m r r,if_pos rfl,if_pos rfl];have F:en X p r*(1/en X p r)=1:=by grind
 generalize 1/en X p r=q at *
 by_cases g:i=r
 ·rw[if_neg oV,if_pos g,if_pos g];by_cases E:j=r
  ·rw[E,g,if_pos rfl,F]
  rw[C p j hp oV,if_neg oV,if_neg oV];grind
 rw[if_pos ⟨oV,oV,g⟩,if_neg g,if_neg g,if_neg g,if_neg g];by_cases E:j=r
 ·subst E;rw[if_neg g];generalize (if i=p then en X j j else en X i j)=t;rw[show t-t*(en X p j*q)=t-t*(en X p j*q) from rfl,F];grind
 rw[C p j hp oV,if_neg (show ¬ p=j by omega)];by_cases H:i=p
 ·rw[if_pos H,C r j u oV,if_neg (show ¬ r=j by omega),if_neg (show ¬ i=j by omega)];grind
 rw[if_neg H,C i j hi oV];grind
theorem Aes (n:Nat)(a b y:Nat->Rat)(t:Rat):Bb n (fun j=>(a j-t*b j)*y j)=Bb n (fun j=>a j*y j)-t*Bb n (fun j=>b j*y j):=by
 rw[<-B4,<-Y8];exact Ah fun j _=>by grind
theorem Afg (n:Nat)(b y:Nat->Rat)(q:Rat):Bb n (fun j=>(b j*q)*y j)=q*Bb n (fun j=>b j*y j):=by
 rw[<-B4];exact Ah fun j _=>by grind
theorem Ans {n w m r c p:Nat}{y:Nat->Rat}(h:Rec n w X)(T:n<=w)(R:m<w)(t:r<n)(hp:p<n)(Q:c<n)(h0:en X p c≠0)(O:Ay1 n m (J8 X r c p) y):Ay1 n m X y:=by
 have I:Rec n w (if p=r then X else If X p r):=by
  split
  ·exact h
  exact Mk h hp t
 have u:∀ i j,en (if p=r then X else If X p r) i j=if i=r then en X p j else if i=p then en X r j else en X i j:=fun i j=>by
  split
  ·rename_i e;subst e;split
   ·rename_i e;rw[e]
   rfl
  rw[Si h hp t]
 have z:∀ k j,k<n->j<w->en (J8 X r c p) k j=if k=r then en X p j*(1/en X p c) else (if k=p then en X r j else en X k j)-(if k=p then en X r c else en X k c)*(en X p j*(1/en X p c)):=by
  intro k j J N;unfold J8;rw[h.1,Acm t oV n 0 _ oV (R8 I t) k j N,Jd I t k j,Jd I t k c,Jd I t r j,if_pos rfl,u k j,u k c,u r j,u r c,if_pos rfl,if_pos rfl];by_cases e:k=r
  ·rw[if_neg oV,if_pos e,if_pos e,if_pos e]
  rw[if_pos ⟨oV,oV,e⟩,if_neg e,if_neg e,if_neg e,if_neg e,if_neg e]
 have P:en X p c*(1/en X p c)=1:=by grind
 generalize 1/en X p c=q at *
 have F:Bb n (fun j=>en X p j*y j)=en X p m:=by
  have C:=O r t;rw[Ah (g:=fun j=>(en X p j*q)*y j) fun j N=>by rw[z r j t oV,if_pos rfl],z r m t oV,if_pos rfl,Afg]at C;generalize Bb n (fun j=>en X p j*y j)=S at *
  have:en X p c*(q*S)=en X p c*(en X p m*q):=by rw[C]
  grind
 have E:∀ k,k<n->k≠r->Bb n (fun j=>(if k=p then en X r j else en X k j)*y j)=if k=p then en X r m else en X k m:=by
  intro k J H;have C:=O k J;rw[Ah (g:=fun j=>((if k=p then en X r j else en X k j)-((if k=p then en X r c else en X k c)*q)*en X p j)*y j) fun j N=>by rw[z k j J oV,if_neg H];grind,z k m J oV,if_neg H,Aes,F]at C;grind
 intro i hi;by_cases K:i=p
 ·rw[K];exact F
 by_cases L:i=r
 ·have C:=E p hp (fun e=>K (by rw[L,e]));rw[L];simpa using C
 have C:=E i hi L;simpa[K] using C
theorem Z5 {n w m:Nat}(E:n<=w)(C:m<w):∀ f c P X d,c+f=n->P.length=c->Rec n w X->(∀ i j,i<n->j<c->en X i j=if i=j then 1 else 0) ->
 ¬ (Bn f c P X d).1.length<n->Ay1 n m X (fun i=>en (Bn f c P X d).2.1 i m)
 |0,c,P,X,d,hc,hP,h,hu,e=>by
  have F:Bn 0 c P X d=(P,X,d):=rfl;rw[F];intro i hi;have:∀ l,l<=n->Bb l (fun j=>en X i j*en X j m)=if i<l then en X i m else 0:=by
   intro l;induction l with
   |zero=>intro _;rw[Uk,if_neg oV]
   |succ l ih =>
    intro e;rw[Ds,ih oV,hu i l hi oV];by_cases t:i<l
    ·rw[if_pos t,if_neg oV,if_pos oV];grind
    by_cases u:i=l
    ·rw[if_neg t,if_pos u,if_pos oV,<-u];grind
    rw[if_neg t,if_neg u,if_neg oV];grind
  rw[this n (A08 _),if_pos hi]
 |f+1,c,P,X,d,hc,hP,h,hu,e=>by
  revert e
  unfold Bn;rw[if_pos (show P.length<X.length by rw[h.1];omega)];obtain⟨J,K⟩:=Ss X c (X.length-P.length) P.length;have H:=W7 X c (X.length-P.length) P.length;generalize El X c (X.length-P.length) P.length=p at *
  split
  ·intro e;have:=Yb f (c+1) P X d;omega
  rename_i hpx;intro e;have I:=h.1;have g:p<n:=oV;have h0:=H oV;rw[hP]at e⊢;have z:=Yt h oV (show c<n by omega) g oV h0 hu;exact Ans h E C oV g oV h0 (Z5 E C f (c+1) (P++[c]) (J8 X c c p) _ oV (by simp[hP]) (Xw h oV g) z e)
end

def Ad3 {m0 m:PH}{v:Value}{t:TypeId}{sz:Nat}{es:List Value}(h:Af m0 m v t sz es):PH.le m0 m:=by
 rcases h.2 with ⟨_,_,rfl⟩|⟨g,cap,rest,e,rfl,_⟩
 ·exact PH.le_refl _
 exact Jw _ e
def Wp {n w:Nat}:∀ f c P X d,Rec n w X->Rec n w (Bn f c P X d).2.1
 |0,_,_,_,_,h=>h
 |f+1,c,P,X,d,h=>by
  rw[Bn];by_cases e:P.length<X.length
  ·rw[if_pos e];by_cases hp:El X c (X.length-P.length) P.length=X.length
   ·rw[if_pos hp];exact Wp f _ _ _ _ h
   rw[if_neg hp];have g:=Ss X c (X.length-P.length) P.length;have j:=h.1;exact Wp f _ _ _ _ (Xw h oV oV)
  rw[if_neg e];exact h
def Tq.sz {q:Rat}(h:Tq q):Sz q 2:=by
 have h1:=h.num;have h2:=(leW h.den).2;exact⟨nlM oV,nlM oV⟩
def es1 {n:Nat}(h:n<=12):es 2 n<=1000000000:=A04 (Apd 2 h) fV
section
variable {i j:Nat}{qs:List Rat}
theorem Wy {q:Rat}{z:Int}{D:Nat}(h:q*(D:Rat)=(z:Rat))(h0:0<D):q.den ∣ D/\q.num.natAbs<=z.natAbs:=by
 have n:q=Rat.divInt z (D:Int):=by
  rw[A37,A2r,<-h];have:=T4 h0;grind
 obtain⟨e,g,t⟩:=O7 (y:=z) (z:=(D:Int)) oV;rw[n];constructor
 ·have m:((Rat.divInt z (D:Int)).den:Int)=((D/Nat.gcd z.natAbs D:Nat):Int):=by
   rw[g,show ((D:Int)).natAbs=D from rfl,A32 oV,<-A5k]
  rw[Int.ofNat.inj m];exact Nat.div_dvd_of_dvd (Nat.gcd_dvd_right _ _)
 rw[e,A8o];exact A3u _ _
section
variable {P:List Par} {C:CF} {q:Rat} {N:Nat}
def Eh (C:CF)(P:List Par)(q:Rat):List (List Rat):=D0 q (Lh C P) (P.length+1)
def Yz (C:CF)(P:List Par):List Rat:=(An P).map (Bh C)
def Rx:Rec (P.length+1) (P.length+1) (Eh C P q):=Nx (Sj C P) _ (A08 _)
def N8 (hi:i<P.length+1)(e:j<P.length+1):en (Eh C P q) i j=As C ((An P).getD i none) ((An P).getD j none)+if i=j/\0<i then q else 0:=by
 unfold Eh;rw[Vv (Sj C P) _ (A08 _) i j hi e,Abs C P hi e];have:(if i=j/\0<i/\i<P.length+1 then q else 0)=if i=j/\0<i then q else 0:=by simp[hi]
 rw[this]
def Ag3:(Yz C P).length=P.length+1:=by unfold Yz;rw[A03,Cp]
def A0b (hi:i<P.length+1):gR (Yz C P) i=Bh C ((An P).getD i none):=by
 have e:=Cp P;refine Aep ?_;unfold Yz;rw[A1a,A02,A01 oV];rfl
def Am9 (h:P.Nodup)(n:qs.length=P.length)(m:j<P.length):Fo P[j] (P.zip qs)=gR qs j:=by
 have g:j<qs.length:=oV
 rw[Cu g];refine Kh ?_ (A3d.2 ⟨j,gV,mV⟩);have e:(P.zip qs).map (·.1)=P:=List.map_fst_zip oV;rw[e];exact h
def Ar2 (e:P.Nodup){m0:Rat}(g:qs.length=P.length):∀ j,j<P.length+1->cfE m0 (P.zip qs) ((An P).getD j none)=gR (m0::qs) j:=by
 intro j h;cases j with
 |zero=>rfl
 |succ j =>
  unfold An;rw[A6b,A02,A1a,A01 oV];show Fo P[j] (P.zip qs)=gR (m0::qs) (j+1);rw[Am9 e g oV];rfl
def Alq (hi:i<P.length+1):(An P).getD i none∈An P:=by
 have:=Cp P;rw[A02,A01 oV];exact A09 _
end
end
section
variable {P:Nat->Nat}{R S:Nat->Nat->Int}{a b c j n r:Nat}{f:Nat->Int}{v:Int}
def Ca:Nat->(Nat->Int)->Int
 |0,_=>0
 |n+1,f=>Ca n f+f n
def Cr {f g:Nat->Int}:∀ {n:Nat},(∀ j,j<n->f j=g j)->Ca n f=Ca n g
 |0,_=>rfl
 |n+1,h=>by rw[Ca,Ca,Cr fun j e=>h j oV,h n oV]
def Aai (h:∀ j,j<n->f j=0):Ca n f=0:=by
 induction n with
 |zero=>rfl
 |succ n ih=>rw[Ca,ih fun j e=>h j oV,h n oV];rfl
theorem Ll {f g:Nat->Int}(a b:Int):∀ {n:Nat},Ca n (fun j=>a*f j+b*g j)=a*Ca n f+b*Ca n g
 |0=>by simp[Ca]
 |n+1=>by rw[Ca,Ca,Ca,Ll a b];grind
theorem X7 (g:j<n)(h:∀ t,t<n->t≠j->f t=0):Ca n f=f j:=by
 induction n with
 |zero=>omega
 |succ n ih =>
  rw[Ca];by_cases e:j=n
  ·subst e;rw[Aai fun t m=>h t oV oV];omega
  grind
theorem Ar3 (m:a+1<n)(h:∀ t,t<n->t≠a->t≠a+1->f t=0):Ca n f=f a+f (a+1):=by
 induction n with
 |zero=>omega
 |succ n ih =>
  rw[Ca];by_cases e:a+1=n
  ·subst e;rw[X7 (j:=a) oV fun t u g=>h t oV g oV]
  grind
def dsg:Nat->Int
 |0=>1
 |n+1=>- dsg n
def Akx:∀ r:Nat,dsg (r+r)=1
 |0=>rfl
 |r+1=>by rw[show r+1+(r+1)=r+r+1+1 by omega,dsg,dsg,Akx r];rfl
def Eu (j:Nat)(C:Nat->Nat->Int):Nat->Nat->Int:=fun t=>if t<j then C t else C (t+1)
def dt:Nat->(Nat->Nat->Int)->Int
 |0,_=>1
 |r+1,C=>Ca (r+1) fun j=>dsg (r+j)*C j r*dt r (Eu j C)
def Ih:∀ {r:Nat} {C D:Nat->Nat->Int},(∀ t,t<r->∀ i,i<r->C t i=D t i)->dt r C=dt r D
 |0,_,_,_=>rfl
 |r+1,C,D,h=>by
  rw[dt,dt];refine Cr fun j e=>?_;rw[h j e r oV,Ih (D:=Eu j D)];intro t g i hi;unfold Eu;split
  ·exact h t oV i oV
  exact h (t+1) oV i oV
def Dc (C:Nat->Nat->Int)(j:Nat)(x:Nat->Int):Nat->Nat->Int:=fun t=>if t=j then x else C t
theorem Od (C:Nat->Nat->Int)(j:Nat)(x:Nat->Int):Eu j (Dc C j x)=Eu j C:=by
 funext t
 unfold Eu Dc;split
 ·grind
 grind
theorem Nz (C:Nat->Nat->Int)(h:j<a)(x:Nat->Int):Eu a (Dc C j x)=Dc (Eu a C) j x:=by
 funext t
 unfold Eu Dc;by_cases e:t=j
 ·grind
 grind
theorem Kz (C:Nat->Nat->Int)(h:a<j)(x:Nat->Int):Eu a (Dc C j x)=Dc (Eu a C) (j-1) x:=by
 funext t
 unfold Eu Dc;by_cases e:t=j-1
 ·grind
 grind
def Ja (C:Nat->Nat->Int)(j:Nat)(x:Nat->Int):Dc C j x j=x:=by simp[Dc]
theorem Id (C:Nat->Nat->Int){j t:Nat}(h:t≠j)(x:Nat->Int):Dc C j x t=C t:=by simp[Dc,h]
theorem O2 (C:Nat->Nat->Int)(j:Nat):Dc C j (C j)=C:=by
 funext t
 unfold Dc;split
 ·grind
 rfl
theorem Mt (a b:Int)(x y:Nat->Int):∀ {r:Nat} (C:Nat->Nat->Int) {j:Nat},j<r->dt r (Dc C j fun i=>a*x i+b*y i)=a*dt r (Dc C j x)+b*dt r (Dc C j y)
 |0,_,_,h=>oV
 |r+1,C,j,h=>by
  rw[dt,dt,dt,<-Ll];refine Cr fun t m=>?_;by_cases e:t=j
  ·subst e;rw[Od,Od,Od,Ja,Ja,Ja];grind
  rw[Id C e,Id C e,Id C e];by_cases g:j<t
  ·rw[Nz C g,Nz C g,Nz C g,Mt a b x y (Eu t C) oV];grind
  have g:t<j:=oV;rw[Kz C g,Kz C g,Kz C g,Mt a b x y (Eu t C) oV];grind
def Akv (C:Nat->Nat->Int)(h:j<r):dt r (Dc C j fun _=>0)=0:=by
 have:=Mt 0 0 (fun _=>0) (fun _=>0) C h;simpa using this
theorem Ach:∀ {r:Nat} {C:Nat->Nat->Int} {a:Nat},a+1<r->C a=C (a+1)->dt r C=0
 |0,_,_,h,_=>oV
 |r+1,C,a,h,e=>by
  rw[dt,Ar3 (a:=a) h]
  ·have:Eu a C=Eu (a+1) C:=by
    funext t
    unfold Eu;by_cases h1:t=a
    ·grind
    ·grind
   rw[this,e,show r+(a+1)=(r+a)+1 by omega,dsg];grind
  ·intro t ht h1 h2;have:dt r (Eu t C)=0:=by
    by_cases hl:t<a
    ·refine Ach (a:=a-1) oV ?_;unfold Eu;rw[if_neg oV,if_neg oV,show a-1+1=a by omega];exact e
    ·refine Ach (a:=a) oV ?_;unfold Eu;rw[if_pos oV,if_pos oV];exact e
   rw[this];simp
def swp (C:Nat->Nat->Int)(a:Nat):Nat->Nat->Int:=Dc (Dc C a (C (a+1))) (a+1) (C a)
theorem Ti (C:Nat->Nat->Int)(h:a≠b)(x y:Nat->Int):Dc (Dc C a x) b y=Dc (Dc C b y) a x:=by
 funext t
 unfold Dc;by_cases e:t=a
 ·grind
 grind
def Ayl (C:Nat->Nat->Int)(h:a+1<r):dt r (swp C a) = - dt r C:=by
 have m:a<r:=oV
 let D:(Nat->Int)->(Nat->Int)->Int:=fun x y=>dt r (Dc (Dc C a x) (a+1) y)
 have l2:∀ x y z,D x (fun i=>1*y i+1*z i)=1*D x y+1*D x z:=fun x y z=>Mt 1 1 y z _ h;have t:∀ x y z,D (fun i=>1*y i+1*z i) x=1*D y x+1*D z x:=fun x y z=>by
  show dt r (Dc (Dc C a _) (a+1) x)=1*dt r (Dc (Dc C a y) (a+1) x)+1*dt r (Dc (Dc C a z) (a+1) x);rw[Ti C (show a≠a+1 by omega) (fun i=>1*y i+1*z i) x,Ti C (show a≠a+1 by omega) y x,Ti C (show a≠a+1 by omega) z x];exact Mt 1 1 y z _ m
 have e:∀ x,D x x=0:=fun x=>Ach h (by rw[Ja,Id _ oV,Ja]);have g:=e (fun i=>1*C a i+1*C (a+1) i);rw[t,l2,l2,e,e]at g;have u:D (C a) (C (a+1))=dt r C:=by
  show dt r (Dc (Dc C a (C a)) (a+1) (C (a+1)))=_;rw[O2,O2]
 have E:D (C (a+1)) (C a)=dt r (swp C a):=rfl;omega
def Ao4 {r:Nat}:∀ {d:Nat} {C:Nat->Nat->Int} {a:Nat},a+d+1<r->C a=C (a+d+1)->dt r C=0
 |0,_,_,h,e=>Ach h e
 |d+1,C,a,h,e=>by
  have:=Ayl C (a:=a+d+1) (r:=r) oV;rw[Ao4 (d:=d) (C:=swp C (a+d+1)) (a:=a) oV]at this
  ·omega
  unfold swp;rw[Id _ oV,Id _ oV,Id _ oV,Ja];exact e
def All {C:Nat->Nat->Int}(g:a<r)(m:b<r)(t:a≠b)(e:C a=C b):dt r C=0:=by
 by_cases h:a<b
 ·exact Ao4 (d:=b-a-1) (a:=a) oV (by rw[show a+(b-a-1)+1=b by omega];exact e)
 exact Ao4 (d:=a-b-1) (a:=b) oV (by rw[show b+(a-b-1)+1=a by omega];exact e.symm)
def Aiz {r:Nat}(C:Nat->Nat->Int){j:Nat}(h:j<r)(a:Nat->Int)(X:Nat->Nat->Int):∀ n:Nat,dt r (Dc C j fun i=>Ca n fun t=>a t*X t i)=Ca n fun t=>a t*dt r (Dc C j (X t))
 |0=>Akv C h
 |n+1=>by
  have:=Mt 1 (a n) (fun i=>Ca n fun t=>a t*X t i) (X n) C h;rw[Aiz C h a X n]at this;simp only[Ca];rw[Ba8]at this;rw[<-this]
  congr 2
  funext i
  rw[Ba8]
def Z3 (C:Nat->Nat->Int)(h:j<r)(a:Nat->Int):dt r (Dc C j fun i=>Ca r fun t=>a t*C t i)=a j*dt r C:=by
 rw[Aiz C h,X7 h,O2];intro t m g;rw[All (a:=j) (b:=t) h m (fun e=>g e.symm) (by rw[Ja,Id _ g]),Int.mul_zero]
theorem Au9 (C:Nat->Nat->Int)(e:Nat->Int)(h:∀ i,i<r->e i=0):dt (r+1) (Dc C r e)=e r*dt r C:=by
 rw[dt,X7 (j:=r) oV]
 ·rw[Akx,Ja,Ba8,Ih (C:=Eu r (Dc C r e)) (D:=C)];intro t g i hi;unfold Eu;rw[if_pos g,Id _ oV]
 intro t g m;rw[Kz C (by omega:t<r),Ih (D:=Dc (Eu t C) (r-1) fun _=>0)]
 ·rw[Akv _ oV];simp
 intro s u i hi;unfold Dc;split
 ·grind
 rfl
structure Bar (n:Nat)(R:Nat->Nat->Int)(P:Nat->Nat)(r:Nat)(v:Int)(S:Nat->Nat->Int):Prop where
 v0:v≠0
 d:dt r (fun j i=>R i (P j))=v
 lo:∀ i,i<r->∀ k,Ca r (fun j=>S j k*R i (P j))=v*R i k
 hi:∀ i,r<=i->i<n->∀ k,S i k=v*R i k-Ca r (fun j=>S j k*R i (P j))
def Bar.init (n:Nat)(R:Nat->Nat->Int)(P:Nat->Nat):Bar n R P 0 1 R:=⟨fV,rfl,fun i h=>oV,fun i _ _ k=>by simp[Ca]⟩
def Aq5 (a:Int)(f:Nat->Int)(n:Nat):Ca n (fun j=>a*f j)=a*Ca n f:=by
 have:=Ll (f:=f) (g:=f) a 0 (n:=n);simp only[Int.zero_mul,Int.add_zero]at this;exact this
def K4 {v a b:Int}(e:v≠0)(h:v*a=v*b):a=b:=A85 e h
theorem Bar.num (h:Bar n R P r v S)(m:r<n)(c:Nat)(i k:Nat)(hi:i<=r) :
 Ca r (fun j=>(S j k*S r c-S j c*S r k)*R i (P j))+v*S r k*R i c=v*(S r c*R i k):=by
 have e:Ca r (fun j=>(S j k*S r c-S j c*S r k)*R i (P j))=S r c*Ca r (fun j=>S j k*R i (P j))+(- S r k)*Ca r (fun j=>S j c*R i (P j)):=by
  rw[<-Ll];exact Cr fun j _=>by grind
 rw[e];by_cases g:i<r
 ·rw[h.lo i g,h.lo i g];grind
 obtain rfl:i=r:=oV;have t:=h.hi i (A08 _) m k;have u:=h.hi i (A08 _) m c;grind
def Kc (P:Nat->Nat)(r c:Nat):Nat->Nat:=fun j=>if j=r then c else P j
theorem Bar.det (h:Bar n R P r v S)(E:r<n)(c:Nat) :
 dt (r+1) (fun j i=>R i (Kc P r c j))=S r c:=by
 let C:Nat->Nat->Int:=fun j i=>R i (Kc P r c j)
 have g:C r=fun i=>R i c:=by funext i;simp[C,Kc]
 have e:∀ j,j<r->C j=fun i=>R i (P j):=fun j m=>by funext i;simp[C,Kc,show j≠r by omega]
 have z:dt (r+1) (Dc C r (fun i=>v*C r i+(-1)*Ca r (fun j=>S j c*C j i)))=v*dt (r+1) C:=by
  rw[Mt v (-1) (C r) _ C oV,O2,Aiz C oV];rw[Aai]
  ·grind
  intro t u;rw[All (a:=t) (b:=r) oV oV oV (by rw[Ja,Id _ oV]),Int.mul_zero]
 have es:∀ i,Ca r (fun j=>S j c*C j i)=Ca r (fun j=>S j c*R i (P j)):=fun i=>Cr fun j m=>by rw[e j m]
 rw[Au9 C _ (fun i hi=>by
  rw[es,h.lo i hi,g];grind)]at z
 have F:dt r C=v:=by
  rw[<-h.d];exact Ih fun t u i hi=>by rw[e t u]
 have H:v*C r r+(-1)*Ca r (fun j=>S j c*C j r)=S r c:=by
  rw[es,g];have:=h.hi r (A08 _) E c;grind
 refine K4 h.v0 ?_;grind
theorem Bar.dvd (h:Bar n R P r v S)(u:r<n)(H:S r c≠0)(j k:Nat)(J:j<r) :
 v ∣ S j k*S r c-S j c*S r k:=by
 let C:Nat->Nat->Int:=fun j i=>R i (Kc P r c j)
 have m:∀ i,C r i=R i c:=fun i=>by simp[C,Kc]
 have e:∀ j,j<r->∀ i,C j i=R i (P j):=fun j J i=>by simp[C,Kc,show j≠r by omega]
 have I:dt (r+1) C=S r c:=h.det u c;have E:=Z3 C (show j<r+1 by omega) (fun t=>if t=r then v*S r k else S t k*S r c-S t c*S r k);have F:dt (r+1) (Dc C j fun i=>Ca (r+1) fun t=>(if t=r then v*S r k else S t k*S r c-S t c*S r k)*C t i)=dt (r+1) (Dc C j fun i=>(v*S r c)*R i k+0*R i k):=by
  refine Ih fun t z i hi=>?_;unfold Dc;split
  ·simp only[Ca,if_true,m];have:=h.num u c i k oV;rw[Cr (g:=fun j=>(S j k*S r c-S j c*S r k)*R i (P j)) (fun t z=>by rw[if_neg oV,e t z])];grind
  rfl
 rw[F,Mt _ _ _ _ C oV,I,if_neg oV]at E;refine⟨dt (r+1) (Dc C j fun i=>R i k),K4 H ?_⟩;grind
def Af2 {v:Int}{f:Nat->Int}:∀ {n:Nat},(∀ j,j<n->v ∣ f j)->v ∣ Ca n f
 |0,_=>⟨0,by simp[Ca]⟩
 |n+1,h=>Int.dvd_add (Af2 fun j e=>h j oV) (h n oV)
theorem Bar.dvdAll (h:Bar n R P r v S)(m:r<n)(g:S r c≠0)(i k:Nat)(hi:i<n)(E:i≠r) :
 v ∣ S i k*S r c-S i c*S r k:=by
 by_cases u:i<r
 ·exact h.dvd m g i k u
 have z:=h.hi i oV hi k;have C:=h.hi i oV hi c;have e:Ca r (fun j=>(S j k*S r c-S j c*S r k)*R i (P j))=S r c*Ca r (fun j=>S j k*R i (P j))+(- S r k)*Ca r (fun j=>S j c*R i (P j)):=by
  rw[<-Ll];exact Cr fun j _=>by grind
 obtain⟨q,F⟩:v ∣ Ca r (fun j=>(S j k*S r c-S j c*S r k)*R i (P j)):=Af2 fun j t=>Int.dvd_mul_of_dvd_left (h.dvd m g j k t);exact⟨S r c*R i k-S r k*R i c-q,by grind⟩
theorem Bar.step {n:Nat}{R:Nat->Nat->Int}{P:Nat->Nat}{r:Nat}{v:Int}{S:Nat->Nat->Int}(h:Bar n R P r v S)(C:r<n){c:Nat}(I:S r c≠0){S':Nat->Nat->Int}
 (hp:∀ k,S' r k=S r k) (E:∀ i,i<n->i≠r->∀ k,v*S' i k=S i k*S r c-S i c*S r k):Bar n R (Kc P r c) (r+1) (S r c) S':=by
 have F:=h.v0;have H:∀ j,j<r->Kc P r c j=P j:=fun j u=>by simp[Kc,show j≠r by omega]
 have t:Kc P r c r=c:=by simp[Kc]
 have e:∀ i k,v*Ca r (fun j=>S' j k*R i (P j))=Ca r (fun j=>(S j k*S r c-S j c*S r k)*R i (P j)):=fun i k=>by
  rw[<-Aq5];exact Cr fun j u=>by rw[<-E j oV oV];grind
 have z:∀ i k,Ca (r+1) (fun j=>S' j k*R i (Kc P r c j))=Ca r (fun j=>S' j k*R i (P j))+S r k*R i c:=fun i k=>by
  rw[Ca,t,hp,Cr (g:=fun j=>S' j k*R i (P j)) fun j u=>by rw[H j u]]
 refine⟨I,h.det C c,fun i hi k=>?_,fun i K m k=>?_⟩
 ·refine K4 F ?_;rw[z,Ba2,e];have:=h.num C c i k oV;grind
 refine K4 F ?_;rw[z,E i m oV];have L:=e i k;have J:Ca r (fun j=>(S j k*S r c-S j c*S r k)*R i (P j))=S r c*Ca r (fun j=>S j k*R i (P j))+(- S r k)*Ca r (fun j=>S j c*R i (P j)):=by
  rw[<-Ll];exact Cr fun j _=>by grind
 have N:=h.hi i oV m k;have O:=h.hi i oV m c;grind
def rsw (F:Nat->Nat->Int)(p q:Nat):Nat->Nat->Int:=fun i=>if i=p then F q else if i=q then F p else F i
def Bar.swap (h:Bar n R P r v S){p:Nat}(H:r<=p)(I:p<n):Bar n (rsw R p r) P r v (rsw S p r):=by
 have u:∀ F:Nat->Nat->Int,∀ i,i<r->rsw F p r i=F i:=fun F i hi=>by simp[rsw,show i≠p by omega,show i≠r by omega]
 refine⟨h.v0,?_,fun i hi k=>?_,fun i hi J k=>?_⟩
 ·rw[<-h.d];exact Ih fun t _ i hi=>by rw[u R i hi]
 ·rw[u R i hi,<-h.lo i hi];exact Cr fun j C=>by rw[u S j C]
 have:∀ m,r<=m->m < n->rsw S p r i=S m->rsw R p r i=R m->rsw S p r i k=v*rsw R p r i k-Ca r (fun j=>rsw S p r j k*rsw R p r i (P j)):=fun m a b E g=>by
  rw[E,g,h.hi m a b]
  congr 1
  exact Cr fun j C=>by rw[u S j C]
 by_cases e:i=p
 ·exact this r (A08 _) oV (by simp[rsw,e]) (by simp[rsw,e])
 by_cases g:i=r
 ·exact this p H I (by simp[rsw,g];intro z;rw[z]) (by simp[rsw,g];intro z;rw[z])
 exact this i hi J (by simp[rsw,e,g]) (by simp[rsw,e,g])
end
section
variable {R:Nat->Nat->Int}{X:List (List Int)}{i j n p r w:Nat}{l:List Int}
def gZ (l:List Int)(j:Nat):Int:=l.getD j 0
def gMZ (X:List (List Int))(i:Nat):List Int:=X.getD i []
def enZ (X:List (List Int))(i j:Nat):Int:=gZ (gMZ X i) j
def E8 (n w:Nat)(X:List (List Int)):Prop:=X.length=n/\∀ i,i<n->(gMZ X i).length=w
def Ol (h:j<l.length):gZ l j=l[j]:=by unfold gZ;rw[A02,A01 h];rfl
def Ado (h:l.length<=j):gZ l j=0:=by unfold gZ;rw[A02,A1v h];rfl
def Xj (h:i<X.length):gMZ X i=X[i]:=by unfold gMZ;rw[A02,A01 h];rfl
theorem Kv {i k:Nat}{r:List Int}(h:i<X.length):gMZ (X.set i r) k=if i=k then r else gMZ X k:=by
 unfold gMZ;by_cases e:i=k
 ·grind
 grind
def Abr (f:Nat->Int)(h:j<n):gZ ((List.range n).map f) j=f j:=by
 rw[Ol (by simpa using h)];simp
def Iy (X:List (List Int))(c:Nat):Nat->Nat->Nat
 |0,p=>p
 |f+1,p=>if enZ X p c=0 then Iy X c f (p+1) else p
def Kw (X:List (List Int))(p r:Nat):List (List Int):=(X.set p (gMZ X r)).set r (gMZ X p)
def Qx (v a g:Int)(R row:List Int):List Int:=(List.range row.length).map fun k=>(gZ row k*a-g*gZ R k)/v
def Ov (r c:Nat)(v:Int):Nat->Nat->List (List Int)->List (List Int)
 |0,_,X=>X
 |f+1,i,X=>Ov r c v f (i+1) (if i=r then X else X.set i (Qx v (enZ X r c) (enZ X i c) (gMZ X r) (gMZ X i)))
structure BZ where
 X:List (List Int)
 P:List Nat
 v:Int
 odd:Bool
def I0 (n c:Nat)(s:BZ):BZ :=
 if Iy s.X c (n-s.P.length) s.P.length=n then s
 else ⟨Ov s.P.length c s.v n 0 (if Iy s.X c (n-s.P.length) s.P.length=s.P.length then s.X else Kw s.X (Iy s.X c (n-s.P.length) s.P.length) s.P.length),s.P++[c],
  enZ s.X (Iy s.X c (n-s.P.length) s.P.length) c,if Iy s.X c (n-s.P.length) s.P.length=s.P.length then s.odd else !s.odd⟩
def Fm (n:Nat):Nat->Nat->BZ->BZ
 |0,_,s=>s
 |f+1,c,s=>Fm n f (c+1) (I0 n c s)
def Ac3 (X:List (List Int))(c:Nat):∀ f p,p<=Iy X c f p/\Iy X c f p<=p+f
 |0,p=>by simp[Iy]
 |f+1,p=>by
  unfold Iy;split
  ·have:=Ac3 X c f (p+1);omega
  omega
def Abg (X:List (List Int))(c:Nat):∀ f p i,p<=i->i<Iy X c f p->enZ X i c=0
 |0,p,i,h1,h2=>by simp[Iy]at h2;omega
 |f+1,p,i,h1,h2=>by
  unfold Iy at h2;split at h2
  ·rename_i h;by_cases e:i=p
   ·subst e;exact h
   exact Abg X c f (p+1) i oV h2
  omega
def Ade (X:List (List Int))(c:Nat):∀ f p,Iy X c f p<p+f->enZ X (Iy X c f p) c≠0
 |0,p,h=>by simp[Iy]at h
 |f+1,p,h=>by
  unfold Iy at h⊢;split at h
  ·rename_i h0;rw[if_pos h0];exact Ade X c f (p+1) oV
  rename_i h0;rw[if_neg h0];exact h0
def Lt {r:List Int}(h:E8 n w X)(hi:i<n)(g:r.length=w):E8 n w (X.set i r):=by
 refine⟨by simp[h.1],fun j e=>?_⟩;rw[Kv (by rw[h.1];exact hi)];split
 ·exact g
 exact h.2 j e
def Uh (h:E8 n w X)(hp:p<n)(e:r<n):E8 n w (Kw X p r) :=
 Lt (Lt h hp (h.2 r e)) e (h.2 p hp)
theorem Wz (h:E8 n w X)(hp:p<n)(g:r<n)(i:Nat):gMZ (Kw X p r) i=if i=r then gMZ X p else if i=p then gMZ X r else gMZ X i:=by
 unfold Kw;rw[Kv (by simp[h.1];exact g),Kv (by rw[h.1];exact hp)];by_cases e:r=i
 ·grind
 grind
def S2 (v a g:Int)(R row:List Int):(Qx v a g R row).length=row.length:=by simp[Qx]
def Acv (v a g:Int)(R row:List Int)(h:R.length=row.length)(j:Nat):gZ (Qx v a g R row) j=(gZ row j*a-g*gZ R j)/v:=by
 by_cases e:j<row.length
 ·unfold Qx;exact Abr _ e
 rw[Ado (by rw[S2];omega),Ado (l:=row) oV,Ado (l:=R) oV];simp
def Wu {n w r c:Nat}{v:Int}(e:r<n):∀ f i X,i+f<=n->E8 n w X->E8 n w (Ov r c v f i X)
 |0,i,X,_,h=>h
 |f+1,i,X,hf,h=>by
  unfold Ov;refine Wu e f (i+1) _ oV ?_;split
  ·exact h
  exact Lt h oV (by rw[S2];exact h.2 i oV)
def Ry {n w r c:Nat}{v:Int}(u:r<n):∀ f i X,i+f<=n->E8 n w X->∀ k,gMZ (Ov r c v f i X) k=if i<=k/\k<i+f/\k≠r then Qx v (enZ X r c) (enZ X k c) (gMZ X r) (gMZ X k) else gMZ X k
 |0,i,X,_,h,k=>by rw[if_neg oV];rfl
 |f+1,i,X,hf,h,k=>by
  unfold Ov;by_cases e:i=r
  ·rw[if_pos e,Ry u f (i+1) X oV h k];by_cases g:i+1<=k/\k<i+1+f/\k≠r
   ·rw[if_pos g,if_pos ⟨oV,oV,g.2.2⟩]
   rw[if_neg g,if_neg oV]
  have z:E8 n w (X.set i (Qx v (enZ X r c) (enZ X i c) (gMZ X r) (gMZ X i))):=Lt h oV (by rw[S2];exact h.2 i oV);have t:i<X.length:=by rw[h.1];omega
  rw[if_neg e,Ry u f (i+1) _ oV z k];unfold enZ;rw[Kv t,Kv t,if_neg e];by_cases g:i=k
  ·subst g;rw[if_neg oV,if_pos rfl,if_pos ⟨oV,oV,e⟩]
  rw[if_neg g];by_cases m:i+1<=k/\k<i+1+f/\k≠r
  ·rw[if_pos m,if_pos ⟨oV,oV,m.2.2⟩]
  rw[if_neg m,if_neg oV]
def Ag4 (n:Nat)(A R:Nat->Nat->Int):Prop:=∀ i,i<n->∃ j,j<n/\A i=R j
def Ag4.swap {A R:Nat->Nat->Int}(h:Ag4 n A R)(hp:p<n)(u:r<n):Ag4 n A (rsw R p r):=fun i hi=>by
 obtain⟨j,t,e⟩:=h i hi;by_cases m:j=p
 ·subst m;refine⟨r,u,?_⟩;unfold rsw;by_cases g:r=j
  ·rw[if_pos g,e,g]
  rw[if_neg g,if_pos rfl,e]
 by_cases g:j=r
 ·subst g;exact⟨p,hp,by unfold rsw;rw[if_pos rfl,e]⟩
 exact⟨j,t,by unfold rsw;rw[if_neg m,if_neg g,e]⟩
structure Ajv (n w:Nat)(A:Nat->Nat->Int)(c:Nat)(s:BZ):Prop where
 rc:E8 n w s.X
 len:s.P.length=c
 bar:∃ R,Ag4 n A R/\Ag4 n R A/\Bar n R (fun j=>j) c s.v (enZ s.X)
def Ajp {P Q:Nat->Nat}{v:Int}{S:Nat->Nat->Int}(h:Bar n R P r v S)(e:∀ j,j<r->P j=Q j):Bar n R Q r v S:=by
 refine⟨h.v0,?_,fun i hi k=>?_,fun i m u k=>?_⟩
 ·rw[<-h.d];exact Ih fun t z i _=>by rw[e t z]
 ·rw[<-h.lo i hi];exact Cr fun j g=>by rw[e j g]
 rw[h.hi i m u];congr 1;exact Cr fun j g=>by rw[e j g]
def Ker (n:Nat)(A:Nat->Nat->Int):Prop:=∃ y:Nat->Int,(∃ j,j<n/\y j≠0)/\∀ i,i<n->Ca n (fun j=>y j*A i j)=0
theorem Ajv.step {n w:Nat}{A:Nat->Nat->Int}{c:Nat}{s:BZ}(h:Ajv n w A c s)(z:c<n):Ajv n w A (c+1) (I0 n c s)\/(Ker n A/\I0 n c s=s):=by
 obtain⟨F,E,R,C,t,u⟩:=h;unfold I0;obtain⟨V,Z⟩:=Ac3 s.X c (n-s.P.length) s.P.length;have p3:=Abg s.X c (n-s.P.length) s.P.length;have p4:=Ade s.X c (n-s.P.length) s.P.length;generalize Iy s.X c (n-s.P.length) s.P.length=p at *
 rw[E]at V Z p3 p4⊢;by_cases e:p=n
 ·rw[if_pos e];refine .inr ⟨?_,rfl⟩;refine⟨fun j=>if j<c then enZ s.X j c else if j=c then-s.v else 0,⟨c,z,by simp;exact u.v0⟩,fun i hi=>?_⟩;obtain⟨J,T,O⟩:=C i hi;rw[O];have key:∀ m,m<=n->Ca m (fun j=>(if j<c then enZ s.X j c else if j=c then-s.v else 0)*R J j)=Ca (min m c) (fun j=>enZ s.X j c*R J j)+if c<m then-s.v*R J c else 0:=by
   intro m;induction m with
   |zero=>intro _;simp[Ca]
   |succ m ih =>
    intro hm;rw[Ca,ih oV];by_cases Q:m<c
    ·rw[if_pos Q,if_neg oV,if_neg oV,show min m c=m by omega,show min (m+1) c=m+1 by omega,Ca];omega
    grind
  rw[key n (A08 _),show min n c=c by omega,if_pos z];by_cases Q:J < c
  ·rw[u.lo J Q];grind
  have:=u.hi J oV T c;grind
 rw[if_neg e];have hp:p<n:=oV;refine .inl ?_;have g:E8 n w (if p=c then s.X else Kw s.X p c):=by
  split
  ·grind
  exact Uh F hp z
 have I:∀ i,gMZ (if p=c then s.X else Kw s.X p c) i=if i=c then gMZ s.X p else if i=p then gMZ s.X c else gMZ s.X i:=fun i=>by
  by_cases O:p=c
  ·grind
  rw[if_neg O];exact Wz F hp z i
 have L:enZ (if p=c then s.X else Kw s.X p c)=rsw (enZ s.X) p c:=by
  funext i k
  unfold enZ rsw;by_cases e2:i=p
  ·grind
  grind
 have H:=u.swap V hp;rw[<-L]at H;have U:enZ (if p=c then s.X else Kw s.X p c) c c=enZ s.X p c:=by unfold enZ;rw[I,if_pos rfl]
 generalize (if p=c then s.X else Kw s.X p c)=X1 at *
 have K:enZ X1 c c≠0:=by grind
 refine⟨Wu z n 0 X1 oV g,by simp[E],_,C.swap hp z,fun i hi=>by
  unfold rsw;split
  ·exact t c z
  split
  ·exact t p hp
  exact t i hi,?_⟩
 rw[<-U];have W:=fun i k hi N=>H.dvdAll z K i k hi N;have Y:=H.step z K (S':=enZ (Ov c c s.v n 0 X1)) (fun k=>by unfold enZ;rw[Ry z n 0 X1 oV g,if_neg oV]) (fun i hi N k=>by
  show s.v*gZ (gMZ (Ov c c s.v n 0 X1) i) k=_;rw[Ry z n 0 X1 oV g,if_pos ⟨oV,oV,N⟩,Acv _ _ _ _ _ (by rw[g.2 c z,g.2 i hi])];exact Int.mul_ediv_cancel' (W i k hi N))
 exact Ajp Y fun j hj=>by unfold Kc;dsimp only;split<;>omega
def Avz {n c:Nat}{s:BZ}:(I0 n c s).P.length<=s.P.length+1:=by
 unfold I0;split
 ·omega
 simp
def Ako {n:Nat}:∀ (f c:Nat) (s:BZ),(Fm n f c s).P.length<=s.P.length+f
 |0,c,s=>by simp[Fm]
 |f+1,c,s=>by
  unfold Fm;have:=Ako (n:=n) f (c+1) (I0 n c s);have:=Avz (n:=n) (c:=c) (s:=s);omega
def Aci {n w:Nat}{A:Nat->Nat->Int}:∀ (f c:Nat) (s:BZ),c+f=n->Ajv n w A c s->Ajv n w A n (Fm n f c s)\/(Ker n A/\(Fm n f c s).P.length<n)
 |0,c,s,h,hf=>.inl (by
  have:c=n:=oV;subst this;exact hf)
 |f+1,c,s,h,hf=>by
  unfold Fm;rcases hf.step oV with e|⟨e,g⟩
  ·exact Aci f (c+1) _ oV e
  refine .inr ⟨e,?_⟩;rw[g];have:=Ako (n:=n) f (c+1) s;have:=hf.len;omega
theorem Za (h:E8 n w X):((Fm n n 0 ⟨X,[],1,false⟩).P.length=n/\E8 n w (Fm n n 0 ⟨X,[],1,false⟩).X/\(Fm n n 0 ⟨X,[],1,false⟩).v≠0 /\
 ∀ i,i<n->∀ k,Ca n (fun j=>enZ (Fm n n 0 ⟨X,[],1,false⟩).X j k*enZ X i j)=(Fm n n 0 ⟨X,[],1,false⟩).v*enZ X i k) \/
 (Ker n (enZ X)/\(Fm n n 0 ⟨X,[],1,false⟩).P.length<n):=by
 have h0:Ajv n w (enZ X) 0 ⟨X,[],1,false⟩:=⟨h,rfl,enZ X,fun i hi=>⟨i,hi,rfl⟩,fun i hi=>⟨i,hi,rfl⟩,Bar.init n _ _⟩;rcases Aci n 0 _ oV h0 with ⟨m,u,R,z,_,t⟩|m
 ·refine .inl ⟨u,m,t.v0,fun i hi k=>?_⟩;obtain⟨C,g,e⟩:=z i hi;rw[e];exact t.lo C g k
 grind
def zs (K:Nat):Nat->Nat
 |0=>K
 |r+1=>2*zs K r+2
end
end Go.Proofs.YtemmheaocgmebaaGreatDoor
