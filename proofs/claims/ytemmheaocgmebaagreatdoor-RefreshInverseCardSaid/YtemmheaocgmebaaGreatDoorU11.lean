/- Parts of one proof, joined by a program. -/
import Derived.Test.YtemmheaocgmebaaGreatDoorU10
set_option linter.defProp false
set_option linter.unusedVariables false
set_option linter.unusedSimpArgs false
set_option linter.unusedSectionVars false
set_option maxHeartbeats 16000000
namespace Go.Proofs.YtemmheaocgmebaaGreatDoor
open Go.Proofs.Tryz
open Go.RowKit Go.MapKept
def A5r:=@List.perm_append_comm
def Ba8:=@Int.one_mul
def A6c:=@List.map_eq_nil_iff
section
variable {k:Nat}{s:Src}{ts:List Int}{u:PH}{v:Value}
def Asx {L:List (List UInt8)}(h:J0 u s ts)(H:k<=s.n)(m:Ac u v 1 (L.map nmV))(C:0<L.length)(E:L.length<=1000000) :
 Ag prog 51 [s.ptr,v] u (s.M k) fun v _ J=>∃ t∈L,∃ g:Nat,v=.string (mkS t)/\g<=s.n/\J=s.M g:=by
 obtain⟨a,c,rfl⟩:=m.opn;rw[A03]at m⊢;refine Ag.o func51<|G.A call14 (I4 h H C E) ?_;rintro O N K I ⟨r,g,rfl,F,z,rfl⟩ _;rw[By];obtain⟨b,off,rfl,e⟩:=Ac.at' (m.mono I) (j:=r) (e:=.string (mkS L[r])) (by simp[nmV,A01 F]);exact G.a b off L.length c r 1 F<|G.lU none b (off+r*1) (.string (mkS L[r])) e<|G.r _ ⟨L[r],A09 F,g,rfl,z,rfl⟩
structure Fd (q:Rat):Prop where
 pos:0<q
 thirty:∃ p:Int,q*30=p/\p.natAbs<=90
 tx:Tx q
def Awd:∀ t∈[[49],[49,47,50],[51],[49,47,49,48],[55,47,51]],∃ q:Rat,t=Ae q/\Fd q:=by
 intro t e;simp only[A1g,A11,or_false]at e;rcases e with rfl|rfl|rfl|rfl|rfl
 ·exact⟨1,jV,jV,⟨30,jV,fV⟩,jV,jV⟩
 ·exact⟨1/2,jV,jV,⟨15,jV,fV⟩,jV,jV⟩
 ·exact⟨3,jV,jV,⟨90,jV,fV⟩,jV,jV⟩
 ·exact⟨1/10,jV,jV,⟨3,jV,fV⟩,jV,jV⟩
 exact⟨7/3,jV,jV,⟨70,jV,fV⟩,jV,jV⟩
def Afm (h:J0 u s ts)(z:k<=s.n) :
 Ag prog 12 [s.ptr] u (s.M k) fun v _ H=>∃ (q:Rat) (e:Nat),v=.string (mkS (Ae q))/\Fd q/\e<=s.n/\H=s.M e:=by
 refine Ag.o func12<|G.B 9 1 16 (.string (mkS [])) ([[49],[49,47,50],[51],[49,47,49,48],[55,47,51]].map nmV) (G6 _) ?_;intro g J F m;refine G.A call51 (Asx (L:=[[49],[49,47,50],[51],[49,47,49,48],[55,47,51]]) (h.mono F) z m.listP mV mV) ?_;rintro N K I l2 ⟨t,E,e,rfl,j,rfl⟩ _;rw[By];obtain⟨q,rfl,C⟩:=Awd t E;exact G.r (.string (mkS (Ae q))) ⟨q,e,rfl,C,j,rfl⟩
def Afs {v m:Value}{T:List (List UInt8×Nat)}{R:List Br}{F:List Al}{lab:Int}{C:CF}{K k:Nat}{P:List Par}{q:Rat}(h:Te u v m T R F lab C K k P)(j:Fd q) :
 Fn0 prog 59 [m,.string (mkS (Ae q))] u fun r _=>r=.int .i64 (if k=0 then 12 else 0):=by
 have e:=h.mom;obtain⟨a1,n1,c1,a2,n2,c2,rfl⟩:=id h.cof.opn;refine Fn0.o func59<|G.c call24 (Ee j.tx) ?_;rintro I z n rfl;refine G.c call25 (Agd j.tx) ?_;rintro J E l2 rfl;refine G.kF' (sgn q.num) 0 (by rw[Acy,Ait j.pos];omega)<|G.c call25 (Agd e.tx) ?_;rintro L H t rfl;by_cases h0:k=0
 ·have g:C.c=0:=by rw[e.c,h0];rfl
  exact G.kT' (sgn C.c.num) 0 (by rw[g];decide)<|G.r (.int .i64 12) ⟨rfl,by rw[if_pos h0]⟩
 exact G.kF' (sgn C.c.num) 0 (by rw[Acy,Ait (e.cpos h0)];omega)<|G.r (.int .i64 0) ⟨rfl,by rw[if_neg h0]⟩
end
def Rec (n w:Nat)(X:List (List Rat)):Prop:=X.length=n/\∀ i,i<n->(gM X i).length=w
def en (X:List (List Rat))(i j:Nat):Rat:=gR (gM X i) j
def I8 {n w i:Nat}{X:List (List Rat)}{r:List Rat}(h:Rec n w X)(hi:i<n)(g:r.length=w):Rec n w (X.set i r):=by
 refine⟨by simp[h.1],fun j e=>?_⟩;rw[Kb (by rw[h.1];exact hi)];split
 ·exact g
 exact h.2 j e
def And {u:PH}{v:Value}{A:List (List Rat)}(h:C7 u v (Cv A))(E:Sq A):Fn0 prog 61 [v] u fun v' _=>v'=.tuple #[.int .i64 A.length,.int .i64 A.length,.int .i64 0]:=by
 obtain⟨a,c,rfl⟩:=h.opn;rw[A3]at h⊢;have a0:=E.le;refine Fn0.o func61 ?_;by_cases h0:0<A.length
 ·refine G.gT A.length 0 ?_;obtain⟨m,n,a1,c1,rfl,t,z⟩:=h.row (Dw (A01 h0));rw[A03,E.len h0]at t z;refine G.a m n A.length c 0 1 h0<|G.lU none m (n+0*1) _ t ?_;clear t z;obtain⟨a,W⟩:∃ a:Option Addr,a=some ⟨m,n,none⟩:=⟨_,rfl⟩;rw[<-W]at h⊢;clear W;refine G.gF A.length 12<|G.l (ι:=Nat) (fun i=>[(0,sV a A.length c),(5,iV A.length),(21,iV A.length),(22,iV i)]) (fun _=>[])
   (fun i P C=>i<=A.length/\C=PH.mt) (fun i=>A.length-i) 0 ⟨oV,rfl⟩ ?_
  rintro X i F u1 m1 K ⟨hi,rfl⟩;by_cases g:i<A.length
  ·refine G.lT i A.length ?_;obtain⟨m,n,a1,c1,rfl,t,z⟩:=(h.mono K).row (Dw (A01 g));rw[A03,E.len g]at t z;exact G.a m n A.length c i 1 g<|G.lU none m (n+i*1) _ t<|G.gF A.length 12<|G.i i<|G.b (F (i+1) _ _ _ cV K ⟨oV,rfl⟩ oV)
  obtain rfl:i=A.length:=oV;clear g;refine G.lF A.length A.length ?_;clear F;refine G.l (ι:=Nat) (fun i=>[(0,sV a A.length c),(5,iV A.length),(33,iV A.length),(34,iV i)]) (fun _=>[])
   (fun i P C=>i<=A.length/\C=PH.mt) (fun i=>A.length-i) 0 ⟨oV,rfl⟩ ?_
  rintro Y i H u2 m2 l2 ⟨hi,rfl⟩;by_cases g:i<A.length
  ·refine G.lT i A.length ?_;obtain⟨m,n,a1,c1,rfl,t,z⟩:=(h.mono (K.trans l2)).row (Dw (A01 g));rw[A03,E.len g]at t z;exact G.a m n A.length c i 1 g<|G.lU none m (n+i*1) _ t<|G.nF A.length A.length<|G.i i<|G.b (H (i+1) _ _ _ cV l2 ⟨oV,rfl⟩ oV)
  obtain rfl:i=A.length:=oV;clear g;refine G.lF A.length A.length ?_;clear H;refine G.l (ι:=Nat) (fun i=>[(0,sV a A.length c),(5,iV A.length),(46,iV A.length),(47,iV i)]) (fun _=>[])
   (fun i P C=>i<=A.length/\C=PH.mt) (fun i=>A.length-i) 0 ⟨oV,rfl⟩ ?_
  rintro Z i N u3 m3 R ⟨hi,rfl⟩;by_cases g:i<A.length
  ·refine G.lT i A.length ?_;obtain⟨m,n,a1,c1,rfl,t,z⟩:=(h.mono ((K.trans l2).trans R)).row (Dw (A01 g));rw[A03,E.len g]at t z;refine G.a m n A.length c i 1 g<|G.lU none m (n+i*1) _ t<|G.l (ι:=Nat) (fun k=>[(0,sV (some ⟨m,n,none⟩) A.length c),(5,iV A.length),(46,iV A.length),(47,iV i),(8,iV i),(54,iV A.length),(55,iV k)]) (fun _=>[])
    (fun k P C=>k<=A.length/\C=PH.mt) (fun k=>A.length-k) 0 ⟨oV,rfl⟩ ?_
   rintro J4 k O u4 m4 L ⟨hk,rfl⟩;by_cases J:k<A.length
   ·refine G.lT k A.length ?_;have I:k<A[i].length:=by rw[E.len g];exact J
    obtain⟨Q,T,rfl,U⟩:=Ac.at' (Ac.mono z L) (j:=k) (e:=.string (mkS (Ae A[i][k]))) (by simp[Cc,A01 I]);refine G.a m n A.length c i 1 g<|G.lU none m (n+i*1) _ (t.mono L)<|G.a Q T A.length c1 k 1 J<|G.lU none Q (T+k*1) _ U<|G.c call24 (Ee (E.tx' g I)) ?_;rintro v5 u5 V rfl;exact G.i k<|G.b (O (k+1) _ _ _ cV (L.trans V) ⟨oV,rfl⟩ oV)
   exact G.lF k A.length<|G.i i<|G.b (N (i+1) _ _ _ cV (R.trans L) ⟨oV,rfl⟩ oV)
  exact G.lF i A.length<|G.r (.tuple #[.int .i64 A.length,.int .i64 A.length,.int .i64 0]) ⟨rfl,rfl⟩
 refine G.gF A.length 0 ?_;have hz:(A.length:Int)=0:=oV;refine G.gF A.length 12<|G.l (ι:=Nat) (fun i=>[(0,sV a A.length c),(5,iV 0),(21,iV A.length),(22,iV i)]) (fun _=>[])
  (fun i P C=>i<=A.length/\C=PH.mt) (fun i=>A.length-i) 0 ⟨oV,rfl⟩ ?_
 rintro X i F u1 m1 K ⟨hi,rfl⟩;by_cases g:i<A.length
 ·refine G.lT i A.length ?_;obtain⟨m,n,a1,c1,rfl,t,z⟩:=(h.mono K).row (Dw (A01 g));rw[A03,E.len g]at t z;exact G.a m n A.length c i 1 g<|G.lU none m (n+i*1) _ t<|G.gF A.length 12<|G.i i<|G.b (F (i+1) _ _ _ cV K ⟨oV,rfl⟩ oV)
 obtain rfl:i=A.length:=oV;clear g;refine G.lF A.length A.length ?_;clear F;refine G.l (ι:=Nat) (fun i=>[(0,sV a A.length c),(5,iV 0),(33,iV A.length),(34,iV i)]) (fun _=>[])
  (fun i P C=>i<=A.length/\C=PH.mt) (fun i=>A.length-i) 0 ⟨oV,rfl⟩ ?_
 rintro Y i H u2 m2 l2 ⟨hi,rfl⟩;by_cases g:i<A.length
 ·refine G.lT i A.length ?_;obtain⟨m,n,a1,c1,rfl,t,z⟩:=(h.mono (K.trans l2)).row (Dw (A01 g));rw[A03,E.len g]at t z;exact G.a m n A.length c i 1 g<|G.lU none m (n+i*1) _ t<|G.nF A.length 0<|G.i i<|G.b (H (i+1) _ _ _ cV l2 ⟨oV,rfl⟩ oV)
 obtain rfl:i=A.length:=oV;clear g;refine G.lF A.length A.length ?_;clear H;refine G.l (ι:=Nat) (fun i=>[(0,sV a A.length c),(5,iV 0),(46,iV A.length),(47,iV i)]) (fun _=>[])
  (fun i P C=>i<=A.length/\C=PH.mt) (fun i=>A.length-i) 0 ⟨oV,rfl⟩ ?_
 rintro Z i N u3 m3 R ⟨hi,rfl⟩;by_cases g:i<A.length
 ·refine G.lT i A.length ?_;obtain⟨m,n,a1,c1,rfl,t,z⟩:=(h.mono ((K.trans l2).trans R)).row (Dw (A01 g));rw[A03,E.len g]at t z;refine G.a m n A.length c i 1 g<|G.lU none m (n+i*1) _ t<|G.l (ι:=Nat) (fun k=>[(0,sV (some ⟨m,n,none⟩) A.length c),(5,iV 0),(46,iV A.length),(47,iV i),(8,iV i),(54,iV A.length),(55,iV k)]) (fun _=>[])
   (fun k P C=>k<=A.length/\C=PH.mt) (fun k=>A.length-k) 0 ⟨oV,rfl⟩ ?_
  rintro J4 k O u4 m4 L ⟨hk,rfl⟩;by_cases J:k<A.length
  ·refine G.lT k A.length ?_;have I:k<A[i].length:=by rw[E.len g];exact J
   obtain⟨Q,T,rfl,U⟩:=Ac.at' (Ac.mono z L) (j:=k) (e:=.string (mkS (Ae A[i][k]))) (by simp[Cc,A01 I]);refine G.a m n A.length c i 1 g<|G.lU none m (n+i*1) _ (t.mono L)<|G.a Q T A.length c1 k 1 J<|G.lU none Q (T+k*1) _ U<|G.c call24 (Ee (E.tx' g I)) ?_;rintro v5 u5 V rfl;exact G.i k<|G.b (O (k+1) _ _ _ cV (L.trans V) ⟨oV,rfl⟩ oV)
  exact G.lF k A.length<|G.i i<|G.b (N (i+1) _ _ _ cV (R.trans L) ⟨oV,rfl⟩ oV)
 exact G.lF i A.length<|G.r (.tuple #[.int .i64 A.length,.int .i64 0,.int .i64 0]) ⟨rfl,by rw[hz]⟩
def nl1 {n:Nat}(h:n<1000000000):nl n<=1:=A4 (by simpa using h)
structure Q4 where
 b:Bool
 a:Option Addr
 n:Nat
 c:Nat
 a':Option Addr
 n':Nat
 c':Nat
def qv (f:Q4):Value:=.agg #[.bool f.b,.slice f.a f.n f.c,.bool false,.slice f.a' f.n' f.c']
def QP.opQ {u:PH}{v:Value}{q:Rat}(h:QP u v q):∃ f,v=qv f:=by
 obtain⟨b,a,n,c,e,j,g,rfl,_⟩:=h.opn;exact⟨⟨b,a,n,c,e,j,g⟩,rfl⟩
section
variable {m m0 u:PH}{r:Value×List Value}{rows:List (Value×List Value)}{v:Value}
def zQ:Value:=.agg #[.bool false,.slice none 0 0,.bool false,.slice none 0 0]
def Akh (f:Q4):A9 4 [qv f]:=by
 intro x e;simp at e;subst e;exact⟨rfl,fun y g=>by simp[qv,Value.cells]at g;rcases g with rfl|rfl|rfl|rfl<;>rfl⟩
def Ej (r:Value×List Value):Arr:=⟨r.1,69,4,r.2⟩
def oQ (v:Value)(rows:List (Value×List Value)):Arr:=⟨v,131,1,rows.map (·.1)⟩
def Rg :(Ej r).At m0 m=Af m0 m r.1 69 4 r.2:=rfl
def Al7 :(oQ v rows).At m0 m=Af m0 m v 131 1 (rows.map (·.1)):=rfl
def QAt (u:PH)(rows:List (Value×List Value))(M:List (List Rat)):Prop:=rows.length=M.length/\∀ (i:Nat) (r:Value×List Value),rows[i]?=some r->AtP QP u r.2 (gM M i)
def QAt.mono {u e:PH}{rows:List (Value×List Value)}{M:List (List Rat)}(h:QAt u rows M)(g:PH.le u e):QAt e rows M:=⟨h.1,fun i r j=>(h.2 i r j).mono (fun _ _ k=>k.mono g)⟩
def QAt.snoc {M:List (List Rat)}{q:List Rat}(h:QAt u rows M)(g:AtP QP u r.2 q):QAt u (rows++[r]) (M++[q]):=by
 refine⟨by simp[h.1],fun i r' hi=>?_⟩;rw[Avd];by_cases e:i<rows.length
 ·rw[A1r e]at hi;rw[if_pos (by rw[<-h.1];exact e)];exact h.2 i r' hi
 rw[A18 oV]at hi;have j:i-rows.length=0:=by
  rcases A2a (i-rows.length) with h0|h0
  ·exact h0
  rw[A1v gV]at hi;cases hi
 rw[j]at hi;simp at hi;subst hi;rw[if_neg (by rw[<-h.1];exact e),if_pos (by rw[<-h.1];omega)];exact g
def M2 {α:Type}{l:List α}{k:Nat}(h:k<l.length):l.take (k+1)=l.take k++[l[k]]:=by
 rw[A1n,A01 h];rfl
def Ane {A:List (List Rat)}(h:C7 u v (Cv A))(hs:Sq A) :
 Ag prog 62 [v] u PH.mt fun v' W V=>∃ a c rows,v'=.slice a A.length c/\QAt W rows A/\Bag V (oQ (.slice a A.length c) rows::rows.map Ej):=by
 obtain⟨a0,c0,rfl⟩:=h.opn;rw[A3]at h⊢;have a5:=hs.le;refine Ag.o func62<|G.l (ι:=Nat×(Option Addr×Nat)×List (Value×List Value)) (fun i=>[(0,sV a0 A.length c0),(3,sV i.2.1.1 i.1 i.2.1.2),(9,iV A.length),(10,iV i.1)]) (fun _=>[])
  (fun i W V=>i.1<=A.length/\QAt W i.2.2 (A.take i.1)/\Bag V (oQ (.slice i.2.1.1 i.1 i.2.1.2) i.2.2::i.2.2.map Ej))
  (fun i=>A.length-i.1) (0,(none,0),[]) ⟨A1t _,⟨rfl,fun j r hj=>by simp at hj⟩,PH.mt,Af.nil _ _ _,trivial⟩ ?_
 rintro J ⟨i,⟨a,c⟩,rows⟩ hJ u1 m1 l1 ⟨hi,T,z⟩;simp only at hi T z hJ;have a4:rows.length=i:=by rw[T.1,A1e];omega
 by_cases C:i<A.length
 ·refine G.lT i A.length ?_;obtain⟨Z,o1,a1,c1,rfl,e1,e2⟩:=(h.mono l1).row (Dw (A01 C));have N:=hs.len C;rw[A03,N]at e1 e2;refine G.a Z o1 A.length c0 i 1 C<|G.lU none Z (o1+i*1) _ e1<|G.l (ι:=Nat×(Option Addr×Nat)×List Value) (fun j=>[(0,sV (some ⟨Z,o1,none⟩) A.length c0),(3,sV a i c),(9,iV A.length),(10,iV i),(5,sV j.2.1.1 j.1 j.2.1.2),(16,sV a1 A.length c1),(17,iV A.length),(18,iV j.1)]) (fun _=>[])
   (fun j W V=>j.1<=A.length/\AtP QP W j.2.2 (A[i].take j.1)/\Bag V (Ej (.slice j.2.1.1 j.1 j.2.1.2,j.2.2)::oQ (.slice a i c) rows::rows.map Ej))
   (fun j=>A.length-j.1) (0,(none,0),[]) ⟨A1t _,AtP.nil,m1,Af.nil _ _ _,z⟩ ?_
  rintro J2 ⟨j,⟨F,H⟩,es⟩ R u2 m2 l2 ⟨hj,t,n⟩;simp only at hj t n R;have a3:es.length=j:=by rw[t.1,A1e];omega
  by_cases I:j<A.length
  ·refine G.lT j A.length ?_;have O:j<A[i].length:=by rw[N];exact I
   obtain⟨b2,o2,rfl,e3⟩:=Ac.at' (Ac.mono e2 l2) (j:=j) (e:=.string (mkS (Ae A[i][j]))) (by simp[Cc,A01 O]);refine G.a b2 o2 A.length c1 j 1 I<|G.lU none b2 (o2+j*1) _ e3<|G.c call27 (G8 (hs.tx' C O)) ?_;intro v4 u4 l4 k4;obtain⟨Q,rfl⟩:=k4.opQ;refine G.B 69 4 64 zQ [qv Q] (Akh Q) ?_;intro g5 u5 P e5;obtain⟨mm,E,a2⟩:=n;rw[Rg]at E;refine G.append 69 4 64 zQ mm es [qv Q] (.slice F j H) g5 0 1 1 kV rfl rfl oV E e5 (Akh Q) rfl oV oV oV ?_;intro v6 m6 g;obtain⟨X,Y,rfl⟩:=g.shape;have el:(es++[qv Q]).length=j+1:=by simp[a3]
   rw[el]at g⊢;refine G.i j<|G.b (R (j+1,(X,Y),es++[qv Q]) _ _ _ cV ((l2.trans l4).trans P) ⟨dV,?_,mm,g,a2⟩ dV);dsimp only;rw[M2 O];exact (t.mono (fun _ _ k=>k.mono (l4.trans P))).snoc (k4.mono P)
  obtain rfl:j=A.length:=oV;refine G.lF A.length A.length ?_;have hA:A[i].take A.length=A[i]:=by rw[<-N];exact A15
  rw[hA]at t;refine G.B 131 1 24 (.slice none 0 0) [.slice F A.length H] (B5 _ _ _) ?_;intro g5 u5 P e5;obtain⟨m0,E,U⟩:=n.focus 1 rfl;rw[Al7]at E;refine G.k 131 1 24 (.slice none 0 0) m0 (rows.map (·.1)) [.slice F A.length H] (.slice a i c) g5 0 1 1 E e5 (B5 _ _ _) ?_;intro v6 m6 g;have em:rows.map (·.1)++[Value.slice F A.length H]=(rows++[(Value.slice F A.length H,es)]).map (·.1):=mV;rw[em]at g;obtain⟨X,Y,rfl⟩:=g.shape;have el:((rows++[(Value.slice F A.length H,es)]).map (·.1)).length=i+1:=by simp[a4]
  rw[el]at g⊢;have K:=U (oQ (.slice X (i+1) Y) (rows++[(Value.slice F A.length H,es)])) m6 g;have L:=Bag.perm Aff K;refine G.i i<|G.b (hJ (i+1,(X,Y),rows++[(Value.slice F A.length H,es)]) _ _ _ cV ((l1.trans l2).trans P) ⟨dV,?_,by simpa using L⟩ dV);dsimp only;rw[M2 C];exact (T.mono (l2.trans P)).snoc (t.mono (fun _ _ k=>k.mono P))
 obtain rfl:i=A.length:=oV;refine G.lF A.length A.length ?_;rw[A15]at T;exact G.r (.slice a A.length c) ⟨a,c,rows,rfl,T,z⟩
end
def Np (v:Value)(P:List Nat):Arr:=⟨v,3,1,Ai P⟩
def Aka {v:Value}{P:List Nat}{m0 m:PH}:(Np v P).At m0 m=Af m0 m v 3 1 (Ai P):=rfl
def Ny {α:Type}{l:List α}{i:Nat}{x:α}(h:l[i]?=some x):l.set i x=l:=by
 obtain⟨e,g⟩:=A05.1 h;rw[<-g];exact A9w e
section
variable {es:List Value}{u:PH}
def N4.snoc1 {m:List (List (List UInt8))}{a:Option Addr}{c:Nat}{r:List (List UInt8)}(h:N4 u es m)(F:Cj u (.slice a r.length c) r):N4 u (es++[.slice a r.length c]) (m++[r]):=by
 refine⟨by simp[h.1],fun j r' e=>?_⟩;by_cases g:j<m.length
 ·rw[A1r g]at e;obtain⟨t,z,C,E⟩:=h.2 j r' e;exact⟨t,z,by rw[A1r (by rw[h.1];exact g)];exact C,E⟩
 rw[A18 oV]at e;have n:j-m.length=0:=by
  rcases A2a (j-m.length) with h0|h0
  ·exact h0
  rw[A1v gV]at e;cases e
 rw[n]at e;simp at e;subst e;exact⟨a,c,by rw[A18 (by rw[h.1];omega),h.1,n];rfl,F⟩
def Apw {v:Value}{m:List Rat}(h:Ac u v 4 es)(L:AtP QP u es m)(hT:∀ q∈m,Tx q)(Y:m.length<=1000):Fn0 prog 83 [v] u fun r O=>∃ N,r=.tuple #[N,.int .i64 0]/\Cj O N (m.map Ae):=by
 obtain⟨a,c,rfl⟩:=Ac.opn h;have F:=L.1;rw[F]at h⊢;refine Fn0.o func83<|G.l (ι:=Nat×(Option Addr×Nat)) (fun i=>[(4,sV i.2.1 i.1 i.2.2),(9,sV a m.length c),(10,iV m.length),(11,iV i.1)]) (fun _=>[])
  (fun i O X=>i.1<=m.length/\Af PH.mt X (.slice i.2.1 i.1 i.2.2) 34 1 (Cc ((m.take i.1).map Ae))) (fun i=>m.length-i.1) (0,none,0) ⟨oV,Af.nil _ _ _⟩ ?_
 rintro J ⟨i,pa,pc⟩ K u1 m1 I ⟨hi,E⟩;simp only at hi E K;by_cases z:i<m.length
 ·refine G.lT i m.length ?_;obtain⟨q,t⟩:∃ q,m[i]?=some q:=⟨_,A01 z⟩;have H:m.take (i+1)=m.take i++[q]:=by rw[A1n,t];rfl
  obtain⟨x,V,C⟩:=L.2 i q t;obtain⟨f,rfl⟩:=C.opQ;obtain⟨b,o,rfl,e⟩:=Ac.at' (Ac.mono h I) (j:=i) (e:=qv f) V;refine G.a b o m.length c i 4 z<|G.lU (some 4) b (o+i*4) (qv f) e<|G.c call84 (Ox (C.mono I) (hT q (A1k t))) ?_;rintro v2 u2 l2 rfl;refine G.nF 0 0<|G.B 34 1 16 (.string (mkS [])) [.string (mkS (Ae q))] (Gc [Ae q]) ?_;intro U u3 W R;refine G.append 34 1 16 (.string (mkS [])) PH.mt (Cc ((m.take i).map Ae)) [.string (mkS (Ae q))] (.slice pa i pc) U 0 1 1 kV rfl rfl oV E R (Gc [Ae q]) rfl oV (by simp[Cc];omega) (by simp[Cc];omega) ?_;intro v4 m4 n;have T:Cc ((m.take i).map Ae)++[.string (mkS (Ae q))]=Cc ((m.take (i+1)).map Ae):=by rw[H];simp[Cc]
  rw[T]at n;obtain⟨P,Q,rfl⟩:=n.shape;have el:(Cc ((m.take (i+1)).map Ae)).length=i+1:=by simp[Cc];omega
  rw[el]at n⊢;exact G.i i<|G.b (K (i+1,P,Q) _ _ _ cV ((I.trans l2).trans W) ⟨dV,n⟩ dV)
 obtain rfl:i=m.length:=oV;refine G.lF m.length m.length ?_;rw[A15]at E;refine G.give _ _ _ kV E (fun g=>.inl rfl) ?_;intro u6 Z hF;exact G.r (.tuple #[.slice pa m.length pc,.int .i64 0]) ⟨rfl,_,rfl,hF⟩
end
section
variable {P:List Par}{m m0:PH}{v:Value}
def Bu (r:Value×List Value):Arr:=⟨r.1,34,1,r.2⟩
def oT (v:Value)(rows:List (Value×List Value)):Arr:=⟨v,46,1,rows.map (·.1)⟩
def D6 {r:Value×List Value}:(Bu r).At m0 m=Af m0 m r.1 34 1 r.2:=rfl
def Aaa {e:List (Value×List Value)}:(oT v e).At m0 m=Af m0 m v 46 1 (e.map (·.1)):=rfl
def txV (l:List Rat):List Value:=l.map fun q=>.string (mkS (Ae q))
def Cw (l:List Rat):(txV l).length=l.length:=by simp[txV]
def Md (l:List Rat)(q:Rat):txV l++[.string (mkS (Ae q))]=txV (l++[q]):=by simp[txV]
def E7 (q:Rat):A9 1 [.string (mkS (Ae q))]:=Gc [Ae q]
def J7 (l:List Rat):txV l=Cc (l.map Ae):=by simp[txV,Cc]
def Lh (C:CF)(P:List Par):List (List Rat):=(An P).map fun e=>(An P).map (As C e)
def Ex {i:Nat}:(An P).take (i+1)=none::(P.take i).map some:=by unfold An;rw[List.take_succ_cons,A5g]
def Afv {u:PH}{v cv:Value}{T:List (List UInt8×Nat)}{R:List Br}{F:List Al}{lab:Int}{C:CF}{K k:Nat}(h:Te u v cv T R F lab C K k P) :
 Ag prog 58 [v,cv] u PH.mt fun r u' m'=>∃ (pa:Option Addr) (pc:Nat) (xa:Option Addr) (xc:Nat) (ra:Option Addr) (rc:Nat) (g:List (Value×List Value)),
  r=.tuple #[.agg #[.slice pa P.length pc,.slice xa (P.length+1) xc,.slice ra (P.length+1) rc],.int .i64 0]/\Ac u' (.slice pa P.length pc) 2 (P.map Ap)/\g.map (·.2)=(Lh C P).map txV /\
  Bag m' (Bu (.slice ra (P.length+1) rc,txV ((An P).map (Bh C)))::oT (.slice xa (P.length+1) xc) g::g.map Bu):=by
 have ay:=Aif h.sch h.ok h.cof h.sC h.vC h.K h.bel;have bt:=h.p24;have hK:=h.K;have bu:=h.lab0;have hS:=fun (u':PH) (l:PH.le u u') (p:Par)=>At9 p (h.cof.mono l) oV;have hQ:=fun (u':PH) (l:PH.le u u') (p q:Par)=>U2 p q (h.cof.mono l) oV;have ad:=Cp P;obtain⟨xa,xc,xb,xd,xe,xf,rfl,_⟩:=id h.sch;obtain⟨a1,n1,c1,a2,n2,c2,rfl⟩:=id h.cof.opn;refine Ag.o func58<|G.c call37 ay ?_;intro v1 u1 l1 hp;obtain⟨ps,L,rfl,hL,_,af⟩:=hp.resolve_left fun⟨_,L,bb,af⟩=>by rw[af.eq h.prm]at bb;omega
 rw[af.eq h.prm]at hL;obtain⟨pa,pc,rfl⟩:=hL.opn;rw[A03]at hL⊢;refine G.nF 0 0<|G.lF lab 0<|G.c call137 (hS u1 l1 B7) ?_;rintro v2 u2 l2 rfl;refine G.buildM 34 1 16 (.string (mkS [])) [.string (mkS (Ae (C.s B7)))] kV (E7 _) rfl oV mV mV ?_;intro g3 m3 bc;refine G.buildM 34 1 16 (.string (mkS [])) [.string (mkS (Ae C.c))] kV (E7 _) rfl oV mV mV ?_;intro g4 m4 bd;refine G.l (ι:=Nat×(Option Addr×Nat)×(Option Addr×Nat)) (fun i=>[(3,.p 1 0),(4,.p 2 0),(6,sV pa P.length pc),(8,.p 6001 0),(9,.p 7006 0),(10,sV i.2.1.1 (i.1+1) i.2.1.2),(42,sV pa P.length pc),(43,iV P.length),(44,iV i.1)])
  (fun i=>[(1,⟨38,[tV (Ae C.c),sV a1 n1 c1,sV a2 n2 c2]⟩),(2,⟨57,[sV none 0 0,sV none 0 0,sV none 0 0]⟩),(6001,⟨118,[iV (-1),tV []]⟩),
   (7006,⟨57,[.v (.slice pa P.length pc),.v (.slice none 0 0),.v (.slice i.2.2.1 (i.1+1) i.2.2.2)]⟩)])
  (fun i u' m'=>i.1<=P.length/\Bag m' [Bu (.slice i.2.1.1 (i.1+1) i.2.1.2,txV (((An P).take (i.1+1)).map (As C none))),Bu (.slice i.2.2.1 (i.1+1) i.2.2.2,txV (((An P).take (i.1+1)).map (Bh C)))]) (fun i=>P.length-i.1) (0,(some ⟨g4,0,none⟩,1),(some ⟨g3,0,none⟩,1))
  ⟨oV,m3,bd,PH.mt,bc,trivial⟩ ?_
 rintro J ⟨i,⟨fa,fc⟩,⟨ra,rc⟩⟩ hJ u5 m5 l5 ⟨hi,n⟩;simp only at hi n hJ;have aa:=(l1.trans l2).trans l5;by_cases W:i<P.length
 ·refine G.lT i P.length ?_;obtain⟨p,X⟩:∃ p,P[i]?=some p:=⟨_,A01 W⟩;have a6:(An P).take (i+1+1)=(An P).take (i+1)++[some p]:=by rw[Ex,Ex,A1n,X];simp
  obtain⟨Q,Y,rfl,ep⟩:=Ac.at' (hL.mono (l2.trans l5)) (j:=i) (e:=Ap p) (by simp[X]);refine G.a Q Y P.length pc i 2 W<|G.lU (some 2) Q (Y+i*2) (.agg #[.int .i64 p.1,.string (mkS p.2)]) ep<|G.c call137 (hS u5 aa p) ?_;rintro v6 u6 l6 rfl;refine G.B 34 1 16 (.string (mkS [])) [.string (mkS (Ae (C.s p)))] (E7 _) ?_;intro g7 u7 l7 e7;obtain⟨m0,H,E⟩:=n.focus 0 rfl;rw[D6]at H;have V:(txV (((An P).take (i+1)).map (As C none))).length=i+1:=by rw[Cw,A03,A1e];omega
  refine G.append 34 1 16 (.string (mkS [])) m0 (txV (((An P).take (i+1)).map (As C none))) [.string (mkS (Ae (C.s p)))] (.slice fa (i+1) fc) g7 0 1 1 kV rfl rfl oV H e7 (E7 _) rfl oV (by rw[V];omega) (by rw[V];omega) ?_;intro v8 m8 a3;have e8:txV (((An P).take (i+1)).map (As C none))++[.string (mkS (Ae (C.s p)))]=txV (((An P).take (i+1+1)).map (As C none)):=by rw[a6,A1i,Md];rfl
  rw[e8]at a3;have ah:(txV (((An P).take (i+1+1)).map (As C none))).length=i+1+1:=by rw[Cw,A03,A1e];omega
  obtain⟨a8,c8,rfl⟩:=a3.shape;rw[ah]at a3⊢;have ag:=E (Bu (.slice a8 (i+1+1) c8,txV (((An P).take (i+1+1)).map (As C none)))) m8 a3;have bl:=(aa.trans l6).trans l7;refine G.c call66 (hQ u7 bl B7 p) ?_;rintro v9 u9 l9 rfl;refine G.B 34 1 16 (.string (mkS [])) [.string (mkS (Ae (C.t (Ay B7 p))))] (E7 _) ?_;intro ab bx bi b4;obtain⟨bm,b0,ai⟩:=ag.focus 1 rfl;rw[D6]at b0;have ax:(txV (((An P).take (i+1)).map (Bh C))).length=i+1:=by rw[Cw,A03,A1e];omega
  refine G.append 34 1 16 (.string (mkS [])) bm (txV (((An P).take (i+1)).map (Bh C))) [.string (mkS (Ae (C.t (Ay B7 p))))] (.slice ra (i+1) rc) ab 0 1 1 kV rfl rfl oV b0 b4 (E7 _) rfl oV (by rw[ax];omega) (by rw[ax];omega) ?_;intro c0 b3 I;have b5:txV (((An P).take (i+1)).map (Bh C))++[.string (mkS (Ae (C.t (Ay B7 p))))]=txV (((An P).take (i+1+1)).map (Bh C)):=by rw[a6,A1i,Md];rfl
  rw[b5]at I;have be:(txV (((An P).take (i+1+1)).map (Bh C))).length=i+1+1:=by rw[Cw,A03,A1e];omega
  obtain⟨ak,an,rfl⟩:=I.shape;rw[be]at I⊢;have a4:=ai (Bu (.slice ak (i+1+1) an,txV (((An P).take (i+1+1)).map (Bh C)))) b3 I;exact G.i i<|G.b (hJ (i+1,(a8,c8),(ak,an)) _ _ _ cV ((((l5.trans l6).trans l7).trans l9).trans bi) ⟨dV,a4⟩ dV)
 obtain rfl:i=P.length:=oV;refine G.lF P.length P.length ?_;clear hJ;rw[show (An P).take (P.length+1)=An P by rw[A1j oV]]at n;have aa:=(l1.trans l2).trans l5;have bv:(txV ((An P).map (As C none))).length=P.length+1:=by rw[Cw,A03,ad]
 refine G.B 46 1 24 (.slice none 0 0) [.slice fa (P.length+1) fc] (B5 _ _ _) ?_;intro g6 u6 l6 e6;refine G.append 46 1 24 (.slice none 0 0) m5 [] [.slice fa (P.length+1) fc] (.slice none 0 0) g6 0 1 1 kV rfl rfl oV (Af.nil _ _ _) e6 (B5 _ _ _) rfl oV mV mV ?_;intro v7 m7 ac;obtain⟨a7,c7,rfl⟩:=ac.shape;have av:Bag m7 (Bu (.slice ra (P.length+1) rc,txV ((An P).map (Bh C)))::oT (.slice a7 1 c7) [(.slice fa (P.length+1) fc,txV ((An P).map (As C none)))]::[(Value.slice fa (P.length+1) fc,txV ((An P).map (As C none)))].map Bu) :=
  Bag.perm (A5r (l₁:=[oT (.slice a7 1 c7) [(.slice fa (P.length+1) fc,txV ((An P).map (As C none)))],Bu (.slice fa (P.length+1) fc,txV ((An P).map (As C none)))]) (l₂:=[Bu (.slice ra (P.length+1) rc,txV ((An P).map (Bh C)))])) ⟨m5,ac,n⟩
 have bk:=aa.trans l6;have ae:=hL.mono ((l2.trans l5).trans l6);have bf:∀ i,i<=P.length->((Lh C P).take (i+1)).length=i+1:=fun i hi=>by rw[A1e];unfold Lh;rw[A03,ad];omega
 refine G.l (ι:=Nat×(Option Addr×Nat)×List (Value×List Value)) (fun i=>[(3,.p 1 0),(4,.p 2 0),(6,sV pa P.length pc),(9,.p 7006 0),(70,sV pa P.length pc),(71,iV P.length),(72,iV i.1)])
  (fun i=>[(1,⟨38,[tV (Ae C.c),sV a1 n1 c1,sV a2 n2 c2]⟩),(2,⟨57,[sV none 0 0,sV none 0 0,sV none 0 0]⟩),
   (7006,⟨57,[.v (.slice pa P.length pc),.v (.slice i.2.1.1 (i.1+1) i.2.1.2),.v (.slice ra (P.length+1) rc)]⟩)])
  (fun i u' m'=>i.1<=P.length/\i.2.2.map (·.2)=((Lh C P).take (i.1+1)).map txV/\Bag m' (Bu (.slice ra (P.length+1) rc,txV ((An P).map (Bh C)))::oT (.slice i.2.1.1 (i.1+1) i.2.1.2) i.2.2::i.2.2.map Bu)) (fun i=>P.length-i.1)
  (0,(a7,c7),[(.slice fa (P.length+1) fc,txV ((An P).map (As C none)))]) ⟨oV,by unfold Lh An;rfl,av⟩ ?_
 clear av ac n;rintro J ⟨i,⟨Z,a0⟩,g⟩ hJ u8 m8 l8 ⟨hi,z,n⟩;simp only at hi z n hJ;have bg:g.length=i+1:=by have:=congrArg List.length z;rw[A03,A03,bf i hi]at this;exact this
 by_cases W:i<P.length
 ·refine G.lT i P.length ?_;obtain⟨p,X⟩:∃ p,P[i]?=some p:=⟨_,A01 W⟩;have a6:(An P).take (i+1+1)=(An P).take (i+1)++[some p]:=by rw[Ex,Ex,A1n,X];simp
  have b2:=bk.trans l8;obtain⟨Q,Y,e0,ep⟩:=Ac.at' (ae.mono l8) (j:=i) (e:=Ap p) (by simp[X]);subst e0;refine G.a Q Y P.length pc i 2 W<|G.lU (some 2) Q (Y+i*2) (.agg #[.int .i64 p.1,.string (mkS p.2)]) ep<|G.c call137 (hS u8 b2 p) ?_;rintro v9 u9 l9 rfl;refine G.buildM 34 1 16 (.string (mkS [])) [.string (mkS (Ae (C.s p)))] kV (E7 _) rfl oV mV mV ?_;intro ab bw aq;refine G.l (ι:=Nat×(Option Addr×Nat)) (fun j=>[(3,.p 1 0),(4,.p 2 0),(6,sV (some ⟨Q,Y,none⟩) P.length pc),(9,.p 7006 0),(14,.p 18002 0),(15,sV j.2.1 (j.1+1) j.2.2),(70,sV (some ⟨Q,Y,none⟩) P.length pc),(71,iV P.length),(72,iV i),(80,sV (some ⟨Q,Y,none⟩) P.length pc),(81,iV P.length),(82,iV j.1)])
   (fun j=>[(1,⟨38,[tV (Ae C.c),sV a1 n1 c1,sV a2 n2 c2]⟩),(2,⟨57,[sV none 0 0,sV none 0 0,sV none 0 0]⟩),
    (7006,⟨57,[.v (.slice (some ⟨Q,Y,none⟩) P.length pc),.v (.slice Z (i+1) a0),.v (.slice ra (P.length+1) rc)]⟩),(18002,⟨118,[.v (.int .i64 p.1),.v (.string (mkS p.2))]⟩)])
   (fun j u' m'=>j.1<=P.length/\Bag m' (Bu (.slice j.2.1 (j.1+1) j.2.2,txV (((An P).take (j.1+1)).map (As C (some p))))::Bu (.slice ra (P.length+1) rc,txV ((An P).map (Bh C)))::oT (.slice Z (i+1) a0) g::g.map Bu)) (fun j=>P.length-j.1)
   (0,some ⟨ab,0,none⟩,1) ⟨oV,m8,aq,n⟩ ?_
  rintro J2 ⟨j,la,lc⟩ ar br b3 a9 ⟨hj,a5⟩;simp only at hj a5 ar;have b1:=(b2.trans l9).trans a9;by_cases aw:j<P.length
  ·refine G.lT j P.length ?_;obtain⟨q,az⟩:∃ q,P[j]?=some q:=⟨_,A01 aw⟩;have bh:(An P).take (j+1+1)=(An P).take (j+1)++[some q]:=by rw[Ex,Ex,A1n,az];simp
   obtain⟨bq,oq,e0,eq⟩:=Ac.at' (ae.mono ((l8.trans l9).trans a9)) (j:=j) (e:=Ap q) (by simp[az]);cases e0;refine G.a Q Y P.length pc j 2 aw<|G.lU (some 2) Q (Y+j*2) (.agg #[.int .i64 q.1,.string (mkS q.2)]) eq<|G.c call66 (hQ br b1 p q) ?_;rintro c3 bs aj rfl;refine G.B 34 1 16 (.string (mkS [])) [.string (mkS (Ae (C.t (Ay p q))))] (E7 _) ?_;intro ba bz bj b7;obtain⟨m0,H,E⟩:=a5.focus 0 rfl;rw[D6]at H;have V:(txV (((An P).take (j+1)).map (As C (some p)))).length=j+1:=by rw[Cw,A03,A1e];omega
   refine G.append 34 1 16 (.string (mkS [])) m0 (txV (((An P).take (j+1)).map (As C (some p)))) [.string (mkS (Ae (C.t (Ay p q))))] (.slice la (j+1) lc) ba 0 1 1 kV rfl rfl oV H b7 (E7 _) rfl oV (by rw[V];omega) (by rw[V];omega) ?_;intro c5 bo O;have b8:txV (((An P).take (j+1)).map (As C (some p)))++[.string (mkS (Ae (C.t (Ay p q))))]=txV (((An P).take (j+1+1)).map (As C (some p))):=by rw[bh,A1i,Md];rfl
   rw[b8]at O;have ah:(txV (((An P).take (j+1+1)).map (As C (some p)))).length=j+1+1:=by rw[Cw,A03,A1e];omega
   obtain⟨am,ap,rfl⟩:=O.shape;rw[ah]at O⊢;have U:=E (Bu (.slice am (j+1+1) ap,txV (((An P).take (j+1+1)).map (As C (some p))))) bo O;exact G.i j<|G.b (ar (j+1,am,ap) _ _ _ cV ((a9.trans aj).trans bj) ⟨dV,U⟩ dV)
  obtain rfl:j=P.length:=oV;refine G.lF P.length P.length ?_;rw[show (An P).take (P.length+1)=An P by rw[A1j oV]]at a5;refine G.B 46 1 24 (.slice none 0 0) [.slice la (P.length+1) lc] (B5 _ _ _) ?_;intro b9 bs aj b6;obtain⟨m0,H,E⟩:=a5.focus 2 rfl;rw[Aaa]at H;refine G.k 46 1 24 (.slice none 0 0) m0 (g.map (·.1)) [.slice la (P.length+1) lc] (.slice Z (i+1) a0) b9 0 1 1 H b6 (B5 _ _ _) ?_;intro c4 bn N;have em:g.map (·.1)++[Value.slice la (P.length+1) lc]=(g++[(Value.slice la (P.length+1) lc,txV ((An P).map (As C (some p))))]).map (·.1):=mV;rw[em]at N;obtain⟨al,ao,rfl⟩:=N.shape;have el:((g++[(Value.slice la (P.length+1) lc,txV ((An P).map (As C (some p))))]).map (·.1)).length=i+1+1:=by simp[bg]
  rw[el]at N⊢;have au:=E (oT (.slice al (i+1+1) ao) (g++[(Value.slice la (P.length+1) lc,txV ((An P).map (As C (some p))))])) bn N;have U:=Bag.perm S8 au;refine G.i i<|G.b (hJ (i+1,(al,ao),g++[(Value.slice la (P.length+1) lc,txV ((An P).map (As C (some p))))]) _ _ _ cV (((l8.trans l9).trans a9).trans aj) ⟨dV,?_,by simpa using U⟩ dV);dsimp only;rw[A1i,z];unfold Lh;rw[<-A5g,<-A5g,a6,A1i,A1i];rfl
 obtain rfl:i=P.length:=oV;refine G.lF P.length P.length ?_;rw[A1j (by unfold Lh;rw[A03,ad];omega)]at z;exact G.r (.tuple #[.agg #[.slice pa P.length pc,.slice Z (P.length+1) a0,.slice ra (P.length+1) rc],.int .i64 0]) ⟨pa,pc,Z,a0,ra,rc,g,rfl,ae.mono l8,z,n⟩
end
section
variable {C:CF}{F:List Al}{K c i k n:Nat}{P:List Par}{R:List Br}{T:List (List UInt8×Nat)}{X:List (List Rat)}{cv v:Value}{lab:Int}{m u:PH}{o s:Arr}{q:Rat}{r:Value×List Value}{rows:List (Value×List Value)}
def Lw (h:rows[i]?=some r):(s::o::rows.map Bu)[i+2]?=some (Bu r):=by simp[h]
def Agw :(s::o::rows.map Bu).set (i+2) (Bu r)=s::o::(rows.set i r).map Bu:=by
 simp[A2g]
def Aho {x:Value}{es es':List Value}(h:rows[i]?=some (x,es)):oT v (rows.set i (x,es'))=oT v rows:=by
 unfold oT
 congr 1
 rw[A2g];exact Ny (by rw[A1a,h];rfl)
def Ayw {g n c i:Nat}(t:Bag m (s::oT (.slice (some ⟨g,0,none⟩) n c) rows::rows.map Bu))(U:rows.map (·.2)=X.map txV)(L:Rec n n X)(hi:i<n) :
 ∃ E J,rows[i]?=some (.slice (some ⟨E,0,none⟩) n J,txV (gM X i))/\ElP m g (0+i*1) (.slice (some ⟨E,0,none⟩) n J)/\∀ j,j<n->ElP m E (0+j*1) (.string (mkS (Ae (gR (gM X i) j)))):=by
 have Y:rows.length=n:=by have:=congrArg List.length U;simpa[L.1] using this
 have h:rows[i]?=some rows[i]:=A01 oV;obtain⟨⟨Z,O⟩,V⟩:∃ x,rows[i]=x:=⟨_,rfl⟩;rw[V]at h;have N:O=txV (gM X i):=by
  have Q:(rows.map (·.2))[i]?=some O:=by rw[A1a,h];rfl
  have I:i<X.length:=by rw[L.1];exact hi
  rw[U,A1a,A01 I]at Q;rw[Ch I];simpa using Q.symm
 subst N;have z:(txV (gM X i)).length=n:=by rw[Cw,L.2 i hi]
 obtain⟨E,J,e⟩:=t.ptr (i+2) (Lw h) (by intro e;simp only[Bu]at e;rw[e]at z;simp at z;omega);simp only[Bu]at e;rw[z]at e;subst e;refine⟨E,J,h,t.el 1 (x:=oT _ rows) rfl rfl (by show (rows.map (·.1))[i]?=_;rw[A1a,h];rfl),fun j W=>?_⟩;have H:j<(gM X i).length:=by rw[L.2 i hi];exact W
 exact t.el (i+2) (x:=Bu _) (Lw h) rfl (by show (txV (gM X i))[j]?=_;unfold txV;rw[A1a,A01 H,Cu H];rfl)
def V9 {v:Value}{a:Option Addr}(g:Bag m (s::oT (.slice a n c) rows::rows.map Bu))(N:rows.map (·.2)=X.map txV)(L:PH.le m u):C7 u (.slice a n c) (Cv X):=by
 obtain⟨m0,h0,_⟩:=g.focus 1 rfl;have E:rows.length=X.length:=by have:=congrArg List.length N;simpa using this
 rw[Aaa]at h0;refine⟨rows.map (·.1),h0.list L,by simp[Cv,E],fun j r h=>?_⟩;unfold Cv at h;rw[A1a]at h;cases hx:X[j]? with
 |none=>rw[hx]at h;cases h
 |some x =>
  rw[hx]at h;simp only[A4c,A1f]at h;subst h;obtain⟨Q,_⟩:=A05.1 hx;have e:rows[j]?=some rows[j]:=A01 oV;obtain⟨⟨V,I⟩,O⟩:∃ x,rows[j]=x:=⟨_,rfl⟩;rw[O]at e;have z:I=txV x:=by
   have t:(rows.map (·.2))[j]?=some I:=by rw[A1a,e];rfl
   rw[N,A1a,hx]at t;simpa using t.symm
  subst z;obtain⟨U,t,_⟩:=g.focus (j+2) (Lw e);rw[D6]at t;obtain⟨a1,c1,H⟩:=t.shape;simp only at H;subst H;have J:=t.list L;simp only[Cw]at J;refine⟨a1,c1,by rw[A1a,e];simp[Cw],?_⟩;rw[A03];unfold Cj;rw[<-J7];exact J
def D0 (q:Rat)(X:List (List Rat)):Nat->List (List Rat)
 |0=>X
 |1=>X
 |i+2=>(D0 q X (i+1)).set (i+1) ((gM (D0 q X (i+1)) (i+1)).set (i+1) (gR (gM (D0 q X (i+1)) (i+1)) (i+1)+q))
def Nx {q:Rat}{X:List (List Rat)}{n:Nat}(e:Rec n n X):∀ i,i<=n->Rec n n (D0 q X i)
 |0,_=>e
 |1,_=>e
 |i+2,h=>by
  have g:=Nx e (q:=q) (i+1) oV;exact I8 g oV (by rw[A21,g.2 (i+1) oV])
theorem Vv {q:Rat}{X:List (List Rat)}{n:Nat}(z:Rec n n X):∀ i,i<=n->∀ a b,a<n->b<n->en (D0 q X i) a b=en X a b+if a=b/\0<a/\a<i then q else 0
 |0,_,a,b,_,_=>by rw[if_neg oV];show en X a b=en X a b+0;grind
 |1,_,a,b,_,_=>by rw[if_neg oV];show en X a b=en X a b+0;grind
 |i+2,h,a,b,ha,hb=>by
  have e:=Vv z (q:=q) (i+1) oV a b ha hb;have E:=Nx z (q:=q) (i+1) oV;have H:i+1<(gM (D0 q X (i+1)) (i+1)).length:=by rw[E.2 (i+1) oV];omega
  show gR (gM ((D0 q X (i+1)).set (i+1) _) a) b=_;rw[Kb (by rw[E.1];omega)];by_cases g:i+1=a
  ·rw[if_pos g,Aht H];by_cases j:i+1=b
   ·subst g;subst j;rw[if_pos rfl,if_pos ⟨rfl,oV,oV⟩];rw[if_neg oV]at e;show en (D0 q X (i+1)) (i+1) (i+1)+q=_;rw[e];grind
   subst g;rw[if_neg j,if_neg oV];rw[if_neg oV]at e;exact e
  rw[if_neg g];show en (D0 q X (i+1)) a b=_;rw[e];by_cases t:a=b/\0<a/\a<i+1
  ·rw[if_pos t,if_pos oV]
  rw[if_neg t,if_neg oV]
def Azh {r:List Rat}(h:X[i]?=some r):gM X i=r:=by unfold gM;rw[A02,h];rfl
def Aep {l:List Rat}{r:Rat}(h:l[i]?=some r):gR l i=r:=by unfold gR;rw[A02,h];rfl
def Aj2 (C:CF)(P:List Par)(hi:i<P.length+1):gM (Lh C P) i=(An P).map (As C ((An P).getD i none)):=by
 have e:i<(An P).length:=by rw[Cp];exact hi
 refine Azh ?_;unfold Lh;rw[A1a,A01 e,A02,A01 e];rfl
def Sj (C:CF)(P:List Par):Rec (P.length+1) (P.length+1) (Lh C P) :=
 ⟨by unfold Lh;rw[A03,Cp],fun i hi=>by rw[Aj2 C P hi,A03,Cp]⟩
def Abs (C:CF)(P:List Par){i j:Nat}(hi:i<P.length+1)(g:j<P.length+1):en (Lh C P) i j=As C ((An P).getD i none) ((An P).getD j none):=by
 have e:j<(An P).length:=by rw[Cp];exact g
 unfold en;rw[Aj2 C P hi];refine Aep ?_;rw[A1a,A02 (l:=An P) (i:=j),A01 e];rfl
def Fd.de (h:Fd q):De 2 2 q:=by
 obtain⟨p,e,g⟩:=h.thirty;exact⟨p,30,e,oV,oV,oV⟩
def Te.cellDe (h:Te u v cv T R F lab C K k P)(e f:Option Par):De 75 18 (As C e f):=by
 cases e<;>cases f
 ·show De 75 18 C.c;rw[h.mom.c];exact (De.nat (a:=2) (by have:=h.mom.lt;omega)).mono oV oV
 ·exact h.mom.s _
 ·exact h.mom.s _
 exact h.mom.t _
theorem Ae1 (h:Te u v cv T R F lab C K k P)(hq:Fd q) :
 Fn0 prog 16 [v,cv,.string (mkS (Ae q))] u fun r O=>(∃ e:Int,e≠0/\(k=0/\e=12\/e=3/\k≠0/\11<P.length)/\r=.tuple #[.agg #[.slice none 0 0,.slice none 0 0,.slice none 0 0],.int .i64 e]) \/
  (k≠0/\P.length<=11/\∃ (pa:Option Addr) (pc:Nat) (xa:Option Addr) (xc:Nat) (ra:Option Addr) (rc:Nat),r=.tuple #[.agg #[.slice pa P.length pc,.slice xa (P.length+1) xc,.slice ra (P.length+1) rc],.int .i64 0]/\Ac O (.slice pa P.length pc) 2 (P.map Ap) /\
   C7 O (.slice xa (P.length+1) xc) (Cv (D0 q (Lh C P) (P.length+1)))/\Cj O (.slice ra (P.length+1) rc) (((An P).map (Bh C)).map Ae)):=by
 have ab:=Afv h;have a9:=fun (O:PH) (l:PH.le u O)=>Afs (h.mono l) hq;have aa:=h.cellDe;obtain⟨xa,xc,xb,xd,xe,xf,rfl,_⟩:=id h.sch;obtain⟨a1,n1,c1,a2,n2,c2,rfl⟩:=id h.cof.opn;refine Fn0.o func16<|G.callO _ _ kV call58 ab ?_;rintro v1 u1 m1 l1 ⟨pa,pc,ya,I,ra,rc,rows,rfl,a6,t,z⟩ _;rw[By];refine G.nF 0 0<|G.c call59 (a9 u1 l1) ?_;rintro v2 u2 l2 rfl;by_cases h0:k=0
 ·rw[if_pos h0];exact G.nT 12 0<|G.drop PH.mt kV (PH.mt_le _)<|G.r (.tuple #[.agg #[.slice none 0 0,.slice none 0 0,.slice none 0 0],.int .i64 12]) ⟨rfl,.inl ⟨12,oV,.inl ⟨h0,rfl⟩,rfl⟩⟩
 rw[if_neg h0];refine G.nF 0 0 ?_;by_cases ac:P.length+1>12
 ·exact G.gT (P.length+1:Nat) 12<|G.drop PH.mt kV (PH.mt_le _)<|G.r (.tuple #[.agg #[.slice none 0 0,.slice none 0 0,.slice none 0 0],.int .i64 3]) ⟨rfl,.inl ⟨3,oV,.inr ⟨rfl,h0,oV⟩,rfl⟩⟩
 refine G.gF (P.length+1:Nat) 12 ?_;have hX:=Sj C P;generalize a8:Lh C P=X at t hX;have a7:∀ i j,i<P.length+1->j<P.length+1->De 75 18 (en X i j):=fun i j hi hj=>by rw[<-a8,Abs C P hi hj];exact aa _ _
 have a3:rows.length=P.length+1:=by have:=congrArg List.length t;simpa[hX.1] using this
 obtain⟨go,co,eo⟩:=z.ptr 1 rfl (fun e=>by
  have:(rows.map (·.1)).length=0:=by rw[show rows.map (·.1) = [] from e];rfl
  rw[A03]at this;omega)
 have a4:(Value.slice ya (P.length+1) I)=.slice (some ⟨go,0,none⟩) (P.length+1) co:=by
  have e1:(oT (.slice ya (P.length+1) I) rows).v=Value.slice ya (P.length+1) I:=rfl;rw[e1]at eo;rw[eo];have:(oT (.slice ya (P.length+1) I) rows).es.length=P.length+1:=by show (rows.map (·.1)).length=_;rw[A03,a3]
  rw[this]
 cases a4;refine G.l (ι:=Nat×List (Value×List Value)) (fun i=>[(2,tV (Ae q)),(6,.p 2 0),(8,.p 1006 0),(11,iV i.1)])
  (fun _=>[(2,⟨57,[sV none 0 0,sV none 0 0,sV none 0 0]⟩),(1006,⟨57,[sV pa P.length pc,sV (some ⟨go,0,none⟩) (P.length+1) I,sV ra (P.length+1) rc]⟩)])
  (fun i O m'=>1<=i.1/\i.1<=P.length+1/\i.2.map (·.2)=(D0 q X i.1).map txV/\Bag m' (Bu (.slice ra (P.length+1) rc,txV ((An P).map (Bh C)))::oT (.slice (some ⟨go,0,none⟩) (P.length+1) I) i.2::i.2.map Bu)) (fun i=>P.length+1-i.1)
  (1,rows) ⟨oV,oV,t,z⟩ ?_
 clear z t a3;rintro J ⟨i,rows⟩ hJ u3 m3 l3 ⟨a5,hi,t,z⟩;simp only at a5 hi t z hJ;have U:=Nx (q:=q) hX i hi;by_cases E:i<P.length+1
 ·refine G.lT i (P.length+1:Nat) ?_;obtain⟨L,N,a0,e1,e2⟩:=Ayw z t U E;have W:gR (gM (D0 q X i) i) i=en X i i:=by
   have:=Vv (q:=q) hX i hi i i E E;rw[if_neg oV]at this;show en (D0 q X i) i i=_;rw[this];grind
  have hd:=a7 i i E E;refine G.a go 0 (P.length+1) I i 1 E<|G.lM none go (0+i*1) (.slice (some ⟨L,0,none⟩) (P.length+1) N) e1<|G.a L 0 (P.length+1) N i 1 E<|G.lM none L (0+i*1) (.string (mkS (Ae (gR (gM (D0 q X i) i) i)))) (e2 i E) ?_;rw[W];have ha:=hd.add hq.de (f:=77) oV oV;refine G.c call60 (Aug (hd.tx oV oV oV oV) hq.tx (ha.tx oV oV oV oV)) ?_;rintro v4 u4 l4 rfl;refine G.nF 0 0<|G.a go 0 (P.length+1) I i 1 E<|G.lM none go (0+i*1) (.slice (some ⟨L,0,none⟩) (P.length+1) N) e1<|G.a L 0 (P.length+1) N i 1 E ?_;obtain⟨m0,H,Z⟩:=z.focus (i+2) (Lw a0);rw[D6]at H;have ad:(txV (gM (D0 q X i) i)).length=P.length+1:=by rw[Cw,U.2 i E]
  refine G.storeA 1 m0 (txV (gM (D0 q X i) i)) L (P.length+1) N i (.string (mkS (Ae (en X i i+q)))) kV H oV rfl rfl ?_;intro m5 Q;have es:(txV (gM (D0 q X i) i)).set i (.string (mkS (Ae (en X i i+q))))=txV ((gM (D0 q X i) i).set i (gR (gM (D0 q X i) i) i+q)):=by
   rw[W];unfold txV;rw[A2g]
  rw[es]at Q;have V:=Z (Bu (.slice (some ⟨L,0,none⟩) (P.length+1) N,txV ((gM (D0 q X i) i).set i (gR (gM (D0 q X i) i) i+q)))) m5 Q;rw[Agw,<-Aho a0 (es':=txV ((gM (D0 q X i) i).set i (gR (gM (D0 q X i) i) i+q)))]at V;refine G.i i<|G.b (hJ (i+1,rows.set i (.slice (some ⟨L,0,none⟩) (P.length+1) N,txV ((gM (D0 q X i) i).set i (gR (gM (D0 q X i) i) i+q)))) _ _ _ cV (l3.trans l4) ⟨dV,dV,?_,V⟩ dV);dsimp only;obtain⟨j,rfl⟩:∃ j,i=j+1:=⟨i-1,oV⟩;rw[A2g,t,<-A2g];rfl
 obtain rfl:i=P.length+1:=oV;refine G.lF (P.length+1:Nat) (P.length+1:Nat)<|G.giveP (ma:=m3) (sm:=PH.mt) kV (by funext g;unfold PH.or;cases m3 g<;>rfl) (fun g=>.inr rfl) (fun g=>.inl rfl) ?_
 intro u6 l6 Y;obtain⟨m0,H,_⟩:=z.focus 0 rfl;rw[D6]at H;have hR:Cj u6 (.slice ra (P.length+1) rc) (((An P).map (Bh C)).map Ae):=by
  unfold Cj;rw[<-J7];exact H.list Y
 exact G.r (.tuple #[.agg #[.slice pa P.length pc,.slice (some ⟨go,0,none⟩) (P.length+1) I,.slice ra (P.length+1) rc],.int .i64 0]) ⟨rfl,.inr ⟨h0,oV,pa,pc,_,I,ra,rc,rfl,a6.mono ((l2.trans l3).trans l6),V9 (v:=.bool true) z t Y,hR⟩⟩
end
structure Tq (q:Rat):Prop where
 tx:Tx q
 den:q.den ∣ 21600
 num:q.num.natAbs<=3000000000000
def leW {q:Nat}(h:q ∣ 21600):0<q/\q<=21600:=⟨Nat.pos_of_dvd_of_pos h oV,A48 oV h⟩
def nlM {n:Nat}(h:n<1000000000000000000):nl n<=2:=A4 (by simpa using h)


def Ad3 {m0 m:PH}{v:Value}{t:TypeId}{sz:Nat}{es:List Value}(h:Af m0 m v t sz es):PH.le m0 m:=by
 rcases h.2 with ⟨_,_,rfl⟩|⟨g,cap,rest,e,rfl,_⟩
 ·exact PH.le_refl _
 exact Jw _ e
def Tq.sz {q:Rat}(h:Tq q):Sz q 2:=by
 have h1:=h.num;have h2:=(leW h.den).2;exact⟨nlM oV,nlM oV⟩
section
variable {i j:Nat}{qs:List Rat}
theorem Wy {q:Rat}{z:Int}{D:Nat}(h:q*(D:Rat)=(z:Rat))(h0:0<D):q.den ∣ D/\q.num.natAbs<=z.natAbs:=by
 have n:q=Rat.divInt z (D:Int):=by
  rw[A37,A2r,<-h];have:=T4 h0;grind
 obtain⟨e,g,t⟩:=O7 (y:=z) (z:=(D:Int)) oV;rw[n];constructor
 ·have m:((Rat.divInt z (D:Int)).den:Int)=((D/Nat.gcd z.natAbs D:Nat):Int):=by
   rw[g,show ((D:Int)).natAbs=D from rfl,A32 oV,<-A5k]
  rw[Int.ofNat.inj m];exact Nat.div_dvd_of_dvd (Nat.gcd_dvd_right _ _)
 rw[e,A8o];exact A3u _ _
section
variable {P:List Par} {C:CF} {q:Rat} {N:Nat}
def Eh (C:CF)(P:List Par)(q:Rat):List (List Rat):=D0 q (Lh C P) (P.length+1)
def Yz (C:CF)(P:List Par):List Rat:=(An P).map (Bh C)
def Rx:Rec (P.length+1) (P.length+1) (Eh C P q):=Nx (Sj C P) _ (A08 _)
def N8 (hi:i<P.length+1)(e:j<P.length+1):en (Eh C P q) i j=As C ((An P).getD i none) ((An P).getD j none)+if i=j/\0<i then q else 0:=by
 unfold Eh;rw[Vv (Sj C P) _ (A08 _) i j hi e,Abs C P hi e];have:(if i=j/\0<i/\i<P.length+1 then q else 0)=if i=j/\0<i then q else 0:=by simp[hi]
 rw[this]
def Ag3:(Yz C P).length=P.length+1:=by unfold Yz;rw[A03,Cp]
def A0b (hi:i<P.length+1):gR (Yz C P) i=Bh C ((An P).getD i none):=by
 have e:=Cp P;refine Aep ?_;unfold Yz;rw[A1a,A02,A01 oV];rfl
def Am9 (h:P.Nodup)(n:qs.length=P.length)(m:j<P.length):Fo P[j] (P.zip qs)=gR qs j:=by
 have g:j<qs.length:=oV
 rw[Cu g];refine Kh ?_ (A3d.2 ⟨j,gV,mV⟩);have e:(P.zip qs).map (·.1)=P:=List.map_fst_zip oV;rw[e];exact h
def Ar2 (e:P.Nodup){m0:Rat}(g:qs.length=P.length):∀ j,j<P.length+1->cfE m0 (P.zip qs) ((An P).getD j none)=gR (m0::qs) j:=by
 intro j h;cases j with
 |zero=>rfl
 |succ j =>
  unfold An;rw[A6b,A02,A1a,A01 oV];show Fo P[j] (P.zip qs)=gR (m0::qs) (j+1);rw[Am9 e g oV];rfl
def Alq (hi:i<P.length+1):(An P).getD i none∈An P:=by
 have:=Cp P;rw[A02,A01 oV];exact A09 _
end
end
section
variable {P:Nat->Nat}{R S:Nat->Nat->Int}{a b c j n r:Nat}{f:Nat->Int}{v:Int}
def Ca:Nat->(Nat->Int)->Int
 |0,_=>0
 |n+1,f=>Ca n f+f n
def Cr {f g:Nat->Int}:∀ {n:Nat},(∀ j,j<n->f j=g j)->Ca n f=Ca n g
 |0,_=>rfl
 |n+1,h=>by rw[Ca,Ca,Cr fun j e=>h j oV,h n oV]
def Aai (h:∀ j,j<n->f j=0):Ca n f=0:=by
 induction n with
 |zero=>rfl
 |succ n ih=>rw[Ca,ih fun j e=>h j oV,h n oV];rfl
theorem Ll {f g:Nat->Int}(a b:Int):∀ {n:Nat},Ca n (fun j=>a*f j+b*g j)=a*Ca n f+b*Ca n g
 |0=>by simp[Ca]
 |n+1=>by rw[Ca,Ca,Ca,Ll a b];grind
theorem X9 (g:j<n)(h:∀ t,t<n->t≠j->f t=0):Ca n f=f j:=by
 induction n with
 |zero=>omega
 |succ n ih =>
  rw[Ca];by_cases e:j=n
  ·subst e;rw[Aai fun t m=>h t oV oV];omega
  grind
theorem Ar3 (m:a+1<n)(h:∀ t,t<n->t≠a->t≠a+1->f t=0):Ca n f=f a+f (a+1):=by
 induction n with
 |zero=>omega
 |succ n ih =>
  rw[Ca];by_cases e:a+1=n
  ·subst e;rw[X9 (j:=a) oV fun t u g=>h t oV g oV]
  grind
def dsg:Nat->Int
 |0=>1
 |n+1=>- dsg n
def Akx:∀ r:Nat,dsg (r+r)=1
 |0=>rfl
 |r+1=>by rw[show r+1+(r+1)=r+r+1+1 by omega,dsg,dsg,Akx r];rfl
def Eu (j:Nat)(C:Nat->Nat->Int):Nat->Nat->Int:=fun t=>if t<j then C t else C (t+1)
def dt:Nat->(Nat->Nat->Int)->Int
 |0,_=>1
 |r+1,C=>Ca (r+1) fun j=>dsg (r+j)*C j r*dt r (Eu j C)
def Ih:∀ {r:Nat} {C D:Nat->Nat->Int},(∀ t,t<r->∀ i,i<r->C t i=D t i)->dt r C=dt r D
 |0,_,_,_=>rfl
 |r+1,C,D,h=>by
  rw[dt,dt];refine Cr fun j e=>?_;rw[h j e r oV,Ih (D:=Eu j D)];intro t g i hi;unfold Eu;split
  ·exact h t oV i oV
  exact h (t+1) oV i oV
def Dc (C:Nat->Nat->Int)(j:Nat)(x:Nat->Int):Nat->Nat->Int:=fun t=>if t=j then x else C t
theorem Od (C:Nat->Nat->Int)(j:Nat)(x:Nat->Int):Eu j (Dc C j x)=Eu j C:=by
 funext t
 unfold Eu Dc;split
 ·grind
 grind
theorem Nz (C:Nat->Nat->Int)(h:j<a)(x:Nat->Int):Eu a (Dc C j x)=Dc (Eu a C) j x:=by
 funext t
 unfold Eu Dc;by_cases e:t=j
 ·grind
 grind
theorem Kz (C:Nat->Nat->Int)(h:a<j)(x:Nat->Int):Eu a (Dc C j x)=Dc (Eu a C) (j-1) x:=by
 funext t
 unfold Eu Dc;by_cases e:t=j-1
 ·grind
 grind
def Ja (C:Nat->Nat->Int)(j:Nat)(x:Nat->Int):Dc C j x j=x:=by simp[Dc]
theorem Id (C:Nat->Nat->Int){j t:Nat}(h:t≠j)(x:Nat->Int):Dc C j x t=C t:=by simp[Dc,h]
theorem O2 (C:Nat->Nat->Int)(j:Nat):Dc C j (C j)=C:=by
 funext t
 unfold Dc;split
 ·grind
 rfl
theorem Mt (a b:Int)(x y:Nat->Int):∀ {r:Nat} (C:Nat->Nat->Int) {j:Nat},j<r->dt r (Dc C j fun i=>a*x i+b*y i)=a*dt r (Dc C j x)+b*dt r (Dc C j y)
 |0,_,_,h=>oV
 |r+1,C,j,h=>by
  rw[dt,dt,dt,<-Ll];refine Cr fun t m=>?_;by_cases e:t=j
  ·subst e;rw[Od,Od,Od,Ja,Ja,Ja];grind
  rw[Id C e,Id C e,Id C e];by_cases g:j<t
  ·rw[Nz C g,Nz C g,Nz C g,Mt a b x y (Eu t C) oV];grind
  have g:t<j:=oV;rw[Kz C g,Kz C g,Kz C g,Mt a b x y (Eu t C) oV];grind
def Akv (C:Nat->Nat->Int)(h:j<r):dt r (Dc C j fun _=>0)=0:=by
 have:=Mt 0 0 (fun _=>0) (fun _=>0) C h;simpa using this
theorem Ach:∀ {r:Nat} {C:Nat->Nat->Int} {a:Nat},a+1<r->C a=C (a+1)->dt r C=0
 |0,_,_,h,_=>oV
 |r+1,C,a,h,e=>by
  rw[dt,Ar3 (a:=a) h]
  ·have:Eu a C=Eu (a+1) C:=by
    funext t
    unfold Eu;by_cases h1:t=a
    ·grind
    ·grind
   rw[this,e,show r+(a+1)=(r+a)+1 by omega,dsg];grind
  ·intro t ht h1 h2;have:dt r (Eu t C)=0:=by
    by_cases hl:t<a
    ·refine Ach (a:=a-1) oV ?_;unfold Eu;rw[if_neg oV,if_neg oV,show a-1+1=a by omega];exact e
    ·refine Ach (a:=a) oV ?_;unfold Eu;rw[if_pos oV,if_pos oV];exact e
   rw[this];simp
def swp (C:Nat->Nat->Int)(a:Nat):Nat->Nat->Int:=Dc (Dc C a (C (a+1))) (a+1) (C a)
theorem Ti (C:Nat->Nat->Int)(h:a≠b)(x y:Nat->Int):Dc (Dc C a x) b y=Dc (Dc C b y) a x:=by
 funext t
 unfold Dc;by_cases e:t=a
 ·grind
 grind
def Ayl (C:Nat->Nat->Int)(h:a+1<r):dt r (swp C a) = - dt r C:=by
 have m:a<r:=oV
 let D:(Nat->Int)->(Nat->Int)->Int:=fun x y=>dt r (Dc (Dc C a x) (a+1) y)
 have l2:∀ x y z,D x (fun i=>1*y i+1*z i)=1*D x y+1*D x z:=fun x y z=>Mt 1 1 y z _ h;have t:∀ x y z,D (fun i=>1*y i+1*z i) x=1*D y x+1*D z x:=fun x y z=>by
  show dt r (Dc (Dc C a _) (a+1) x)=1*dt r (Dc (Dc C a y) (a+1) x)+1*dt r (Dc (Dc C a z) (a+1) x);rw[Ti C (show a≠a+1 by omega) (fun i=>1*y i+1*z i) x,Ti C (show a≠a+1 by omega) y x,Ti C (show a≠a+1 by omega) z x];exact Mt 1 1 y z _ m
 have e:∀ x,D x x=0:=fun x=>Ach h (by rw[Ja,Id _ oV,Ja]);have g:=e (fun i=>1*C a i+1*C (a+1) i);rw[t,l2,l2,e,e]at g;have u:D (C a) (C (a+1))=dt r C:=by
  show dt r (Dc (Dc C a (C a)) (a+1) (C (a+1)))=_;rw[O2,O2]
 have E:D (C (a+1)) (C a)=dt r (swp C a):=rfl;omega
def Ao4 {r:Nat}:∀ {d:Nat} {C:Nat->Nat->Int} {a:Nat},a+d+1<r->C a=C (a+d+1)->dt r C=0
 |0,_,_,h,e=>Ach h e
 |d+1,C,a,h,e=>by
  have:=Ayl C (a:=a+d+1) (r:=r) oV;rw[Ao4 (d:=d) (C:=swp C (a+d+1)) (a:=a) oV]at this
  ·omega
  unfold swp;rw[Id _ oV,Id _ oV,Id _ oV,Ja];exact e
def All {C:Nat->Nat->Int}(g:a<r)(m:b<r)(t:a≠b)(e:C a=C b):dt r C=0:=by
 by_cases h:a<b
 ·exact Ao4 (d:=b-a-1) (a:=a) oV (by rw[show a+(b-a-1)+1=b by omega];exact e)
 exact Ao4 (d:=a-b-1) (a:=b) oV (by rw[show b+(a-b-1)+1=a by omega];exact e.symm)
def Aiz {r:Nat}(C:Nat->Nat->Int){j:Nat}(h:j<r)(a:Nat->Int)(X:Nat->Nat->Int):∀ n:Nat,dt r (Dc C j fun i=>Ca n fun t=>a t*X t i)=Ca n fun t=>a t*dt r (Dc C j (X t))
 |0=>Akv C h
 |n+1=>by
  have:=Mt 1 (a n) (fun i=>Ca n fun t=>a t*X t i) (X n) C h;rw[Aiz C h a X n]at this;simp only[Ca];rw[Ba8]at this;rw[<-this]
  congr 2
  funext i
  rw[Ba8]
def Z3 (C:Nat->Nat->Int)(h:j<r)(a:Nat->Int):dt r (Dc C j fun i=>Ca r fun t=>a t*C t i)=a j*dt r C:=by
 rw[Aiz C h,X9 h,O2];intro t m g;rw[All (a:=j) (b:=t) h m (fun e=>g e.symm) (by rw[Ja,Id _ g]),Int.mul_zero]
theorem Au9 (C:Nat->Nat->Int)(e:Nat->Int)(h:∀ i,i<r->e i=0):dt (r+1) (Dc C r e)=e r*dt r C:=by
 rw[dt,X9 (j:=r) oV]
 ·rw[Akx,Ja,Ba8,Ih (C:=Eu r (Dc C r e)) (D:=C)];intro t g i hi;unfold Eu;rw[if_pos g,Id _ oV]
 intro t g m;rw[Kz C (by omega:t<r),Ih (D:=Dc (Eu t C) (r-1) fun _=>0)]
 ·rw[Akv _ oV];simp
 intro s u i hi;unfold Dc;split
 ·grind
 rfl
structure Bar (n:Nat)(R:Nat->Nat->Int)(P:Nat->Nat)(r:Nat)(v:Int)(S:Nat->Nat->Int):Prop where
 v0:v≠0
 d:dt r (fun j i=>R i (P j))=v
 lo:∀ i,i<r->∀ k,Ca r (fun j=>S j k*R i (P j))=v*R i k
 hi:∀ i,r<=i->i<n->∀ k,S i k=v*R i k-Ca r (fun j=>S j k*R i (P j))
def Bar.init (n:Nat)(R:Nat->Nat->Int)(P:Nat->Nat):Bar n R P 0 1 R:=⟨fV,rfl,fun i h=>oV,fun i _ _ k=>by simp[Ca]⟩
def Aq5 (a:Int)(f:Nat->Int)(n:Nat):Ca n (fun j=>a*f j)=a*Ca n f:=by
 have:=Ll (f:=f) (g:=f) a 0 (n:=n);simp only[Int.zero_mul,Int.add_zero]at this;exact this
def K4 {v a b:Int}(e:v≠0)(h:v*a=v*b):a=b:=A85 e h
theorem Bar.num (h:Bar n R P r v S)(m:r<n)(c:Nat)(i k:Nat)(hi:i<=r) :
 Ca r (fun j=>(S j k*S r c-S j c*S r k)*R i (P j))+v*S r k*R i c=v*(S r c*R i k):=by
 have e:Ca r (fun j=>(S j k*S r c-S j c*S r k)*R i (P j))=S r c*Ca r (fun j=>S j k*R i (P j))+(- S r k)*Ca r (fun j=>S j c*R i (P j)):=by
  rw[<-Ll];exact Cr fun j _=>by grind
 rw[e];by_cases g:i<r
 ·rw[h.lo i g,h.lo i g];grind
 obtain rfl:i=r:=oV;have t:=h.hi i (A08 _) m k;have u:=h.hi i (A08 _) m c;grind
def Kc (P:Nat->Nat)(r c:Nat):Nat->Nat:=fun j=>if j=r then c else P j
theorem Bar.det (h:Bar n R P r v S)(E:r<n)(c:Nat) :
 dt (r+1) (fun j i=>R i (Kc P r c j))=S r c:=by
 let C:Nat->Nat->Int:=fun j i=>R i (Kc P r c j)
 have g:C r=fun i=>R i c:=by funext i;simp[C,Kc]
 have e:∀ j,j<r->C j=fun i=>R i (P j):=fun j m=>by funext i;simp[C,Kc,show j≠r by omega]
 have z:dt (r+1) (Dc C r (fun i=>v*C r i+(-1)*Ca r (fun j=>S j c*C j i)))=v*dt (r+1) C:=by
  rw[Mt v (-1) (C r) _ C oV,O2,Aiz C oV];rw[Aai]
  ·grind
  intro t u;rw[All (a:=t) (b:=r) oV oV oV (by rw[Ja,Id _ oV]),Int.mul_zero]
 have es:∀ i,Ca r (fun j=>S j c*C j i)=Ca r (fun j=>S j c*R i (P j)):=fun i=>Cr fun j m=>by rw[e j m]
 rw[Au9 C _ (fun i hi=>by
  rw[es,h.lo i hi,g];grind)]at z
 have F:dt r C=v:=by
  rw[<-h.d];exact Ih fun t u i hi=>by rw[e t u]
 have H:v*C r r+(-1)*Ca r (fun j=>S j c*C j r)=S r c:=by
  rw[es,g];have:=h.hi r (A08 _) E c;grind
 refine K4 h.v0 ?_;grind
theorem Bar.dvd (h:Bar n R P r v S)(u:r<n)(H:S r c≠0)(j k:Nat)(J:j<r) :
 v ∣ S j k*S r c-S j c*S r k:=by
 let C:Nat->Nat->Int:=fun j i=>R i (Kc P r c j)
 have m:∀ i,C r i=R i c:=fun i=>by simp[C,Kc]
 have e:∀ j,j<r->∀ i,C j i=R i (P j):=fun j J i=>by simp[C,Kc,show j≠r by omega]
 have I:dt (r+1) C=S r c:=h.det u c;have E:=Z3 C (show j<r+1 by omega) (fun t=>if t=r then v*S r k else S t k*S r c-S t c*S r k);have F:dt (r+1) (Dc C j fun i=>Ca (r+1) fun t=>(if t=r then v*S r k else S t k*S r c-S t c*S r k)*C t i)=dt (r+1) (Dc C j fun i=>(v*S r c)*R i k+0*R i k):=by
  refine Ih fun t z i hi=>?_;unfold Dc;split
  ·simp only[Ca,if_true,m];have:=h.num u c i k oV;rw[Cr (g:=fun j=>(S j k*S r c-S j c*S r k)*R i (P j)) (fun t z=>by rw[if_neg oV,e t z])];grind
  rfl
 rw[F,Mt _ _ _ _ C oV,I,if_neg oV]at E;refine⟨dt (r+1) (Dc C j fun i=>R i k),K4 H ?_⟩;grind
def Af2 {v:Int}{f:Nat->Int}:∀ {n:Nat},(∀ j,j<n->v ∣ f j)->v ∣ Ca n f
 |0,_=>⟨0,by simp[Ca]⟩
 |n+1,h=>Int.dvd_add (Af2 fun j e=>h j oV) (h n oV)
theorem Bar.dvdAll (h:Bar n R P r v S)(m:r<n)(g:S r c≠0)(i k:Nat)(hi:i<n)(E:i≠r) :
 v ∣ S i k*S r c-S i c*S r k:=by
 by_cases u:i<r
 ·exact h.dvd m g i k u
 have z:=h.hi i oV hi k;have C:=h.hi i oV hi c;have e:Ca r (fun j=>(S j k*S r c-S j c*S r k)*R i (P j))=S r c*Ca r (fun j=>S j k*R i (P j))+(- S r k)*Ca r (fun j=>S j c*R i (P j)):=by
  rw[<-Ll];exact Cr fun j _=>by grind
 obtain⟨q,F⟩:v ∣ Ca r (fun j=>(S j k*S r c-S j c*S r k)*R i (P j)):=Af2 fun j t=>Int.dvd_mul_of_dvd_left (h.dvd m g j k t);exact⟨S r c*R i k-S r k*R i c-q,by grind⟩
theorem Bar.step {n:Nat}{R:Nat->Nat->Int}{P:Nat->Nat}{r:Nat}{v:Int}{S:Nat->Nat->Int}(h:Bar n R P r v S)(C:r<n){c:Nat}(I:S r c≠0){S':Nat->Nat->Int}
 (hp:∀ k,S' r k=S r k) (E:∀ i,i<n->i≠r->∀ k,v*S' i k=S i k*S r c-S i c*S r k):Bar n R (Kc P r c) (r+1) (S r c) S':=by
 have F:=h.v0;have H:∀ j,j<r->Kc P r c j=P j:=fun j u=>by simp[Kc,show j≠r by omega]
 have t:Kc P r c r=c:=by simp[Kc]
 have e:∀ i k,v*Ca r (fun j=>S' j k*R i (P j))=Ca r (fun j=>(S j k*S r c-S j c*S r k)*R i (P j)):=fun i k=>by
  rw[<-Aq5];exact Cr fun j u=>by rw[<-E j oV oV];grind
 have z:∀ i k,Ca (r+1) (fun j=>S' j k*R i (Kc P r c j))=Ca r (fun j=>S' j k*R i (P j))+S r k*R i c:=fun i k=>by
  rw[Ca,t,hp,Cr (g:=fun j=>S' j k*R i (P j)) fun j u=>by rw[H j u]]
 refine⟨I,h.det C c,fun i hi k=>?_,fun i K m k=>?_⟩
 ·refine K4 F ?_;rw[z,Ba2,e];have:=h.num C c i k oV;grind
 refine K4 F ?_;rw[z,E i m oV];have L:=e i k;have J:Ca r (fun j=>(S j k*S r c-S j c*S r k)*R i (P j))=S r c*Ca r (fun j=>S j k*R i (P j))+(- S r k)*Ca r (fun j=>S j c*R i (P j)):=by
  rw[<-Ll];exact Cr fun j _=>by grind
 have N:=h.hi i oV m k;have O:=h.hi i oV m c;grind
def rsw (F:Nat->Nat->Int)(p q:Nat):Nat->Nat->Int:=fun i=>if i=p then F q else if i=q then F p else F i
def Bar.swap (h:Bar n R P r v S){p:Nat}(H:r<=p)(I:p<n):Bar n (rsw R p r) P r v (rsw S p r):=by
 have u:∀ F:Nat->Nat->Int,∀ i,i<r->rsw F p r i=F i:=fun F i hi=>by simp[rsw,show i≠p by omega,show i≠r by omega]
 refine⟨h.v0,?_,fun i hi k=>?_,fun i hi J k=>?_⟩
 ·rw[<-h.d];exact Ih fun t _ i hi=>by rw[u R i hi]
 ·rw[u R i hi,<-h.lo i hi];exact Cr fun j C=>by rw[u S j C]
 have:∀ m,r<=m->m < n->rsw S p r i=S m->rsw R p r i=R m->rsw S p r i k=v*rsw R p r i k-Ca r (fun j=>rsw S p r j k*rsw R p r i (P j)):=fun m a b E g=>by
  rw[E,g,h.hi m a b]
  congr 1
  exact Cr fun j C=>by rw[u S j C]
 by_cases e:i=p
 ·exact this r (A08 _) oV (by simp[rsw,e]) (by simp[rsw,e])
 by_cases g:i=r
 ·exact this p H I (by simp[rsw,g];intro z;rw[z]) (by simp[rsw,g];intro z;rw[z])
 exact this i hi J (by simp[rsw,e,g]) (by simp[rsw,e,g])
end
section
variable {R:Nat->Nat->Int}{X:List (List Int)}{i j n p r w:Nat}{l:List Int}
def gZ (l:List Int)(j:Nat):Int:=l.getD j 0
def gMZ (X:List (List Int))(i:Nat):List Int:=X.getD i []
def enZ (X:List (List Int))(i j:Nat):Int:=gZ (gMZ X i) j
def E8 (n w:Nat)(X:List (List Int)):Prop:=X.length=n/\∀ i,i<n->(gMZ X i).length=w
def Ol (h:j<l.length):gZ l j=l[j]:=by unfold gZ;rw[A02,A01 h];rfl
def Ado (h:l.length<=j):gZ l j=0:=by unfold gZ;rw[A02,A1v h];rfl
def Xj (h:i<X.length):gMZ X i=X[i]:=by unfold gMZ;rw[A02,A01 h];rfl
theorem Kv {i k:Nat}{r:List Int}(h:i<X.length):gMZ (X.set i r) k=if i=k then r else gMZ X k:=by
 unfold gMZ;by_cases e:i=k
 ·grind
 grind
def Abr (f:Nat->Int)(h:j<n):gZ ((List.range n).map f) j=f j:=by
 rw[Ol (by simpa using h)];simp
def Iy (X:List (List Int))(c:Nat):Nat->Nat->Nat
 |0,p=>p
 |f+1,p=>if enZ X p c=0 then Iy X c f (p+1) else p
def Kw (X:List (List Int))(p r:Nat):List (List Int):=(X.set p (gMZ X r)).set r (gMZ X p)
def Qx (v a g:Int)(R row:List Int):List Int:=(List.range row.length).map fun k=>(gZ row k*a-g*gZ R k)/v
def Ov (r c:Nat)(v:Int):Nat->Nat->List (List Int)->List (List Int)
 |0,_,X=>X
 |f+1,i,X=>Ov r c v f (i+1) (if i=r then X else X.set i (Qx v (enZ X r c) (enZ X i c) (gMZ X r) (gMZ X i)))
structure BZ where
 X:List (List Int)
 P:List Nat
 v:Int
 odd:Bool
def I0 (n c:Nat)(s:BZ):BZ :=
 if Iy s.X c (n-s.P.length) s.P.length=n then s
 else ⟨Ov s.P.length c s.v n 0 (if Iy s.X c (n-s.P.length) s.P.length=s.P.length then s.X else Kw s.X (Iy s.X c (n-s.P.length) s.P.length) s.P.length),s.P++[c],
  enZ s.X (Iy s.X c (n-s.P.length) s.P.length) c,if Iy s.X c (n-s.P.length) s.P.length=s.P.length then s.odd else !s.odd⟩
def Fm (n:Nat):Nat->Nat->BZ->BZ
 |0,_,s=>s
 |f+1,c,s=>Fm n f (c+1) (I0 n c s)
def Ac3 (X:List (List Int))(c:Nat):∀ f p,p<=Iy X c f p/\Iy X c f p<=p+f
 |0,p=>by simp[Iy]
 |f+1,p=>by
  unfold Iy;split
  ·have:=Ac3 X c f (p+1);omega
  omega
def Abg (X:List (List Int))(c:Nat):∀ f p i,p<=i->i<Iy X c f p->enZ X i c=0
 |0,p,i,h1,h2=>by simp[Iy]at h2;omega
 |f+1,p,i,h1,h2=>by
  unfold Iy at h2;split at h2
  ·rename_i h;by_cases e:i=p
   ·subst e;exact h
   exact Abg X c f (p+1) i oV h2
  omega
def Ade (X:List (List Int))(c:Nat):∀ f p,Iy X c f p<p+f->enZ X (Iy X c f p) c≠0
 |0,p,h=>by simp[Iy]at h
 |f+1,p,h=>by
  unfold Iy at h⊢;split at h
  ·rename_i h0;rw[if_pos h0];exact Ade X c f (p+1) oV
  rename_i h0;rw[if_neg h0];exact h0
def Lt {r:List Int}(h:E8 n w X)(hi:i<n)(g:r.length=w):E8 n w (X.set i r):=by
 refine⟨by simp[h.1],fun j e=>?_⟩;rw[Kv (by rw[h.1];exact hi)];split
 ·exact g
 exact h.2 j e
def Uh (h:E8 n w X)(hp:p<n)(e:r<n):E8 n w (Kw X p r) :=
 Lt (Lt h hp (h.2 r e)) e (h.2 p hp)
theorem Wz (h:E8 n w X)(hp:p<n)(g:r<n)(i:Nat):gMZ (Kw X p r) i=if i=r then gMZ X p else if i=p then gMZ X r else gMZ X i:=by
 unfold Kw;rw[Kv (by simp[h.1];exact g),Kv (by rw[h.1];exact hp)];by_cases e:r=i
 ·grind
 grind
def S2 (v a g:Int)(R row:List Int):(Qx v a g R row).length=row.length:=by simp[Qx]
def Acv (v a g:Int)(R row:List Int)(h:R.length=row.length)(j:Nat):gZ (Qx v a g R row) j=(gZ row j*a-g*gZ R j)/v:=by
 by_cases e:j<row.length
 ·unfold Qx;exact Abr _ e
 rw[Ado (by rw[S2];omega),Ado (l:=row) oV,Ado (l:=R) oV];simp
def Wu {n w r c:Nat}{v:Int}(e:r<n):∀ f i X,i+f<=n->E8 n w X->E8 n w (Ov r c v f i X)
 |0,i,X,_,h=>h
 |f+1,i,X,hf,h=>by
  unfold Ov;refine Wu e f (i+1) _ oV ?_;split
  ·exact h
  exact Lt h oV (by rw[S2];exact h.2 i oV)
def Ry {n w r c:Nat}{v:Int}(u:r<n):∀ f i X,i+f<=n->E8 n w X->∀ k,gMZ (Ov r c v f i X) k=if i<=k/\k<i+f/\k≠r then Qx v (enZ X r c) (enZ X k c) (gMZ X r) (gMZ X k) else gMZ X k
 |0,i,X,_,h,k=>by rw[if_neg oV];rfl
 |f+1,i,X,hf,h,k=>by
  unfold Ov;by_cases e:i=r
  ·rw[if_pos e,Ry u f (i+1) X oV h k];by_cases g:i+1<=k/\k<i+1+f/\k≠r
   ·rw[if_pos g,if_pos ⟨oV,oV,g.2.2⟩]
   rw[if_neg g,if_neg oV]
  have z:E8 n w (X.set i (Qx v (enZ X r c) (enZ X i c) (gMZ X r) (gMZ X i))):=Lt h oV (by rw[S2];exact h.2 i oV);have t:i<X.length:=by rw[h.1];omega
  rw[if_neg e,Ry u f (i+1) _ oV z k];unfold enZ;rw[Kv t,Kv t,if_neg e];by_cases g:i=k
  ·subst g;rw[if_neg oV,if_pos rfl,if_pos ⟨oV,oV,e⟩]
  rw[if_neg g];by_cases m:i+1<=k/\k<i+1+f/\k≠r
  ·rw[if_pos m,if_pos ⟨oV,oV,m.2.2⟩]
  rw[if_neg m,if_neg oV]
def Ag4 (n:Nat)(A R:Nat->Nat->Int):Prop:=∀ i,i<n->∃ j,j<n/\A i=R j
def Ag4.swap {A R:Nat->Nat->Int}(h:Ag4 n A R)(hp:p<n)(u:r<n):Ag4 n A (rsw R p r):=fun i hi=>by
 obtain⟨j,t,e⟩:=h i hi;by_cases m:j=p
 ·subst m;refine⟨r,u,?_⟩;unfold rsw;by_cases g:r=j
  ·rw[if_pos g,e,g]
  rw[if_neg g,if_pos rfl,e]
 by_cases g:j=r
 ·subst g;exact⟨p,hp,by unfold rsw;rw[if_pos rfl,e]⟩
 exact⟨j,t,by unfold rsw;rw[if_neg m,if_neg g,e]⟩
structure Ajv (n w:Nat)(A:Nat->Nat->Int)(c:Nat)(s:BZ):Prop where
 rc:E8 n w s.X
 len:s.P.length=c
 bar:∃ R,Ag4 n A R/\Ag4 n R A/\Bar n R (fun j=>j) c s.v (enZ s.X)
def Ajp {P Q:Nat->Nat}{v:Int}{S:Nat->Nat->Int}(h:Bar n R P r v S)(e:∀ j,j<r->P j=Q j):Bar n R Q r v S:=by
 refine⟨h.v0,?_,fun i hi k=>?_,fun i m u k=>?_⟩
 ·rw[<-h.d];exact Ih fun t z i _=>by rw[e t z]
 ·rw[<-h.lo i hi];exact Cr fun j g=>by rw[e j g]
 rw[h.hi i m u];congr 1;exact Cr fun j g=>by rw[e j g]
def Ker (n:Nat)(A:Nat->Nat->Int):Prop:=∃ y:Nat->Int,(∃ j,j<n/\y j≠0)/\∀ i,i<n->Ca n (fun j=>y j*A i j)=0
theorem Ajv.step {n w:Nat}{A:Nat->Nat->Int}{c:Nat}{s:BZ}(h:Ajv n w A c s)(z:c<n):Ajv n w A (c+1) (I0 n c s)\/(Ker n A/\I0 n c s=s):=by
 obtain⟨F,E,R,C,t,u⟩:=h;unfold I0;obtain⟨V,Z⟩:=Ac3 s.X c (n-s.P.length) s.P.length;have p3:=Abg s.X c (n-s.P.length) s.P.length;have p4:=Ade s.X c (n-s.P.length) s.P.length;generalize Iy s.X c (n-s.P.length) s.P.length=p at *
 rw[E]at V Z p3 p4⊢;by_cases e:p=n
 ·rw[if_pos e];refine .inr ⟨?_,rfl⟩;refine⟨fun j=>if j<c then enZ s.X j c else if j=c then-s.v else 0,⟨c,z,by simp;exact u.v0⟩,fun i hi=>?_⟩;obtain⟨J,T,O⟩:=C i hi;rw[O];have key:∀ m,m<=n->Ca m (fun j=>(if j<c then enZ s.X j c else if j=c then-s.v else 0)*R J j)=Ca (min m c) (fun j=>enZ s.X j c*R J j)+if c<m then-s.v*R J c else 0:=by
   intro m;induction m with
   |zero=>intro _;simp[Ca]
   |succ m ih =>
    intro hm;rw[Ca,ih oV];by_cases Q:m<c
    ·rw[if_pos Q,if_neg oV,if_neg oV,show min m c=m by omega,show min (m+1) c=m+1 by omega,Ca];omega
    grind
  rw[key n (A08 _),show min n c=c by omega,if_pos z];by_cases Q:J < c
  ·rw[u.lo J Q];grind
  have:=u.hi J oV T c;grind
 rw[if_neg e];have hp:p<n:=oV;refine .inl ?_;have g:E8 n w (if p=c then s.X else Kw s.X p c):=by
  split
  ·grind
  exact Uh F hp z
 have I:∀ i,gMZ (if p=c then s.X else Kw s.X p c) i=if i=c then gMZ s.X p else if i=p then gMZ s.X c else gMZ s.X i:=fun i=>by
  by_cases O:p=c
  ·grind
  rw[if_neg O];exact Wz F hp z i
 have L:enZ (if p=c then s.X else Kw s.X p c)=rsw (enZ s.X) p c:=by
  funext i k
  unfold enZ rsw;by_cases e2:i=p
  ·grind
  grind
 have H:=u.swap V hp;rw[<-L]at H;have U:enZ (if p=c then s.X else Kw s.X p c) c c=enZ s.X p c:=by unfold enZ;rw[I,if_pos rfl]
 generalize (if p=c then s.X else Kw s.X p c)=X1 at *
 have K:enZ X1 c c≠0:=by grind
 refine⟨Wu z n 0 X1 oV g,by simp[E],_,C.swap hp z,fun i hi=>by
  unfold rsw;split
  ·exact t c z
  split
  ·exact t p hp
  exact t i hi,?_⟩
 rw[<-U];have W:=fun i k hi N=>H.dvdAll z K i k hi N;have Y:=H.step z K (S':=enZ (Ov c c s.v n 0 X1)) (fun k=>by unfold enZ;rw[Ry z n 0 X1 oV g,if_neg oV]) (fun i hi N k=>by
  show s.v*gZ (gMZ (Ov c c s.v n 0 X1) i) k=_;rw[Ry z n 0 X1 oV g,if_pos ⟨oV,oV,N⟩,Acv _ _ _ _ _ (by rw[g.2 c z,g.2 i hi])];exact Int.mul_ediv_cancel' (W i k hi N))
 exact Ajp Y fun j hj=>by unfold Kc;dsimp only;split<;>omega
def Avz {n c:Nat}{s:BZ}:(I0 n c s).P.length<=s.P.length+1:=by
 unfold I0;split
 ·omega
 simp
def Ako {n:Nat}:∀ (f c:Nat) (s:BZ),(Fm n f c s).P.length<=s.P.length+f
 |0,c,s=>by simp[Fm]
 |f+1,c,s=>by
  unfold Fm;have:=Ako (n:=n) f (c+1) (I0 n c s);have:=Avz (n:=n) (c:=c) (s:=s);omega
def Aci {n w:Nat}{A:Nat->Nat->Int}:∀ (f c:Nat) (s:BZ),c+f=n->Ajv n w A c s->Ajv n w A n (Fm n f c s)\/(Ker n A/\(Fm n f c s).P.length<n)
 |0,c,s,h,hf=>.inl (by
  have:c=n:=oV;subst this;exact hf)
 |f+1,c,s,h,hf=>by
  unfold Fm;rcases hf.step oV with e|⟨e,g⟩
  ·exact Aci f (c+1) _ oV e
  refine .inr ⟨e,?_⟩;rw[g];have:=Ako (n:=n) f (c+1) s;have:=hf.len;omega
theorem Za (h:E8 n w X):((Fm n n 0 ⟨X,[],1,false⟩).P.length=n/\E8 n w (Fm n n 0 ⟨X,[],1,false⟩).X/\(Fm n n 0 ⟨X,[],1,false⟩).v≠0 /\
 ∀ i,i<n->∀ k,Ca n (fun j=>enZ (Fm n n 0 ⟨X,[],1,false⟩).X j k*enZ X i j)=(Fm n n 0 ⟨X,[],1,false⟩).v*enZ X i k) \/
 (Ker n (enZ X)/\(Fm n n 0 ⟨X,[],1,false⟩).P.length<n):=by
 have h0:Ajv n w (enZ X) 0 ⟨X,[],1,false⟩:=⟨h,rfl,enZ X,fun i hi=>⟨i,hi,rfl⟩,fun i hi=>⟨i,hi,rfl⟩,Bar.init n _ _⟩;rcases Aci n 0 _ oV h0 with ⟨m,u,R,z,_,t⟩|m
 ·refine .inl ⟨u,m,t.v0,fun i hi k=>?_⟩;obtain⟨C,g,e⟩:=z i hi;rw[e];exact t.lo C g k
 grind
def zs (K:Nat):Nat->Nat
 |0=>K
 |r+1=>2*zs K r+2
end
section
variable {a:Act}{d0:Deferred}{dl:List Deferred}{t:Array Value}
section
variable [Fl:Cl] {P:Program} {c:Cx} {s:S} {u m u' m':PH} {ρ:Nat->Nat} {w w':World}
def Rel.grow [Co](h:Rel c s u m ρ a w)(g1:Bv u' m' w')(g2:B0 u m w u' m' w'):Rel c s u' m' ρ a w':=by
 refine⟨h.sz,h.tm,h.df.of fun r e _ H z=>⟨by rw[g2.old _ (Aw e) z];exact e,by rw[g2.us _ (Aw e)];exact H,g2.ms _ (Aw e) z⟩,fun k b F=>?_,h.inj,h.lv,g1,h.gr.trans g2⟩;obtain⟨j,C,E,n⟩:=h.box k b F;have g:ρ k<w.heap.size:=by obtain⟨cs,e,_⟩:=j;exact Aw e
 refine⟨?_,C,?_,?_⟩
 ·rw[g2.old _ g n];exact j
 ·rw[g2.us _ g];exact E
 exact g2.ms _ g n
def Rel.grow0 (e:Rel c s u m ρ a w)(g1:Bv u' m' w')(g2:B0 u m w u' m' w'):Rel c s u' m' ρ a w':=e.grow g1 g2
def Rel.unbase [Bs:Co](e:Rel c s u m ρ { tmps:=t,defers:=d0::dl } w)(E:Bs.dl = [d0])(j:U3 d0=false):@Rel Fl Co.no c s u m ρ { tmps:=t,defers:=dl } w:=by
 refine @Rel.mk Fl Co.no c s u m ρ { tmps:=t,defers:=dl } w e.sz e.tm ?_ e.box e.inj e.lv e.gd e.gr;obtain⟨n,z,h,g,C⟩:=e.df;rw[A6x,if_neg (by simp[j])]at h;rw[A6x,if_pos (by simp[j]),E]at g;exact⟨n,z,h,(List.cons.inj g).2,C⟩
theorem Rel.rebase (e:Rel c s u m ρ { tmps:=t,defers:=dl } w)(z:U3 d0=false):@Rel Fl ⟨[d0]⟩ c s u m ρ { tmps:=t,defers:=d0::dl } w:=by
 refine @Rel.mk Fl ⟨[d0]⟩ c s u m ρ { tmps:=t,defers:=d0::dl } w e.sz e.tm ?_ e.box e.inj e.lv e.gd e.gr;obtain⟨h,j,C,g,n⟩:=e.df;refine⟨h,j,?_,?_,n⟩
 ·grind
 rw[A6x,if_pos (by simp[z]),g];rfl
def Rel.leavesV {fn:Func}{R:Ending->World->Prop}{t:Array Value}:∀ {dl:List Deferred} {w':World},Rel c s u m ρ { tmps:=t,defers:=dl } w' ->
 (∀ e,Rel c s u m ρ { tmps:=t,defers:=[] } e->∃ v,(results fn t).run P e=.ok v e/\R (.returned v) e)->LeavesInM Fence.wide 1 P fn t R dl .returning w'
 |[],w',hr,hv=>by
  obtain⟨v,g,h⟩:=hv w' hr;exact⟨v,g,h⟩
 |d::dl,w',hr,hv=>by
  obtain⟨r,n,g,h,j⟩:=hr.shut (P:=P) hr.marks;exact⟨mV,.inl ⟨r,n,g,h,Rel.leavesV j hv⟩⟩
def Rel.fin0 [A6 P]{fn:Func}{Post:Ce}{l:List Value}{e:PH}(h:Rel c s u m ρ a w)(j:T6 P s m fn.results.toList l)(g:PH.le e m)(n:Post.post (Pc l) u e):∃ v,(results fn a.tmps).run P w=.ok v w/\Ady c Post.post (.returned v) w :=
 ⟨_,Qo h j,_,_,_,rfl,(h.less g).gd,(h.less g).gr,n⟩
def Aix (P:Program)(f:FuncId)(args:List Value)(u m:PH)(K:PH->PH->Prop):Prop:=∀ w,Bv u m w->CallsDIn Fence.wide 0 P f args.toArray .returning w fun e md w'=>md=.returning/\∃ v u' m',e=.returned v/\Bv u' m' w'/\B0 u m w u' m' w'/\K u' m'
def Rel.leavesD [Bs:Co]{fn:Func}{R:Ending->World->Prop}{t:Array Value}{d0:Deferred}(g:Bs.dl = [d0]){fv:Fn}{cap:Array Value}{f:FuncId}{args:List Value}{K:PH->PH->Prop}(F:d0.target=.fn fv cap)
 (hi:∀ w,(invoke d0.target d0.args).run P w=.ok (.enter f args.toArray) w) (C:Aix P f args u m K)
 (E:∀ u' m' w',PH.le u u'->K u' m'->@Rel Fl Co.no c s u' m' ρ { tmps:=t,defers:=[] } w'->∃ v,(results fn t).run P w'=.ok v w'/\R (.returned v) w') :
 ∀ {dl:List Deferred} {w:World},Rel c s u m ρ { tmps:=t,defers:=dl } w->LeavesInM Fence.wide 1 P fn t R dl .returning w
 |[],w,hr=>by
  obtain⟨_,_,_,h,_⟩:=hr.df;rw[g]at h;cases h
 |d::dl,w,hr=>by
  cases hm:U3 d with
  |true =>
   obtain⟨r,w',I,J,L⟩:=hr.shut (P:=P) hm;exact⟨mV,.inl ⟨r,w',I,J,Rel.leavesD g F hi C E L⟩⟩
  |false =>
   have N:d=d0:=by
    obtain⟨_,_,_,h,_⟩:=hr.df;rw[A6x,if_pos (by simp[hm]),g]at h;exact (List.cons.inj h).1
   subst N;refine⟨mV,.inr ⟨(fun h=>by cases h),fv,cap,f,args.toArray,F,hi w,fun _ _=>trivial,?_⟩⟩;refine (C w hr.gd).mono ?_;rintro e O w' ⟨rfl,v,u',m',rfl,g1,g2,H⟩;have n:=Rel.grow0 (hr.unbase g hm) g1 g2;exact Rel.leavesV n fun z j=>E u' m' z (g2.le hr.gd.pu) H j
end
section
variable [Fl:Cl] {P:Program} [A6 P] {fn:Func} {Post:Ce} {st:List KI×S} {u m:PH}
def G.retD [Bs:Co]{d0:Deferred}(I:Bs.dl = [d0]){fv:Fn}{cap:Array Value}{f:FuncId}{args:List Value}{K:PH->PH->Prop}(N:d0.target=.fn fv cap)
 (hi:∀ w,(invoke d0.target d0.args).run P w=.ok (.enter f args.toArray) w) (h:Akf (adv P st)=true) (J:Aix P f args u m K)
 (n:∀ u' m',PH.le u u'->K u' m'->∃ l g,T6 P (adv P st).2 m' fn.results.toList l/\PH.le g m'/\Post.post (Pc l) u' g):G P fn Post st u m:=by
 refine G.stp ?_;generalize adv P st=st' at h n;obtain⟨O,s⟩:=st';have key:∀ c ρ a w,Rel c s u m ρ a w->Am4 P fn (Ady c Post.post) .ret a w/\Am4 P fn (Ady c Post.post) .normal a w:=by
  intro c ρ a w e;have:=Rel.leavesD (fn:=fn) (R:=Ady c Post.post) (t:=a.tmps) I N hi J (fun u' m' w' L H F=>by
   obtain⟨l,g,z,C,E⟩:=n u' m' L H;exact Rel.fin0 (a:=⟨a.tmps,[]⟩) F z C E) (dl:=a.defers) e
  exact⟨this,this⟩
 unfold Akf at h;simp only at h;split at h
 ·refine⟨?_⟩;intro c ρ a w j e;exact wp_ret (J6 (key c ρ a w e).1 _)
 ·refine⟨?_⟩;intro c ρ a w j e;exact (key c ρ a w e).2
 cases h
end
def Azk (s:S)(l:List KI):Option (Nat×Fn×List Value):=match l with
 |.code (.region _ ops false)::_=>match ops.toList with
  |[⟨some d,.makeFunc fn first caps,_,_,_,none⟩,⟨none,.defer c,_,_,_,none⟩]=>match c.callee with
   |.value (.tmp e)=>cond (Nat.beq d e&&Nat.beq first.size 0&&Nat.beq c.args.size 0&&Nat.blt d s.n&&caps.toList.all fun x=>isV (s.ev x)) (some (d,fn,caps.toList.map (C2 s))) none
   |_=>none
  |_=>none
 |_=>none
def Ax3 (l:List KI):List KI:=match l with|_::k=>k|[]=>[]
def Zs (fn:Fn)(vs:List Value):Deferred:={ target:=.fn fn vs.toArray,args:=#[] }
section
variable [Fl:Cl] {P:Program} [A6 P] {fnc:Func} {Post:Ce} {st:List KI×S} {u m:PH}
def Axj:List KI->Bool
 |[]=>true
 |.lp _::_=>false
 |_::k=>Axj k
def O6 (e g:Co)(c:Cx):∀ j:List KI,Axj j=true->@It Fl e P fnc Post c j=@It Fl g P fnc Post c j
 |[],_=>rfl
 |.code x::k,h=>by simp only[It];rw[O6 e g c k h]
 |.blk id::k,h=>by simp only[It];rw[O6 e g c k h]
 |.reg _ _ _ _::k,h=>by simp only[It];rw[O6 e g c k h]
 |.lp _::_,h=>by cases h
def G.outC [Bs:Co]{e:List KI}{s:S}(h:G P fnc Post (e,s) u m)(g:F2 e=true):Hm P fnc Post e s u m:=by
 have:=h.out;rwa[Sym.ofNo g]at this
def G.go (n:Nat)(k:G P fnc Post (run P n st) u m):G P fnc Post st u m:=⟨Tp A6.mx n st k.out⟩
theorem G.off {d:Nat}{fn:Fn}{vs:List Value}(h:Azk st.2 st.1=some (d,fn,vs))(W:F2 (Ax3 st.1)=true)(F:Axj (Ax3 st.1)=true)(k:@G Fl Pu.no ⟨[Zs fn vs]⟩ P fnc Post (Ax3 st.1,st.2.put (some d) (.v (.func fn #[] vs.toArray))) u m):G P fnc Post st u m:=by
 obtain⟨Z,s⟩:=st;unfold Azk at h;simp only at h;split at h
 ·rename_i id ops kk;split at h
  ·rename_i d' fn' first caps ty pos af c ty2 pos2 af2 hops
   split at h
   ·rename_i e hc;cases hb:(Nat.beq d' e&&Nat.beq first.size 0&&Nat.beq c.args.size 0&&Nat.blt d' s.n&&caps.toList.all fun x=>isV (s.ev x)) with
    |false=>grind
    |true =>
     rw[hb]at h;simp only[cond_true,A1f,A2i]at h;obtain⟨rfl,rfl,rfl⟩:=h;simp only[A1m]at hb;obtain⟨⟨⟨⟨z,L⟩,C⟩,N⟩,O⟩:=hb;have z:=A1y z;subst z;have L:first = #[]:=A4s (A1y L)
     have C:c.args = #[]:=A4s (A1y C);have N:d' < s.n:=by simp_all
     rw[A1o]at O;have V:=G.outC (Bs:=⟨[Zs fn' (caps.toList.map (C2 s))]⟩) k W;refine⟨?_⟩;intro K ρ a w H Q;refine wp_region ?_;have X:ops = #[⟨some d',.makeFunc fn' #[] caps,ty,pos,af,none⟩,⟨none,.defer c,ty2,pos2,af2,none⟩]:=by grind
     subst X;have E:caps.map a.eval=(caps.toList.map (C2 s)).toArray:=by
      apply A6j;simp only[Array.toList_map];refine A41 fun x Y=>?_;have j:=O x Y;unfold C2;cases e:s.ev x with
      |v y=>rw[Q.eval x (by rw[e];simp),e];rfl
      |junk=>rw[e]at j;cases j
      |p i o=>rw[e]at j;cases j
     have g:=Rel.put (x:=.v (.func fn' #[] (caps.toList.map (C2 s)).toArray)) (d:=some d') (y:=.func fn' #[] (caps.toList.map (C2 s)).toArray) Q (fun _=>rfl) mV (fun e U=>by cases U;exact N);have R:(execOp a.eval ⟨some d',.makeFunc fn' #[] caps,ty,pos,af,none⟩).run P w=.ok (.value (.func fn' #[] (caps.toList.map (C2 s)).toArray)) w:=by
      have:(execOp a.eval ⟨some d',.makeFunc fn' #[] caps,ty,pos,af,none⟩).run P w=.ok (.value (.func fn' #[] (caps.map a.eval))) w:=by
       have I:∀ (fn:Fn) (first cap:Array Value) (w:World),(Instr.makeFunc fn first cap).run P w=.ok (.func fn first cap) w:=fun _ _ _ _=>rfl
       simp[execOp,I]
      rw[this,E]
     have T:(execOp (a.put (some d') (.func fn' #[] (caps.toList.map (C2 s)).toArray)).eval ⟨none,.defer c,ty2,pos2,af2,none⟩).run P w=.ok (.defer (Zs fn' (caps.toList.map (C2 s)))) w:=by
      have j:=g.eval (.tmp d') (by show (s.put (some d') _).tm d'≠_;rw[Az];simp);rw[show (s.put (some d') (.v (.func fn' #[] (caps.toList.map (C2 s)).toArray))).ev (.tmp d')=.v (.func fn' #[] (caps.toList.map (C2 s)).toArray) from Az _ _ _]at j;simp[execOp,resolve,hc,j,C,SV.den,Deferred.ofValue,Zs]
     have J:=Rel.rebase (t:=(a.put (some d') (.func fn' #[] (caps.toList.map (C2 s)).toArray)).tmps) (dl:=(a.put (some d') (.func fn' #[] (caps.toList.map (C2 s)).toArray)).defers) g (d0:=Zs fn' (caps.toList.map (C2 s))) rfl;refine .inl ?_;show Oper.upon P ⟨some d',.makeFunc fn' #[] caps,ty,pos,af,none⟩ a _ _ ((execOp a.eval ⟨some d',.makeFunc fn' #[] caps,ty,pos,af,none⟩).run P w);rw[R,Oper.upon_value];refine .inl ?_;show Oper.upon P ⟨none,.defer c,ty2,pos2,af2,none⟩ (a.put (some d') (.func fn' #[] (caps.toList.map (C2 s)).toArray)) _ _ ((execOp (a.put (some d') (.func fn' #[] (caps.toList.map (C2 s)).toArray)).eval ⟨none,.defer c,ty2,pos2,af2,none⟩).run P w);rw[T,Oper.upon_defer];have:=V K ρ _ w H J;rw[O6 _ Co.no K _ F]at this;exact this
   cases h
  cases h
 cases h
end
end
section
variable {E c c' i k n n' w:Nat}{R Y q:List Int}{X:List (List Int)}{a a':Option Addr}{cs es:List Value}{o p s:Arr}{r:Value×List Value}{rows:List (Value×List Value)}{u:PH}{v:Value}
def C3 (r:Value×List Value):Arr:=⟨r.1,141,2,r.2⟩
def oN (v:Value)(rows:List (Value×List Value)):Arr:=⟨v,190,1,rows.map (·.1)⟩
def Ack {m0 m:PH}:(C3 r).At m0 m=Af m0 m r.1 141 2 r.2:=rfl
def Akm {m0 m:PH}:(oN v rows).At m0 m=Af m0 m v 190 1 (rows.map (·.1)):=rfl
def Aq8 {x:Value}{es es':List Value}(h:rows[i]?=some (x,es)):oN v (rows.set i (x,es'))=oN v rows:=by
 unfold oN;rw[Un (r':=(x,es')) h rfl]
def F8 (h:rows[i]?=some r):(s::p::o::rows.map C3)[i+3]?=some (C3 r):=by simp[h]
def Afy :(s::p::o::rows.map C3).set (i+3) (C3 r)=s::p::o::(rows.set i r).map C3:=by
 rw[A2j,A2j,A2j,A2g]
structure N3 where
 b:Bool
 a:Option Addr
 n:Nat
 c:Nat
def nv (f:N3):Value:=.agg #[.bool f.b,.slice f.a f.n f.c]
def Age (f:N3):List SV:=[.v (.bool f.b),.v (.slice f.a f.n f.c)]
def Bi.opN {z:Int}(h:Bi u v z):∃ f,v=nv f:=by
 obtain⟨b,a,n,c,rfl⟩:=h.opn;exact⟨⟨b,a,n,c⟩,rfl⟩
def NAt (u:PH)(rows:List (Value×List Value))(X:List (List Int)):Prop:=rows.length=X.length/\∀ (i:Nat) (r:Value×List Value),rows[i]?=some r->AtP Bi u r.2 (gMZ X i)
def NAt.mono {u e:PH}{rows:List (Value×List Value)}{X:List (List Int)}(h:NAt u rows X)(j:PH.le u e):NAt e rows X:=⟨h.1,fun i r t=>(h.2 i r t).mono (fun _ _ k=>k.mono j)⟩
def NAt.set (h:NAt u rows X)(hi:i<rows.length)(z:AtP Bi u r.2 q):NAt u (rows.set i r) (X.set i q):=by
 refine⟨by simp[h.1],fun j r' t=>?_⟩;rw[Kv (by rw[<-h.1];exact hi)];rw[A1z]at t;by_cases e:i=j
 ·subst e;rw[if_pos rfl,if_pos hi]at t;simp only[A1f]at t;rw[if_pos rfl,<-t];exact z
 rw[if_neg e]at t⊢;exact h.2 j r' t
theorem Ara (i:Nat):gMZ (X++[q]) i=if i<X.length then gMZ X i else if i=X.length then q else []:=by
 unfold gMZ;rw[A02,A02];by_cases h:i<X.length
 ·rw[A1r h,if_pos h]
 ·rw[if_neg h];by_cases e:i=X.length
  ·subst e;rw[if_pos rfl];simp
  ·rw[if_neg e,A1v gV];rfl
def NAt.snoc (h:NAt u rows X)(j:AtP Bi u r.2 q):NAt u (rows++[r]) (X++[q]):=by
 refine⟨by simp[h.1],fun i r' hi=>?_⟩;rw[Ara];by_cases e:i<rows.length
 ·rw[A1r e]at hi;rw[if_pos (by rw[<-h.1];exact e)];exact h.2 i r' hi
 rw[A18 oV]at hi;have t:i-rows.length=0:=by
  rcases A2a (i-rows.length) with h0|h0
  ·exact h0
  rw[A1v gV]at hi;cases hi
 rw[t]at hi;simp at hi;subst hi;rw[if_neg (by rw[<-h.1];omega),if_pos (by rw[<-h.1];omega)];exact j
def E9 (rv pv:Value)(f:N3)(odd:Bool):List Value:=[rv,pv,.bool f.b,.slice f.a f.n f.c,.bool odd]
def Jv (g:Nat)(cs:List Value):Arr:=⟨.slice (some ⟨g,0,none⟩) 5 5,192,1,cs⟩
def V3 {g:Nat}{m0 m:PH}:(Jv g cs).At m0 m=Af m0 m (.slice (some ⟨g,0,none⟩) 5 5) 192 1 cs:=rfl
def Ap1 (h:∀ x∈es,Ax x=true/\x.cells = #[x]):A9 1 es:=fun x z=>by
 obtain⟨j,t⟩:=h x z;rw[t];exact⟨rfl,fun y e=>by simp at e;subst e;exact j⟩
def Akd {f:N3}{odd:Bool}:A9 1 (E9 (.slice a n c) (.slice a' n' c') f odd):=Ap1 (by
 intro x e;simp only[E9,A1g,A11,or_false]at e;rcases e with rfl|rfl|rfl|rfl|rfl<;>exact⟨rfl,rfl⟩)
def Lz (h:∀ x∈es,x.cells = #[x]):A2 es=es:=by
 induction es with
 |nil=>rfl
 |cons e es ih =>
  unfold A2 at ih⊢;rw[A6o,ih (fun x j=>h x (A2f _ j)),h e mV];rfl
def Sa {f:N3}{odd:Bool}:∀ x∈E9 (.slice a n c) (.slice a' n' c') f odd,x.cells = #[x]:=by
 intro x e;simp only[E9,A1g,A11,or_false]at e;rcases e with rfl|rfl|rfl|rfl|rfl<;>rfl
def Ae9 {m:PH}{g:Nat}{f:N3}{odd:Bool}(e:m g=none):(Jv g (E9 (.slice a n c) (.slice a' n' c') f odd)).At m (m.upd g (.cells (E9 (.slice a n c) (.slice a' n' c') f odd).toArray 192 (0,0))):=by
 rw[V3];refine⟨Akd,.inr ⟨g,5,[],e,?_,rfl,by simp[E9],by rw[Lz Sa];simp[E9],mV⟩⟩;rw[Lz Sa,A1x]
def Aqq {m0 m:PH}{g:Nat}(h:(Jv g cs).At m0 m)(C:∀ x∈cs,x.cells = #[x])(I:cs.length=5):m0 g=none/\m=m0.upd g (.cells cs.toArray 192 (0,0)):=by
 rw[V3]at h;rcases h.2 with ⟨h,_,_⟩|⟨H,cap,rest,z,e,j,F,t,_⟩
 ·cases h
 simp only[Value.slice.injEq,A1f,Addr.mk.injEq]at j;obtain⟨⟨rfl,_,_⟩,_,rfl⟩:=j;rw[Lz C]at e t;have:rest = []:=by
  refine A2l ?_;rw[A1d]at t;omega
 subst this;rw[A1x]at e;exact⟨z,e⟩
section
variable {m:PH} {g:Nat} {l:List Arr} {rv pv:Value} {f:N3} {odd:Bool}
def Ev (h:Bag m (Jv g (E9 rv pv f odd)::l)):ElP m g (0+0) rv:=h.el (j:=0) 0 (x:=Jv g (E9 rv pv f odd)) rfl rfl rfl
def Ab4 (h:Bag m (Jv g (E9 rv pv f odd)::l)):ElP m g (0+1) pv:=h.el (j:=1) 0 (x:=Jv g (E9 rv pv f odd)) rfl rfl rfl
def Ak7 (h:Bag m (Jv g (E9 rv pv f odd)::l)):ElP m g (0+4) (.bool odd):=h.el (j:=4) 0 (x:=Jv g (E9 rv pv f odd)) rfl rfl rfl
def Al1 (h:Bag m (Jv g (E9 rv pv f odd)::l)):ElP m g (0+2) (nv f):=by
 have e:ElP m g (0+2*1) (.bool f.b):=h.el (j:=2) 0 (x:=Jv g (E9 rv pv f odd)) rfl rfl rfl;have t:ElP m g (0+3*1) (.slice f.a f.n f.c):=h.el (j:=3) 0 (x:=Jv g (E9 rv pv f odd)) rfl rfl rfl;intro i x hi
 match i,hi with
 |0,hi=>exact e 0 x hi
 |1,hi=>exact t 0 x hi
end
def Ur {u m:PH}{g n c w i:Nat}(z:Bag m (s::p::oN (.slice (some ⟨g,0,none⟩) n c) rows::rows.map C3))(O:NAt u rows X)(L:E8 n w X)(hi:i<n)(U:0<w) :
 ∃ H J F,rows[i]?=some (.slice (some ⟨H,0,none⟩) w J,F)/\F.length=w/\AtP Bi u F (gMZ X i)/\ElP m g (0+i*1) (.slice (some ⟨H,0,none⟩) w J)/\∀ j,j<w->∃ f,F[j]?=some (nv f)/\Bi u (nv f) (enZ X i j)/\ElP m H (0+j*2) (nv f):=by
 have T:rows.length=n:=by rw[O.1,L.1]
 have h:rows[i]?=some rows[i]:=A01 oV;have t:=O.2 i _ h;obtain⟨⟨V,F⟩,P⟩:∃ x,rows[i]=x:=⟨_,rfl⟩;rw[P]at h t;simp only at t;have C:F.length=w:=by rw[t.1,L.2 i hi]
 obtain⟨H,J,e⟩:=z.ptr (i+3) (F8 h) (by intro e;simp only[C3]at e;rw[e]at C;simp at C;omega);simp only[C3]at e;rw[C]at e;subst e;refine⟨H,J,F,h,C,t,z.el 2 (x:=oN _ rows) rfl rfl (by show (rows.map (·.1))[i]?=_;rw[A1a,h];rfl),fun j Q=>?_⟩;have I:j<(gMZ X i).length:=by rw[L.2 i hi];exact Q
 obtain⟨e,N,K⟩:=t.at I;obtain⟨f,rfl⟩:=K.opN;rw[<-Ol I]at K;exact⟨f,N,K,z.el (i+3) (x:=C3 _) (F8 h) rfl N⟩
def Vp (Y R:List Int)(k:Nat):List Int:=Y.take k++R.drop k
def Amf (Y R:List Int):Vp Y R 0=R:=by simp[Vp]
def Asz (h:Y.length=k)(e:R.length=k):Vp Y R k=Y:=by
 unfold Vp;rw[A1j oV,A2b oV,A1x]
def Ape (h:Y.length=R.length)(e:k<=R.length):(Vp Y R k).length=R.length:=by simp[Vp];omega
def Aov (h:Y.length=R.length)(e:k<R.length):(Vp Y R k).set k (gZ Y k)=Vp Y R (k+1):=by
 unfold Vp;rw[A4t _ _ gV];simp only[A1e];rw[show k-min k Y.length=0 by omega,A5z e,A2p,M2 oV,A2k,Ol oV];rfl
def Atr (h:Y.length=R.length)(e:k<R.length):gZ (Vp Y R k) k=gZ R k:=by
 unfold Vp gZ;rw[A02,A18 gV,A02];simp only[A1e];rw[show k-min k Y.length=0 by omega,A39];rfl
def SzZ (X:List (List Int))(E:Nat):Prop:=∀ i j,nl (enZ X i j).natAbs<=E
def SzZ.mono {E e:Nat}(h:SzZ X E)(t:E<=e):SzZ X e:=fun i j=>A04 (h i j) t
def Vw {v a g x y:Int}(t:nl a.natAbs<=E)(z:nl g.natAbs<=E)(C:nl x.natAbs<=E)(F:nl y.natAbs<=E):nl (x*a).natAbs<=2*E/\nl (g*y).natAbs<=2*E/\nl (x*a-g*y).natAbs<=2*E+1/\nl ((x*a-g*y)/v).natAbs<=2*E+1:=by
 have e:=Bx C t;have h:=Bx z F;have j:=Ab3 e h;exact⟨e,h,j,A04 (C4 (Int.natAbs_ediv_le_natAbs _ _)) j⟩
def SzZ.swap {n w p r E:Nat}(h:SzZ X E)(e:E8 n w X)(hp:p<n)(t:r<n):SzZ (Kw X p r) E:=fun i j=>by
 unfold enZ;rw[Wz e hp t];split
 ·exact h p j
 split
 ·exact h r j
 exact h i j
def SzZ.row {n w r c i E:Nat}{v:Int}(h:SzZ X E)(e:E8 n w X)(t:r<n)(hi:i<n)(j:Nat):nl (gZ (Qx v (enZ X r c) (enZ X i c) (gMZ X r) (gMZ X i)) j).natAbs<=2*E+1:=by
 rw[Acv _ _ _ _ _ (by rw[e.2 r t,e.2 i hi])];exact (Vw (h r c) (h i c) (h i j) (h r j)).2.2.2
def SzZ.clr {n w r c E:Nat}{v:Int}(h:SzZ X E)(e:E8 n w X)(t:r<n):SzZ (Ov r c v n 0 X) (2*E+1):=fun i j=>by
 unfold enZ;rw[Ry t n 0 X oV e];split
 ·rename_i h1;exact h.row e t oV j
 exact A04 (h i j) oV
def Al2 {s:BZ}(h:SzZ s.X E)(H:nl s.v.natAbs<=E)(t:E8 n w s.X)(F:s.P.length<=n):SzZ (I0 n c s).X (2*E+1)/\nl (I0 n c s).v.natAbs<=2*E+1/\E8 n w (I0 n c s).X/\(I0 n c s).P.length<=n/\(s.v≠0->(I0 n c s).v≠0):=by
 obtain⟨J,K⟩:=Ac3 s.X c (n-s.P.length) s.P.length;have I:=Ade s.X c (n-s.P.length) s.P.length;unfold I0;generalize Iy s.X c (n-s.P.length) s.P.length=p at *
 split
 ·exact⟨h.mono oV,A04 H oV,t,F,id⟩
 rename_i e;have hp:p<n:=oV;have z:s.P.length<n:=oV;have j:E8 n w (if p=s.P.length then s.X else Kw s.X p s.P.length):=by
  split
  ·exact t
  exact Uh t hp z
 have C:SzZ (if p=s.P.length then s.X else Kw s.X p s.P.length) E:=by
  split
  ·exact h
  exact h.swap t hp z
 exact⟨C.clr j z,A04 (h p c) oV,Wu z n 0 _ oV j,gV,fun _=>I oV⟩
end
structure E3 where
 rows:List (Value×List Value)
 X:List (List Int)
 odd:Bool
def Awx {z:Int}:sgn z=0↔z=0:=by unfold sgn;split<;>(try split)<;>omega
def Ax8 {u m:PH}{g go H n w c E:Nat}{z:List (Value×List Value)}{K:List (List Int)}{P:List Nat}{pa:Option Addr}{pc:Nat}{f0:N3}{t:Bool}{v:Int}
 (T:E8 n w K) (hn:n<=100) (hw:w<=100) (hc:c<w) (hP:P.length<=n) (h0:0<n) (a2:SzZ K E) (hv:Bi u (nv f0) v) (d3:nl v.natAbs<=E) (d1:v≠0) (hE:E<=1000000000) (az:NAt u z K)
 (h:Bag m (Jv g (E9 (.slice (some ⟨go,0,none⟩) n H) (.slice pa P.length pc) f0 t)::Np (.slice pa P.length pc) P::oN (.slice (some ⟨go,0,none⟩) n H) z::z.map C3)) :
 Ag prog 194 [.pointer (some ⟨g,0,none⟩),.int .i64 c] u m fun r u' m'=>r=.tuple #[]/\∃ cd ce f' a1,NAt u' a1 (I0 n c ⟨K,P,v,t⟩).X/\Bi u' (nv f') (I0 n c ⟨K,P,v,t⟩).v /\
  Bag m' (Jv g (E9 (.slice (some ⟨go,0,none⟩) n H) (.slice cd (I0 n c ⟨K,P,v,t⟩).P.length ce) f' (I0 n c ⟨K,P,v,t⟩).odd)::Np (.slice cd (I0 n c ⟨K,P,v,t⟩).P.length ce) (I0 n c ⟨K,P,v,t⟩).P::oN (.slice (some ⟨go,0,none⟩) n H) a1::a1.map C3):=by
 have af:0<w:=oV;refine Ag.o func194<|G.f 192 g 0 1 1<|G.lM none g (0+1) (.slice pa P.length pc) (Ab4 h)<|G.l (ι:=Nat) (fun p=>[(0,.v (.pointer (some ⟨g,0,none⟩))),(1,iV c),(4,iV P.length),(5,iV p)]) (fun _=>[])
  (fun p u' m'=>P.length<=p/\p<=n/\Iy K c (n-p) p=Iy K c (n-P.length) P.length/\m'=m) (fun p=>n-p) P.length ⟨A08 _,hP,rfl,rfl⟩ ?_
 rintro J2 p bh u3 m3 l3 ⟨dm,dp,a6,rfl⟩;have J:=az.mono l3;refine G.f 192 g 0 0 0<|G.lM none g (0+0) (.slice (some ⟨go,0,none⟩) n H) (Ev h) ?_;by_cases V:n<=p
 ·obtain rfl:p=n:=oV;refine G.lF p p<|G.f 192 g 0 0 0<|G.lM none g (0+0) (.slice (some ⟨go,0,none⟩) p H) (Ev h)<|G.hT p p ?_;have e:I0 p c ⟨K,P,v,t⟩=⟨K,P,v,t⟩:=by
   unfold I0;rw[if_pos];show Iy K c (p-P.length) P.length=p;rw[<-a6,A4i];rfl
  refine G.r (.tuple #[]) ?_;rw[e];exact⟨rfl,pa,pc,f0,z,J,hv.mono l3,h⟩
 have V:p<n:=oV;refine G.lT p n ?_;obtain⟨K2,bj⟩:∃ K2,n-p=K2+1:=⟨n-p-1,oV⟩;obtain⟨gp,cp,ep,bw,cz,bg,aa,bs⟩:=Ur h J T V af;obtain⟨fp,cy,bt,bu⟩:=bs c hc;refine G.f 192 g 0 0 0<|G.lM none g (0+0) (.slice (some ⟨go,0,none⟩) n H) (Ev h)<|G.a go 0 n H p 1 V<|G.lM none go (0+p*1) _ aa<|G.a gp 0 w cp c 2 hc<|G.lM (some 2) gp (0+c*2) (nv fp) bu<|G.c call195 (N1 bt (A04 (a2 p c) oV)) ?_;rintro v4 u4 l4 rfl;by_cases hz:enZ K p c=0
 ·refine G.eT' (sgn (enZ K p c)) 0 (Awx.2 hz)<|G.i p<|G.b (bh (p+1) _ _ _ cV (l3.trans l4) ⟨oV,oV,?_,rfl⟩ oV);rw[<-a6,bj,Iy,if_pos hz,show n-(p+1)=K2 by omega]
 refine G.eF' (sgn (enZ K p c)) 0 (fun e=>hz (Awx.1 e)) ?_;rw[bj,Iy,if_neg hz]at a6;clear bh;have N:P.length<n:=oV;refine G.f 192 g 0 0 0<|G.lM none g (0+0) (.slice (some ⟨go,0,none⟩) n H) (Ev h)<|G.hF p n<|G.join (ι:=E3) (.bool false) (fun i=>[(0,.v (.pointer (some ⟨g,0,none⟩))),(1,iV c),(4,iV P.length)]) (fun i=>[])
  (fun i u' m'=>i.X=(if p=P.length then K else Kw K p P.length)/\i.odd=(if p=P.length then t else !t)/\NAt u' i.rows i.X/\Bag m' (Jv g (E9 (.slice (some ⟨go,0,none⟩) n H) (.slice pa P.length pc) f0 i.odd)::Np (.slice pa P.length pc) P::oN (.slice (some ⟨go,0,none⟩) n H) i.rows::i.rows.map C3)) (fun _=>kV) kV ?tail ?way
 case way =>
  intro a9;by_cases an:p=P.length
  ·refine G.nF p P.length ?_;exact a9 ⟨z,K,t⟩ _ _ _ kV cV (PH.le_refl _) ⟨by rw[if_pos an],by rw[if_pos an],J.mono l4,h⟩
  refine G.nT p P.length ?_;obtain⟨gr,cr,er,bb,au,aw,am,b2⟩:=Ur h J T N af;refine G.f 192 g 0 0 0<|G.lM none g (0+0) (.slice (some ⟨go,0,none⟩) n H) (Ev h)<|G.f 192 g 0 0 0<|G.lM none g (0+0) (.slice (some ⟨go,0,none⟩) n H) (Ev h)<|G.f 192 g 0 0 0<|G.lM none g (0+0) (.slice (some ⟨go,0,none⟩) n H) (Ev h)<|G.a go 0 n H P.length 1 N<|G.lM none go (0+P.length*1) _ am<|G.f 192 g 0 0 0<|G.lM none g (0+0) (.slice (some ⟨go,0,none⟩) n H) (Ev h)<|G.a go 0 n H p 1 V<|G.lM none go (0+p*1) _ aa ?_;obtain⟨m0,ag,ab⟩:=h.focus 2 rfl;rw[Akm]at ag;have db:z.length=n:=by rw[az.1,T.1]
  refine G.a go 0 n H p 1 V<|G.storeA 1 m0 _ go n H p (.slice (some ⟨gr,0,none⟩) w cr) kV ag gV rfl rfl ?_;intro m5 d5;refine G.a go 0 n H P.length 1 N<|G.storeA 1 m0 _ go n H P.length (.slice (some ⟨gp,0,none⟩) w cp) kV d5 gV rfl rfl ?_;intro m6 c4;have ba:((z.map (·.1)).set p (Value.slice (some ⟨gr,0,none⟩) w cr)).set P.length (Value.slice (some ⟨gp,0,none⟩) w cp)=((z.set p (Value.slice (some ⟨gr,0,none⟩) w cr,er)).set P.length (Value.slice (some ⟨gp,0,none⟩) w cp,ep)).map (·.1):=by rw[A2g,A2g]
  rw[ba]at c4;have cl:=ab (oN (.slice (some ⟨go,0,none⟩) n H) ((z.set p (Value.slice (some ⟨gr,0,none⟩) w cr,er)).set P.length (Value.slice (some ⟨gp,0,none⟩) w cp,ep))) m6 c4;have b5:((z.set p (Value.slice (some ⟨gr,0,none⟩) w cr,er)).set P.length (Value.slice (some ⟨gp,0,none⟩) w cp,ep)).Perm z:=by
   obtain⟨q1,q2⟩:=A05.1 bw;obtain⟨q3,q4⟩:=A05.1 bb;rw[<-q2,<-q4];exact List.set_set_perm q1 q3
  have bq:=Bag.perm (List.Perm.cons _ (List.Perm.cons _ (List.Perm.cons _ (b5.symm.map C3)))) cl;have Z:=(J.set (i:=p) (r:=(Value.slice (some ⟨gr,0,none⟩) w cr,er)) oV aw).set (i:=P.length) (r:=(Value.slice (some ⟨gp,0,none⟩) w cp,ep)) gV bg;refine G.f 192 g 0 3 4<|G.lM none g (0+4) (.bool t) (Ak7 bq)<|G.f 192 g 0 3 4 ?_;obtain⟨m7,c5,b9⟩:=bq.focus 0 rfl;rw[V3]at c5;refine G.storeA 1 m7 _ g 5 5 4 (.bool !t) kV c5 (by simp[E9]) rfl rfl ?_;intro m8 d6;have cm:=b9 (Jv g (E9 (.slice (some ⟨go,0,none⟩) n H) (.slice pa P.length pc) f0 (!t))) m8 d6;exact a9 ⟨(z.set p (Value.slice (some ⟨gr,0,none⟩) w cr,er)).set P.length (Value.slice (some ⟨gp,0,none⟩) w cp,ep),Kw K p P.length,!t⟩ _ _ _ kV cV (PH.le_refl _) ⟨by rw[if_neg an],by rw[if_neg an],Z.mono l4,cm⟩
 rintro⟨rows1,X1,odd1⟩ u5 m5 l5 ⟨hX1e,hod,Z,hbag1⟩;simp only at hX1e hod Z hbag1;have ak:E8 n w X1:=by
  rw[hX1e];split
  ·exact T
  exact Uh T V N
 have ae:SzZ X1 E:=by
  rw[hX1e];split
  ·exact a2
  exact a2.swap T V N
 have bm:enZ X1 P.length c=enZ K p c:=by
  rw[hX1e];split
  ·rename_i e;rw[e]
  unfold enZ;rw[Wz T V N,if_pos rfl]
 have ad:I0 n c ⟨K,P,v,t⟩=⟨Ov P.length c v n 0 X1,P++[c],enZ X1 P.length c,odd1⟩:=by
  unfold I0;rw[if_neg (by show ¬ Iy K c (n-P.length) P.length=n;rw[<-a6];omega),bm,hod,hX1e];show BZ.mk _ _ _ _=_;simp only[<-a6]
 rw[ad];clear ad hX1e h az J bw cz bg aa bs cy bt bu a6 a2 T;have d2:=hv.mono ((l3.trans l4).trans l5);have dq:rows1.length=n:=by rw[Z.1,ak.1]
 obtain⟨gr,cr,er,bb,au,aw,am,b2⟩:=Ur hbag1 Z ak N af;obtain⟨fr,h5,h6,h7⟩:=b2 c hc;obtain⟨R,hR⟩:∃ R,R=gMZ X1 P.length:=⟨_,rfl⟩;have di:R.length=w:=by rw[hR];exact ak.2 _ N
 obtain⟨F,hF⟩:∃ F,F=enZ X1 P.length c:=⟨_,rfl⟩;have ax:nl F.natAbs<=E:=by rw[hF];exact ae _ _
 have b0:∀ j,nl (gZ R j).natAbs<=E:=fun j=>by rw[hR];exact ae _ j
 rw[<-hF]at h6⊢;have cj:gZ R c=F:=by rw[hR,hF];rfl
 refine G.f 192 g 0 0 0<|G.lM none g (0+0) (.slice (some ⟨go,0,none⟩) n H) (Ev hbag1)<|G.a go 0 n H P.length 1 N<|G.lM none go (0+P.length*1) _ am<|G.a gr 0 w cr c 2 hc<|G.lM (some 2) gr (0+c*2) (nv fr) h7<|G.f 192 g 0 0 0<|G.lM none g (0+0) (.slice (some ⟨go,0,none⟩) n H) (Ev hbag1)<|G.l (ι:=Nat×List (Value×List Value)×List (List Int)) (fun i=>[(0,.v (.pointer (some ⟨g,0,none⟩))),(1,iV c),(4,iV P.length),(6,.p 8010 0),(97,sV (some ⟨go,0,none⟩) n H),(98,iV n),(99,iV i.1)]) (fun i=>[(8010,⟨141,Age fr⟩)])
  (fun i u' m'=>i.1<=n/\Ov P.length c v (n-i.1) i.1 i.2.2=Ov P.length c v n 0 X1/\E8 n w i.2.2/\gMZ i.2.2 P.length=R/\(∀ x j,i.1<=x->nl (enZ i.2.2 x j).natAbs<=E)/\NAt u' i.2.1 i.2.2 /\
   Bag m' (Jv g (E9 (.slice (some ⟨go,0,none⟩) n H) (.slice pa P.length pc) f0 odd1)::Np (.slice pa P.length pc) P::oN (.slice (some ⟨go,0,none⟩) n H) i.2.1::i.2.1.map C3))
  (fun i=>n-i.1) (0,rows1,X1) ⟨A1t _,rfl,ak,hR.symm,fun x j _=>ae x j,Z,hbag1⟩ ?_
 clear Z hbag1 bb au aw am b2 h5 h7;rintro J4 ⟨i,C,X3⟩ ay u8 m8 l8 ⟨hi,a8,U,O,W,J,I⟩;simp only at hi a8 U O W J I ay;have d0:C.length=n:=by rw[J.1,U.1]
 by_cases a5:i<n
 ·refine G.lT i n ?_;obtain⟨K3,bk⟩:∃ K3,n-i=K3+1:=⟨n-i-1,oV⟩;obtain⟨Y,ci,ei,bv,cu,bf,cx,cn⟩:=Ur I J U a5 af;refine G.a go 0 n H i 1 a5<|G.lM none go (0+i*1) _ cx ?_;by_cases al:i=P.length
  ·refine G.eT i P.length<|G.i i<|G.b (ay (i+1,C,X3) _ _ _ cV l8 ⟨dV,?_,U,O,fun x j h1=>W x j (by dsimp only at h1;omega),J,I⟩ dV);dsimp only;rw[<-a8,bk,Ov,if_pos al,show n-(i+1)=K3 by omega]
  refine G.eF i P.length ?_;obtain⟨fg,g5,g6,g7⟩:=cn c hc;have b4:=W i c (A08 _);refine G.a Y 0 w ci c 2 hc<|G.lM (some 2) Y (0+c*2) (nv fg) g7 ?_;obtain⟨S,hS⟩:∃ S,S=gMZ X3 i:=⟨_,rfl⟩;have bl:S.length=w:=by rw[hS];exact U.2 i a5
  have b1:∀ j,nl (gZ S j).natAbs<=E:=fun j=>by rw[hS];exact W i j (A08 _)
  have ch:enZ X3 P.length c=F:=by unfold enZ;rw[O];exact cj
  have br:Ov P.length c v (n-(i+1)) (i+1) (X3.set i (Qx v F (enZ X3 i c) R S))=Ov P.length c v n 0 X1:=by
   rw[<-a8,bk,Ov,if_neg al,show n-(i+1)=K3 by omega,hS,O,ch]
  generalize hg:enZ X3 i c=gg at *
  rw[<-hS]at bf;have bc:=S2 v F gg R S;have dj:∀ j,nl (gZ (Qx v F gg R S) j).natAbs<=2*E+1:=fun j=>by
   rw[Acv _ _ _ _ _ oV];exact (Vw ax b4 (b1 j) (b0 j)).2.2.2
  obtain⟨gs,cs,be,bx,dc,dh,dl,cq⟩:=Ur I J U N af;refine G.l (ι:=Nat×List Value) (fun y=>[(0,.v (.pointer (some ⟨g,0,none⟩))),(1,iV c),(4,iV P.length),(6,.p 8010 0),(97,sV (some ⟨go,0,none⟩) n H),(98,iV n),(99,iV i),(8,sV (some ⟨Y,0,none⟩) w ci),(9,.p 13004 0),(112,iV w),(113,iV y.1)]) (fun y=>[(8010,⟨141,Age fr⟩),(13004,⟨141,Age fg⟩)])
   (fun y u' m'=>y.1<=w/\AtP Bi u' y.2 (Vp (Qx v F gg R S) S y.1)/\Bag m' (Jv g (E9 (.slice (some ⟨go,0,none⟩) n H) (.slice pa P.length pc) f0 odd1)::Np (.slice pa P.length pc) P::oN (.slice (some ⟨go,0,none⟩) n H) C::(C.set i ((Value.slice (some ⟨Y,0,none⟩) w ci),y.2)).map C3)) (fun y=>w-y.1) (0,ei)
   ⟨A1t _,by rw[Amf];exact bf,by rw[Ny bv];exact I⟩ ?_
  rintro J5 ⟨y,L⟩ bi dr a7 a0 ⟨hy,a4,Q⟩;simp only at hy a4 Q bi;have cw:=Ape (k:=y) bc oV;have dk:L.length=w:=by rw[a4.1,cw,bl]
  have ar:(C.set i ((Value.slice (some ⟨Y,0,none⟩) w ci),L))[i]?=some ((Value.slice (some ⟨Y,0,none⟩) w ci),L):=by rw[A1z];simp[d0,a5]
  have b3:(C.set i ((Value.slice (some ⟨Y,0,none⟩) w ci),L))[P.length]?=some (Value.slice (some ⟨gs,0,none⟩) w cs,be):=by rw[A1z,if_neg al];exact bx
  by_cases ao:y<w
  ·refine G.lT y w ?_;obtain⟨e,e1,e2⟩:=a4.at (j:=y) oV;obtain⟨fe,rfl⟩:=e2.opN;rw[<-Ol oV,Atr bc oV]at e2;have aa:ElP a7 go (0+P.length*1) (Value.slice (some ⟨gs,0,none⟩) w cs):=Q.el 2 (x:=oN (.slice (some ⟨go,0,none⟩) n H) C) rfl rfl (by show (C.map (·.1))[P.length]?=_;rw[A1a,bx];rfl);have he:ElP a7 Y (0+y*2) (nv fe):=Q.el (i+3) (x:=C3 ((Value.slice (some ⟨Y,0,none⟩) w ci),L)) (F8 ar) rfl e1;obtain⟨fs,s5,s6,_⟩:=cq y ao;have d9:Bi u8 (nv fs) (gZ R y):=by rw[<-O];exact s6
   have ct:ElP a7 gs (0+y*2) (nv fs):=Q.el (P.length+3) (x:=C3 (Value.slice (some ⟨gs,0,none⟩) w cs,be)) (F8 b3) rfl s5;have bz:=(d2.mono l8).mono a0;obtain⟨z1,z2,z3,z4⟩:=Vw (v:=v) ax b4 (b1 y) (b0 y);refine G.a Y 0 w ci y 2 ao<|G.lM (some 2) Y (0+y*2) (nv fe) he<|G.f 192 g 0 0 0<|G.lM none g (0+0) (.slice (some ⟨go,0,none⟩) n H) (Ev Q)<|G.a go 0 n H P.length 1 N<|G.lM none go (0+P.length*1) _ aa<|G.a gs 0 w cs y 2 ao<|G.lM (some 2) gs (0+y*2) (nv fs) ct<|G.f 192 g 0 2 2<|G.lM (some 2) g (0+2) (nv f0) (Al1 Q)<|G.c call126 (Ea e2 ((h6.mono l8).mono a0) (A04 (b1 y) oV) (A04 ax oV)) ?_;intro dy ds ah c6;obtain⟨dd,rfl⟩:=c6.opN;refine G.c call126 (Ea ((g6.mono a0).mono ah) ((d9.mono a0).mono ah) (A04 b4 oV) (A04 (b0 y) oV)) ?_;intro dz du ap c7;obtain⟨df,rfl⟩:=c7.opN;refine G.c call241 (Ac7 (c6.mono ap) c7 (A04 z1 oV) (A04 z2 oV)) ?_;intro e0 dv bd c8;obtain⟨dg,rfl⟩:=c8.opN;refine G.c call190 (M1 c8 (bz.mono ((ah.trans ap).trans bd)) (A04 z3 oV) (A04 d3 oV) d1) ?_;rintro e3 dw cc ⟨e4,e5,rfl,ca,cb⟩;obtain⟨av,rfl⟩:=ca.opN;obtain⟨da,rfl⟩:=cb.opN;obtain⟨m0,ag,ab⟩:=Q.focus (i+3) (F8 ar);rw[Ack]at ag;refine G.a Y 0 w ci y 2 ao<|G.storeA 2 m0 L Y w ci y (nv av) kV ag oV rfl rfl ?_;intro d8 c2;have aq:=ab (C3 ((Value.slice (some ⟨Y,0,none⟩) w ci),L.set y (nv av))) d8 c2;rw[Afy,A6r]at aq;refine G.i y<|G.b (bi (y+1,L.set y (nv av)) _ _ _ cV ((((a0.trans ah).trans ap).trans bd).trans cc) ⟨dV,?_,aq⟩ dV);dsimp only;rw[<-Aov bc oV,Acv _ _ _ _ _ oV];exact (a4.mono (fun _ _ k=>k.mono (((ah.trans ap).trans bd).trans cc))).set y ca
  obtain rfl:y=w:=oV;refine G.lF y y ?_;rw[Asz oV bl]at a4;rw[<-Aq8 (es':=L) bv]at Q;refine G.i i ?_;have ck:E8 n y (X3.set i (Qx v F gg R S)):=Lt U a5 oV;have ac:∀ x,gMZ (X3.set i (Qx v F gg R S)) x=if i=x then Qx v F gg R S else gMZ X3 x:=fun x=>Kv (by rw[U.1];exact a5)
  refine G.b (ay (i+1,C.set i ((Value.slice (some ⟨Y,0,none⟩) y ci),L),X3.set i (Qx v F gg R S)) _ _ _ cV (l8.trans a0) ⟨dV,br,ck,?_,?_,?_,Q⟩ dV)
  ·dsimp only;rw[ac,if_neg al];exact O
  ·intro x j h1;dsimp only at h1⊢;unfold enZ;rw[ac,if_neg oV];exact W x j oV
  exact (J.mono a0).set (i:=i) (r:=((Value.slice (some ⟨Y,0,none⟩) y ci),L)) oV a4
 obtain rfl:i=n:=oV;refine G.lF i i ?_;rw[A4i,Ov]at a8;rw[<-a8];refine G.f 192 g 0 1 1<|G.lM none g (0+1) (.slice pa P.length pc) (Ab4 I)<|G.B 3 1 8 (.int .i64 0) [.int .i64 c] (Av [c]) ?_;intro g9 u9 l9 e9;obtain⟨m1,c0,b6⟩:=I.focus 1 rfl;rw[Aka]at c0;have cu:(Ai P).length=P.length:=by simp[Ai]
 refine G.append 3 1 8 (.int .i64 0) m1 (Ai P) [.int .i64 c] (.slice pa P.length pc) g9 0 1 1 kV rfl rfl oV c0 e9 (Av [c]) rfl oV oV oV ?_;intro dx a7 a3;rw[show Ai P++[Value.int .i64 c]=Ai (P++[c]) by simp[Ai]]at a3;obtain⟨ai,aj,rfl⟩:=a3.shape;have el:(Ai (P++[c])).length=(P++[c]).length:=by simp[Ai]
 rw[el]at a3⊢;have bn:=b6 (Np (.slice ai (P++[c]).length aj) (P++[c])) a7 a3;obtain⟨m2,d4,b7⟩:=bn.focus 0 rfl;obtain⟨cv,em⟩:=Aqq d4 Sa rfl;refine G.f 192 g 0 2 2<|G.storeM 2 g (0+2) 192 (E9 (.slice (some ⟨go,0,none⟩) i H) (.slice pa P.length pc) f0 odd1) (nv fr) kV (by rw[em,Ab]) (fun x hx=>by
  have:=(Akd x hx).2 x (by rw[Sa x hx];simp);exact this) (by simp[E9]) rfl rfl ?_
 have cg:a7.upd g (.cells ((E9 (.slice (some ⟨go,0,none⟩) i H) (.slice pa P.length pc) f0 odd1).take (0+2)++(nv fr).cells.toList++(E9 (.slice (some ⟨go,0,none⟩) i H) (.slice pa P.length pc) f0 odd1).drop (0+2+2)).toArray 192 (0,0)) =
  m2.upd g (.cells (E9 (.slice (some ⟨go,0,none⟩) i H) (.slice pa P.length pc) fr odd1).toArray 192 (0,0)):=by
  rw[em,Dp];rfl
 rw[cg];have bo:=b7 (Jv g (E9 (.slice (some ⟨go,0,none⟩) i H) (.slice pa P.length pc) fr odd1)) _ (Ae9 cv);refine G.f 192 g 0 1 1 ?_;obtain⟨m3,c3,b8⟩:=bo.focus 0 rfl;rw[V3]at c3;refine G.storeA 1 m3 _ g 5 5 1 (.slice ai (P++[c]).length aj) kV c3 (by simp[E9]) rfl rfl ?_;intro d7 c1;have bp:=b8 (Jv g (E9 (.slice (some ⟨go,0,none⟩) i H) (.slice ai (P++[c]).length aj) fr odd1)) d7 c1;exact G.r (.tuple #[]) ⟨rfl,ai,aj,fr,C,J.mono l9,h6.mono (l8.trans l9),bp⟩
section
variable {X:List (List Int)}{a:Option Addr}{c n:Nat}
section
variable [Cl] {P:Program} [A6 P] {fn:Func} {Post:Ce} {st:List KI×S} {u m:PH}
def G.appendZ (e:TypeId)(sz t:Nat)(z:Value)(xs:List Value)(a:Option Addr)(n c:Nat)(h:Aj P (adv P st)=.app (some (e,sz,t,z)) true [.slice none 0 0,.slice a n c])(Q:z.cells.toList.all Ax=true)(K:z.cells.size=sz)(J:0<sz)
 (L:Ac u (.slice a n c) sz xs) (O:A9 sz xs) (I:xs.length=n) (N:n*t<=140737488355328) (H:n<=9223372036854775807)
 (k:∀ g C F,Af m F (.slice g n C) e sz xs->G P fn Post (nx (adv P st) (.slice g n C)) u F):G P fn Post st u m:=by
 by_cases h0:n=0
 ·subst h0;obtain rfl:=A2l I;exact G.appendNil e sz t z a c h (k none 0 m (Af.nil _ _ _))
 obtain⟨b,o,rfl,_⟩:=L.at' (j:=0) (A01 oV);refine G.append e sz t z m [] xs (.slice none 0 0) b o n c h Q K J (Af.nil _ _ _) L.els O I oV (by simpa using N) (by simpa using H) ?_;intro R F E;rw[A3q]at E;obtain⟨g,C,rfl⟩:=E.shape;rw[I]at E⊢;exact k g C F E
end
def AtP.ok2 {u:PH}{es:List Value}{zs:List Int}(h:AtP Bi u es zs):A9 2 es:=fun e E=>by
 obtain⟨j,z,rfl⟩:=A3d.1 E;have g:j<zs.length:=by rw[<-h.1];exact z
 obtain⟨F,t,C⟩:=h.2 j zs[j] (A01 g);rw[A01 z]at t;cases t;exact C.ok _ mV
def Agf {m u:PH}{s p:Arr}{g:List (Value×List Value)}(h:Bag m (s::p::oN (.slice a n c) g::g.map C3))(z:NAt u g X)(F:PH.le m u):Nl u (.slice a n c) X:=by
 have H:=h.list F 2 (x:=oN (.slice a n c) g) rfl;refine⟨g.map (fun r:Value×List Value=>r.1),H,by rw[A03,z.1],fun j r E=>?_⟩;have C:j<g.length:=by rw[z.1];exact (A05.1 E).1
 have t:g[j]?=some g[j]:=A01 C;refine⟨g[j].1,by rw[A1a,t];rfl,?_⟩;refine⟨g[j].2,h.list F (j+3) (x:=C3 g[j]) (F8 t),?_⟩;have:=z.2 j _ t;have e:gMZ X j=r:=by unfold gMZ;rw[A02,E];rfl
 rwa[e]at this
def Ata {m:PH}{g:Nat}{l:List Arr}{j pv:Value}{f:N3}{e:Bool}(h:Bag m (Jv g (E9 j pv f e)::l))(z:j.cells = #[j])(C:pv.cells = #[pv]):ElP m g 0 (.agg #[j,pv,.bool f.b,.slice f.a f.n f.c,.bool e]):=by
 have E:=Ev h;have F:=Ab4 h;have t:=Al1 h;have H:=Ak7 h;intro i x hi
 match i,hi with
 |0,hi=>exact E 0 x (by rw[z];exact hi)
 |1,hi=>exact F 0 x (by rw[C];exact hi)
 |2,hi=>exact t 0 x hi
 |3,hi=>exact t 1 x hi
 |4,hi=>exact H 0 x hi
def Aqf (K : Nat) {k l : Nat} (h : k ≤ l) : zs K k ≤ zs K l := by
  induction l with
  | zero => have : k = 0 := by omega
            subst this; exact A08 _
  | succ l ih =>
    rcases A2e k (l + 1) with e | e
    · have := ih oV
      show zs K k ≤ 2 * zs K l + 2
      omega
    have : k = l + 1 := by omega
    subst this; exact A08 _
def Avp {u:PH}{n w c j E:Nat}(hM:Nl u (.slice a n c) X)(hX:E8 n w X)(hn:n<=100)(hw:w<=100)(h0:0<n)(am:j<=w)(ag:SzZ X E)(a9:1<=E)(hE:zs E j<=1000000000) :
 Fn0 prog 122 [.slice a n c,.int .i64 j] u fun r u'=>∃ a' c' pa pc f,r=.agg #[.slice a' n c',.slice pa (Fm n j 0 ⟨X,[],1,false⟩).P.length pc,.bool f.b,.slice f.a f.n f.c,.bool (Fm n j 0 ⟨X,[],1,false⟩).odd] /\
  Nl u' (.slice a' n c') (Fm n j 0 ⟨X,[],1,false⟩).X/\Bi u' (nv f) (Fm n j 0 ⟨X,[],1,false⟩).v:=by
 have al:=hX.1;refine Fn0.o func122<|G.c call121 (Kf (z:=1) oV oV) ?_;intro v1 u1 l1 k1;obtain⟨f1,rfl⟩:=k1.opN;refine G.l (ι:=Nat×List (Value×List Value)×(Option Addr×Nat)) (fun i=>[(1,iV j),(4,.p 0 0),(5,.p 1002 0),(11,sV a n c),(12,iV n),(13,iV i.1)])
  (fun i=>[(0,⟨192,[sV none 0 0,sV none 0 0,bV false,sV none 0 0,bV false]⟩),(1002,⟨192,[sV i.2.2.1 i.1 i.2.2.2,sV none 0 0,bV f1.b,sV f1.a f1.n f1.c,bV false]⟩)])
  (fun i u' m'=>i.1<=n/\NAt u' i.2.1 (X.take i.1)/\Bag m' (oN (.slice i.2.2.1 i.1 i.2.2.2) i.2.1::i.2.1.map C3)) (fun i=>n-i.1) (0,[],(none,0))
  ⟨A1t _,⟨rfl,fun i r h=>by simp at h⟩,PH.mt,Af.nil _ _ _,trivial⟩ ?_
 rintro J ⟨i,t,⟨ra,rc⟩⟩ hJ u2 m2 l2 ⟨hi,L,C⟩;simp only at hi L C hJ;have I:t.length=i:=by rw[L.1,A1e];omega
 by_cases V:i<n
 ·refine G.lT i n ?_;have a6:X[i]?=some X[i]:=A01 oV;have ai:X[i].length=w:=by have:=hX.2 i V;rwa[Xj oV]at this
  obtain⟨b,o,e,rfl,h3,f3⟩:=LP.at (hM.mono (l1.trans l2)) a6;obtain⟨es,U,R⟩:=f3;obtain⟨a4,c4,rfl⟩:=U.opn;have a1:es.length=w:=by rw[R.1,ai]
  rw[a1]at U h3;refine G.a b o n c i 1 V<|G.lU none b (o+i*1) (.slice a4 w c4) h3<|G.appendZ 141 2 32 (.agg #[.bool false,.slice none 0 0]) es a4 w c4 kV rfl rfl oV U R.ok2 a1 oV oV ?_;intro F H m5 a8;refine G.B 190 1 24 (.slice none 0 0) [.slice F w H] (B5 _ _ _) ?_;intro g6 u6 l6 e6;have ab:Bag m5 (C3 (.slice F w H,es)::oN (.slice ra i rc) t::t.map C3):=⟨m2,a8,C⟩;obtain⟨m0,a3,a2⟩:=ab.focus 1 rfl;rw[Akm]at a3;refine G.k 190 1 24 (.slice none 0 0) m0 (t.map (·.1)) [.slice F w H] (.slice ra i rc) g6 0 1 1 a3 e6 (B5 _ _ _) ?_;intro v7 m7 N;obtain⟨a7,c7,rfl⟩:=N.shape;have e7:t.map (·.1)++[Value.slice F w H]=(t++[(Value.slice F w H,es)]).map (·.1):=mV
  rw[e7]at N⊢;have el:((t++[(Value.slice F w H,es)]).map (·.1)).length=i+1:=by simp[I]
  rw[el]at N⊢;have ac:=a2 (oN (.slice a7 (i+1) c7) (t++[(Value.slice F w H,es)])) m7 N;have ad:Bag m7 (oN (.slice a7 (i+1) c7) (t++[(Value.slice F w H,es)])::(t++[(Value.slice F w H,es)]).map C3):=by
   refine Bag.perm ?_ ac;rw[A1i];exact (List.Perm.swap _ _ _).trans (List.Perm.cons _ (A5r (l₁:=[C3 (Value.slice F w H,es)])))
  refine G.i i<|G.b (hJ (i+1,t++[(Value.slice F w H,es)],(a7,c7)) _ _ _ cV (l2.trans l6) ⟨dV,?_,ad⟩ dV);dsimp only;rw[A1n,a6];exact (L.mono l6).snoc (q:=X[i]) (R.mono fun _ _ k=>k.mono l6)
 obtain rfl:i=n:=oV
 rw[A1j oV]at L;refine G.lF i i ?_;obtain⟨go,co,eo⟩:=C.ptr 0 rfl (by intro e;simp only[oN,A6c]at e;rw[e]at I;simp at I;omega);simp only[oN,A03,I,Value.slice.injEq,true_and]at eo;obtain⟨rfl,rfl⟩:=eo;clear hJ;refine G.pub 1002 192 (E9 (.slice (some ⟨go,0,none⟩) i rc) (.slice none 0 0) f1 false) kV kV ?_;intro g an ae;have a0:Bag (m2.upd g (.cells (E9 (.slice (some ⟨go,0,none⟩) i rc) (.slice none 0 0) f1 false).toArray 192 (0,0))) (Jv g (E9 (.slice (some ⟨go,0,none⟩) i rc) (.slice none 0 0) f1 false)::Np (.slice none 0 0) []::oN (.slice (some ⟨go,0,none⟩) i rc) t::t.map C3) :=
  ⟨m2,Ae9 ae,m2,Af.nil _ _ _,C⟩
 refine G.l (ι:=Nat×List (Value×List Value)×(Option Addr×Nat)×N3×BZ) (fun i=>[(1,iV j),(4,.p 0 0),(5,.v (.pointer (some ⟨g,0,none⟩))),(8,iV i.1)])
  (fun i=>[(0,⟨192,[sV none 0 0,sV none 0 0,bV false,sV none 0 0,bV false]⟩)])
  (fun k u' m'=>k.1<=j/\Fm i (j-k.1) k.1 k.2.2.2.2=Fm i j 0 ⟨X,[],1,false⟩/\E8 i w k.2.2.2.2.X/\SzZ k.2.2.2.2.X (zs E k.1)/\nl k.2.2.2.2.v.natAbs<=zs E k.1/\k.2.2.2.2.v≠0/\k.2.2.2.2.P.length<=i/\NAt u' k.2.1 k.2.2.2.2.X/\Bi u' (nv k.2.2.2.1) k.2.2.2.2.v /\
   Bag m' (Jv g (E9 (.slice (some ⟨go,0,none⟩) i rc) (.slice k.2.2.1.1 k.2.2.2.2.P.length k.2.2.1.2) k.2.2.2.1 k.2.2.2.2.odd)::Np (.slice k.2.2.1.1 k.2.2.2.2.P.length k.2.2.1.2) k.2.2.2.2.P::oN (.slice (some ⟨go,0,none⟩) i rc) k.2.1::k.2.1.map C3)) (fun k=>j-k.1)
  (0,t,(none,0),f1,⟨X,[],1,false⟩) ⟨A1t _,rfl,hX,ag,A04 (nl1 (n:=1) oV) a9,Int.one_ne_zero,A1t _,L,k1.mono l2,a0⟩ ?_
 clear a0 C L I;rintro J ⟨k,t,⟨pa,pc⟩,f,s⟩ hJ u3 m3 l3 ⟨hk,O,hR,hS,Y,W,Q,L,hv,C⟩;simp only at hk O hR hS Y W Q L hv C hJ;by_cases V:k<j
 ·refine G.lT k j ?_;have hz:zs E (k+1)<=1000000000:=A04 (Aqf E (show k+1<=j by omega)) hE;have ao:zs E (k+1)=2*zs E k+2:=rfl;obtain⟨q1,q2,q3,q4,q5⟩:=Al2 (c:=k) hS Y hR Q;refine G.A call194 (Ax8 (c:=k) (E:=zs E k) hR hn hw oV Q h0 hS hv Y W oV L C) ?_;rintro v4 u4 m4 l4 ⟨rfl,aj,ak,f',Z,aa,ah,T⟩ _;rw[By];refine G.i k<|G.b (hJ (k+1,Z,(aj,ak),f',I0 i k s) _ _ _ cV (l3.trans l4) ⟨dV,?_,q3,q1.mono dV,A04 q2 dV,q5 W,q4,aa,ah,T⟩ dV);dsimp only;obtain⟨K,hK⟩:∃ K,j-k=K+1:=⟨j-k-1,oV⟩;rw[<-O,hK,Fm,show j-(k+1)=K by omega]
 obtain rfl:k=j:=oV
 refine G.lF k k ?_;rw[A4i,Fm]at O;rw[<-O];refine G.lM (some 5) g 0 (.agg #[.slice (some ⟨go,0,none⟩) i rc,.slice pa s.P.length pc,.bool f.b,.slice f.a f.n f.c,.bool s.odd]) (Ata C rfl rfl)<|G.giveP (ma:=m3) (sm:=PH.mt) kV (by funext g;unfold PH.or;cases m3 g<;>rfl) (fun g=>.inr rfl) (fun g=>.inl rfl) ?_
 intro u6 l6 af;exact G.r (.agg #[.slice (some ⟨go,0,none⟩) i rc,.slice pa s.P.length pc,.bool f.b,.slice f.a f.n f.c,.bool s.odd]) ⟨rfl,_,rc,pa,pc,f,rfl,Agf C (L.mono l6) af,hv.mono l6⟩
end
end Go.Proofs.YtemmheaocgmebaaGreatDoor
