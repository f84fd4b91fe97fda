/- Parts of one proof, joined by a program. -/
import Derived.Test.YtdgncafgglafjaaGreatDoorQ09
set_option linter.defProp false
set_option linter.unusedVariables false
set_option linter.unusedSimpArgs false
set_option linter.unusedSectionVars false
set_option maxHeartbeats 16000000
namespace Go.Proofs.YtdgncafgglafjaaGreatDoor
open Go.Proofs.Tryz
open Go.RowKit Go.MapKept
def A57:=@List.map_eq_nil_iff
def A6j:=@List.length_zip
def A76:=@List.perm_append_comm
def A5k:=@Rat.add_zero
def A6u:=@List.map_fst_zip
section
variable {X:List (List Rat)}{c i n p r w:Nat}
def Eh (X:List (List Rat))(c:Nat):Nat->Nat->Nat
 |0,p=>p
 |f+1,p=>if gR (gM X p) c=0 then Eh X c f (p+1) else p
def Hr (X:List (List Rat))(p r:Nat):List (List Rat):=(X.set p (gM X r)).set r (gM X p)
def J6 (f:Rat)(row:List Rat):List Rat:=row.map (· / f)
def Qp (g:Rat)(R row:List Rat):List Rat:=(List.range row.length).map fun k=>gR row k-g*gR R k
def Jb (r c:Nat):Nat->Nat->List (List Rat)->List (List Rat)
 |0,_,X=>X
 |f+1,i,X=>Jb r c f (i+1) (if i=r\/gR (gM X i) c=0 then X else X.set i (Qp (gR (gM X i) c) (gM X r) (gM X i)))
def Wd (X:List (List Rat))(r c:Nat):List (List Rat):=X.set r (J6 (gR (gM X r) c) (gM X r))
def I7 (X:List (List Rat))(r c p:Nat):List (List Rat):=Jb r c X.length 0 (Wd (if p=r then X else Hr X p r) r c)
def B9:Nat->Nat->List Nat->List (List Rat)->Rat->List Nat×List (List Rat)×Rat
 |0,_,P,X,d=>(P,X,d)
 |f+1,c,P,X,d =>
  if P.length<X.length then
   if Eh X c (X.length-P.length) P.length=X.length then B9 f (c+1) P X d
   else B9 f (c+1) (P++[c]) (I7 X P.length c (Eh X c (X.length-P.length) P.length)) ((if Eh X c (X.length-P.length) P.length=P.length then d else 0-d)*gR (gM X (Eh X c (X.length-P.length) P.length)) c)
  else (P,X,d)
def Rec (n w:Nat)(X:List (List Rat)):Prop:=X.length=n/\∀ i,i<n->(gM X i).length=w
def en (X:List (List Rat))(i j:Nat):Rat:=gR (gM X i) j
def R9 (X:List (List Rat))(c:Nat):∀ f p,p<=Eh X c f p/\Eh X c f p<=p+f
 |0,p=>by simp[Eh]
 |f+1,p=>by
  unfold Eh;split
  ·have:=R9 X c f (p+1);omega
  omega
def Vp (X:List (List Rat))(c:Nat):∀ f p i,p<=i->i<Eh X c f p->en X i c=0
 |0,p,i,h1,h2=>by simp[Eh]at h2;omega
 |f+1,p,i,h1,h2=>by
  unfold Eh at h2;split at h2
  ·rename_i h;by_cases e:i=p
   ·subst e;exact h
   exact Vp X c f (p+1) i oV h2
  omega
def V1 (X:List (List Rat))(c:Nat):∀ f p,Eh X c f p<p+f->en X (Eh X c f p) c≠0
 |0,p,h=>by simp[Eh]at h
 |f+1,p,h=>by
  unfold Eh at h⊢;split at h
  ·rename_i h0;rw[if_pos h0];exact V1 X c f (p+1) oV
  rename_i h0;rw[if_neg h0];exact h0
def In {r:List Rat}(h:Rec n w X)(d:i<n)(g:r.length=w):Rec n w (X.set i r):=by
 refine⟨by simp[h.1],fun j e=>?_⟩;rw[I4 (by rw[h.1];exact d)];split
 ·exact g
 exact h.2 j e
def Lw (h:Rec n w X)(hp:p<n)(d:r<n):Rec n w (Hr X p r) :=
 In (In h hp (h.2 r d)) d (h.2 p hp)
def Qz (h:Rec n w X)(hp:p<n)(g:r<n)(i j:Nat):en (Hr X p r) i j=if i=r then en X p j else if i=p then en X r j else en X i j:=by
 unfold en Hr;rw[I4 (by simp[h.1];exact g),I4 (by rw[h.1];exact hp)];by_cases e:r=i
 ·rw[if_pos e,if_pos e.symm]
 rw[if_neg e,if_neg (show ¬ i=r by omega)];by_cases d:p=i
 ·rw[if_pos d,if_pos d.symm]
 rw[if_neg d,if_neg (show ¬ i=p by omega)]
theorem Aih (f:Rat)(row:List Rat)(j:Nat):gR (J6 f row) j=gR row j/f:=by
 unfold gR J6;rw[A0j,A0j,A0n];cases row[j]?<;>simp<;>grind
def Aiw (g:Rat)(R row:List Rat){j:Nat}(d:j<row.length):gR (Qp g R row) j=gR row j-g*gR R j:=by
 unfold Qp;exact Aob _ d
def Rj (h:Rec n w X)(d:r<n):Rec n w (Wd X r c) :=
 In h d (by simp[J6,h.2 r d])
theorem Im (h:Rec n w X)(g:r<n)(i j:Nat):en (Wd X r c) i j=if i=r then en X i j*(1/en X r c) else en X i j:=by
 unfold en Wd;rw[I4 (by rw[h.1];exact g)];by_cases e:r=i
 ·subst e;rw[if_pos rfl,if_pos rfl,Aih];grind
 rw[if_neg e,if_neg (fun d=>e d.symm)]
def Ajg {n w r c:Nat}(d:r<n):∀ f i X,i+f<=n->Rec n w X->Rec n w (Jb r c f i X)
 |0,i,X,_,h=>h
 |f+1,i,X,hf,h=>by
  unfold Jb;refine Ajg d f (i+1) _ oV ?_;split
  ·exact h
  exact In h oV (by simp[Qp,h.2 i oV])
theorem Abp (h:Rec n w X)(m:i<n)(k j:Nat)(t:j<w):en (if i=r\/gR (gM X i) c=0 then X else X.set i (Qp (gR (gM X i) c) (gM X r) (gM X i))) k j=if k=i/\i≠r then en X i j-en X i c*en X r j else en X k j:=by
 by_cases e:i=r
 ·rw[if_pos (.inl e),if_neg oV]
 by_cases d:gR (gM X i) c=0
 ·rw[if_pos (.inr d)];split
  ·rename_i hk;rw[hk.1];unfold en;rw[d];grind
  rfl
 rw[if_neg (by simp[e,d])];unfold en;rw[I4 (by rw[h.1];exact m)];by_cases g:i=k
 ·subst g;rw[if_pos rfl,if_pos ⟨rfl,e⟩,Aiw _ _ _ (by rw[h.2 i m];exact t)]
 rw[if_neg g,if_neg oV]
def Ac2 {n w r c:Nat}(t:r<n)(e:c<w):∀ f i X,i+f<=n->Rec n w X->∀ k j,j<w->en (Jb r c f i X) k j=if i<=k/\k<i+f/\k≠r then en X k j-en X k c*en X r j else en X k j
 |0,i,X,_,h,k,j,hj=>by rw[if_neg oV];rfl
 |f+1,i,X,hf,h,k,j,hj=>by
  unfold Jb;have m:Rec n w (if i=r\/gR (gM X i) c=0 then X else X.set i (Qp (gR (gM X i) c) (gM X r) (gM X i))):=by
   split
   ·exact h
   exact In h oV (by simp[Qp,h.2 i oV])
  rw[Ac2 t e f (i+1) _ oV m k j hj,Abp h oV k j hj,Abp h oV k c e,Abp h oV r j hj];rw[if_neg (show ¬ (r=i/\i≠r) by omega)];by_cases g:k=i
  ·subst g;rw[if_neg oV];by_cases d:k=r
   ·rw[if_neg oV,if_neg oV]
   rw[if_pos ⟨rfl,d⟩,if_pos ⟨oV,oV,d⟩]
  rw[if_neg (show ¬ (k=i/\i≠r) by omega),if_neg (show ¬ (k=i/\i≠r) by omega)];by_cases d:i+1<=k/\k<i+1+f/\k≠r
  ·rw[if_pos d,if_pos ⟨oV,oV,d.2.2⟩]
  rw[if_neg d,if_neg oV]
def We (h:Rec n w X)(d:r<n)(hp:p<n):Rec n w (I7 X r c p):=by
 unfold I7;rw[h.1];refine Ajg d n 0 _ oV (Rj ?_ d);split
 ·exact h
 exact Lw h hp d
def Ya:∀ f c P X d,(B9 f c P X d).1.length<=P.length+f
 |0,c,P,X,d=>by simp[B9]
 |f+1,c,P,X,d=>by
  unfold B9;split
  ·split
   ·have:=Ya f (c+1) P X d;omega
   have:=Ya f (c+1) (P++[c]) (I7 X P.length c (Eh X c (X.length-P.length) P.length)) ((if Eh X c (X.length-P.length) P.length=P.length then d else 0-d)*gR (gM X (Eh X c (X.length-P.length) P.length)) c);rw[A03]at this;simp at this⊢;omega
  simp
end
def Ss {u:PH}{v:Value}{A:List (List Rat)}(h:Fm u v (Dv A))(C:Sq A):Fn0 prog 85 [v] u fun v' _=>v'=.tuple #[.int .i64 A.length,.int .i64 A.length,.int .i64 0]:=by
 obtain⟨a,c,rfl⟩:=h.opn;rw[Bs]at h⊢;have a0:=C.le;refine Fn0.o func85 ?_;by_cases h0:0<A.length
 ·refine G.gT A.length 0 ?_;obtain⟨g,m,Q,L,rfl,n,t⟩:=h.row (Em (A0i h0));rw[A0k,C.len h0]at n t;refine G.a g m A.length c 0 1 h0<|G.lU none g (m+0*1) _ n ?_;clear n t;obtain⟨a,Y⟩:∃ a:Option Addr,a=some ⟨g,m,none⟩:=⟨_,rfl⟩;rw[<-Y]at h⊢;clear Y;refine G.gF A.length 12<|G.l (ι:=Nat) (fun i=>[(0,sV a A.length c),(5,iV A.length),(21,iV A.length),(22,iV i)]) (fun _=>[])
   (fun i P z=>i<=A.length/\z=PH.mt) (fun i=>A.length-i) 0 ⟨oV,rfl⟩ ?_
  rintro Z i E u1 m1 J ⟨T,rfl⟩;by_cases d:i<A.length
  ·refine G.lT i A.length ?_;obtain⟨g,m,Q,L,rfl,n,t⟩:=(h.mono J).row (Em (A0i d));rw[A0k,C.len d]at n t;exact G.a g m A.length c i 1 d<|G.lU none g (m+i*1) _ n<|G.gF A.length 12<|G.i i<|G.b (E (i+1) _ _ _ cV J ⟨oV,rfl⟩ oV)
  obtain rfl:i=A.length:=oV;clear d;refine G.lF A.length A.length ?_;clear E;refine G.l (ι:=Nat) (fun i=>[(0,sV a A.length c),(5,iV A.length),(33,iV A.length),(34,iV i)]) (fun _=>[])
   (fun i P z=>i<=A.length/\z=PH.mt) (fun i=>A.length-i) 0 ⟨oV,rfl⟩ ?_
  rintro J2 i F u2 m2 l2 ⟨T,rfl⟩;by_cases d:i<A.length
  ·refine G.lT i A.length ?_;obtain⟨g,m,Q,L,rfl,n,t⟩:=(h.mono (J.trans l2)).row (Em (A0i d));rw[A0k,C.len d]at n t;exact G.a g m A.length c i 1 d<|G.lU none g (m+i*1) _ n<|G.nF A.length A.length<|G.i i<|G.b (F (i+1) _ _ _ cV l2 ⟨oV,rfl⟩ oV)
  obtain rfl:i=A.length:=oV;clear d;refine G.lF A.length A.length ?_;clear F;refine G.l (ι:=Nat) (fun i=>[(0,sV a A.length c),(5,iV A.length),(46,iV A.length),(47,iV i)]) (fun _=>[])
   (fun i P z=>i<=A.length/\z=PH.mt) (fun i=>A.length-i) 0 ⟨oV,rfl⟩ ?_
  rintro J3 i N u3 m3 U ⟨T,rfl⟩;by_cases d:i<A.length
  ·refine G.lT i A.length ?_;obtain⟨g,m,Q,L,rfl,n,t⟩:=(h.mono ((J.trans l2).trans U)).row (Em (A0i d));rw[A0k,C.len d]at n t;refine G.a g m A.length c i 1 d<|G.lU none g (m+i*1) _ n<|G.l (ι:=Nat) (fun k=>[(0,sV (some ⟨g,m,none⟩) A.length c),(5,iV A.length),(46,iV A.length),(47,iV i),(8,iV i),(54,iV A.length),(55,iV k)]) (fun _=>[])
    (fun k P z=>k<=A.length/\z=PH.mt) (fun k=>A.length-k) 0 ⟨oV,rfl⟩ ?_
   rintro J4 k O u4 m4 K ⟨hk,rfl⟩;by_cases I:k<A.length
   ·refine G.lT k A.length ?_;have H:k<A[i].length:=by rw[C.len d];exact I
    obtain⟨R,V,rfl,W⟩:=Ab.at' (Ab.mono t K) (j:=k) (e:=.string (mkS (Ag A[i][k]))) (by simp[B4,A0i H]);refine G.a g m A.length c i 1 d<|G.lU none g (m+i*1) _ (n.mono K)<|G.a R V A.length L k 1 I<|G.lU none R (V+k*1) _ W<|G.c call86 (D9 (C.tx' d H)) ?_;rintro v5 u5 X rfl;exact G.i k<|G.b (O (k+1) _ _ _ cV (K.trans X) ⟨oV,rfl⟩ oV)
   exact G.lF k A.length<|G.i i<|G.b (N (i+1) _ _ _ cV (U.trans K) ⟨oV,rfl⟩ oV)
  exact G.lF i A.length<|G.r (.tuple #[.int .i64 A.length,.int .i64 A.length,.int .i64 0]) ⟨rfl,rfl⟩
 refine G.gF A.length 0 ?_;have hz:(A.length:Int)=0:=oV;refine G.gF A.length 12<|G.l (ι:=Nat) (fun i=>[(0,sV a A.length c),(5,iV 0),(21,iV A.length),(22,iV i)]) (fun _=>[])
  (fun i P z=>i<=A.length/\z=PH.mt) (fun i=>A.length-i) 0 ⟨oV,rfl⟩ ?_
 rintro Z i E u1 m1 J ⟨T,rfl⟩;by_cases d:i<A.length
 ·refine G.lT i A.length ?_;obtain⟨g,m,Q,L,rfl,n,t⟩:=(h.mono J).row (Em (A0i d));rw[A0k,C.len d]at n t;exact G.a g m A.length c i 1 d<|G.lU none g (m+i*1) _ n<|G.gF A.length 12<|G.i i<|G.b (E (i+1) _ _ _ cV J ⟨oV,rfl⟩ oV)
 obtain rfl:i=A.length:=oV;clear d;refine G.lF A.length A.length ?_;clear E;refine G.l (ι:=Nat) (fun i=>[(0,sV a A.length c),(5,iV 0),(33,iV A.length),(34,iV i)]) (fun _=>[])
  (fun i P z=>i<=A.length/\z=PH.mt) (fun i=>A.length-i) 0 ⟨oV,rfl⟩ ?_
 rintro J2 i F u2 m2 l2 ⟨T,rfl⟩;by_cases d:i<A.length
 ·refine G.lT i A.length ?_;obtain⟨g,m,Q,L,rfl,n,t⟩:=(h.mono (J.trans l2)).row (Em (A0i d));rw[A0k,C.len d]at n t;exact G.a g m A.length c i 1 d<|G.lU none g (m+i*1) _ n<|G.nF A.length 0<|G.i i<|G.b (F (i+1) _ _ _ cV l2 ⟨oV,rfl⟩ oV)
 obtain rfl:i=A.length:=oV;clear d;refine G.lF A.length A.length ?_;clear F;refine G.l (ι:=Nat) (fun i=>[(0,sV a A.length c),(5,iV 0),(46,iV A.length),(47,iV i)]) (fun _=>[])
  (fun i P z=>i<=A.length/\z=PH.mt) (fun i=>A.length-i) 0 ⟨oV,rfl⟩ ?_
 rintro J3 i N u3 m3 U ⟨T,rfl⟩;by_cases d:i<A.length
 ·refine G.lT i A.length ?_;obtain⟨g,m,Q,L,rfl,n,t⟩:=(h.mono ((J.trans l2).trans U)).row (Em (A0i d));rw[A0k,C.len d]at n t;refine G.a g m A.length c i 1 d<|G.lU none g (m+i*1) _ n<|G.l (ι:=Nat) (fun k=>[(0,sV (some ⟨g,m,none⟩) A.length c),(5,iV 0),(46,iV A.length),(47,iV i),(8,iV i),(54,iV A.length),(55,iV k)]) (fun _=>[])
   (fun k P z=>k<=A.length/\z=PH.mt) (fun k=>A.length-k) 0 ⟨oV,rfl⟩ ?_
  rintro J4 k O u4 m4 K ⟨hk,rfl⟩;by_cases I:k<A.length
  ·refine G.lT k A.length ?_;have H:k<A[i].length:=by rw[C.len d];exact I
   obtain⟨R,V,rfl,W⟩:=Ab.at' (Ab.mono t K) (j:=k) (e:=.string (mkS (Ag A[i][k]))) (by simp[B4,A0i H]);refine G.a g m A.length c i 1 d<|G.lU none g (m+i*1) _ (n.mono K)<|G.a R V A.length L k 1 I<|G.lU none R (V+k*1) _ W<|G.c call86 (D9 (C.tx' d H)) ?_;rintro v5 u5 X rfl;exact G.i k<|G.b (O (k+1) _ _ _ cV (K.trans X) ⟨oV,rfl⟩ oV)
  exact G.lF k A.length<|G.i i<|G.b (N (i+1) _ _ _ cV (U.trans K) ⟨oV,rfl⟩ oV)
 exact G.lF i A.length<|G.r (.tuple #[.int .i64 A.length,.int .i64 0,.int .i64 0]) ⟨rfl,by rw[hz]⟩
section
variable {n:Nat}
structure B3 where
 b:Bool
 a:Option Addr
 n:Nat
 c:Nat
def bv (f:B3):Value:=.agg #[.bool f.b,.slice f.a f.n f.c]
def bc (f:B3):List SV:=[.v (.bool f.b),.v (.slice f.a f.n f.c)]
def C9.opB {u:PH}{v:Value}{z:Int}(h:C9 u v z):∃ f,v=bv f:=by
 obtain⟨b,a,n,c,rfl,_⟩:=h.opn;exact⟨⟨b,a,n,c⟩,rfl⟩
def nl1 (h:n<1000000000):nl n<=1:=A8 (by simpa using h)
def nlN (h:n<1000000000):nl ((n:Int)).natAbs<=1:=by rw[A1e];exact nl1 h
end
structure Q4 where
 b:Bool
 a:Option Addr
 n:Nat
 c:Nat
 a':Option Addr
 n':Nat
 c':Nat
def qv (f:Q4):Value:=.agg #[.bool f.b,.slice f.a f.n f.c,.bool false,.slice f.a' f.n' f.c']
def qc (f:Q4):List SV:=[.v (.bool f.b),.v (.slice f.a f.n f.c),.v (.bool false),.v (.slice f.a' f.n' f.c')]
def QP.opQ {u:PH}{v:Value}{q:Rat}(h:QP u v q):∃ f,v=qv f:=by
 obtain⟨b,a,n,c,d,g,e,rfl,_⟩:=h.opn;exact⟨⟨b,a,n,c,d,g,e⟩,rfl⟩
section
variable {M:List (List Rat)}{m m0 u:PH}{q:List Rat}{r:Value×List Value}{rows:List (Value×List Value)}{v:Value}
def zQ:Value:=.agg #[.bool false,.slice none 0 0,.bool false,.slice none 0 0]
def Zf (f:Q4):Bm 4 [qv f]:=by
 intro x d;simp at d;subst d;exact⟨rfl,fun y e=>by simp[qv,Value.cells]at e;rcases e with rfl|rfl|rfl|rfl<;>rfl⟩
def Bj (r:Value×List Value):Arr:=⟨r.1,84,4,r.2⟩
def oQ (v:Value)(rows:List (Value×List Value)):Arr:=⟨v,141,1,rows.map (·.1)⟩
def Iv :(Bj r).At m0 m=Af m0 m r.1 84 4 r.2:=rfl
def Aa6 :(oQ v rows).At m0 m=Af m0 m v 141 1 (rows.map (·.1)):=rfl
def QAt (u:PH)(rows:List (Value×List Value))(M:List (List Rat)):Prop:=rows.length=M.length/\∀ (i:Nat) (r:Value×List Value),rows[i]?=some r->AtP QP u r.2 (gM M i)
def QAt.mono {u u':PH}{rows:List (Value×List Value)}{M:List (List Rat)}(h:QAt u rows M)(hl:PH.le u u'):QAt u' rows M:=⟨h.1,fun i r hr=>(h.2 i r hr).mono (fun _ _ k=>k.mono hl)⟩
def QAt.set {i:Nat}(h:QAt u rows M)(g:i<rows.length)(n:AtP QP u r.2 q):QAt u (rows.set i r) (M.set i q):=by
 refine⟨by simp[h.1],fun j r' d=>?_⟩;rw[I4 (by rw[<-h.1];exact g)];rw[A2g]at d;by_cases e:i=j
 ·subst e;rw[if_pos rfl,if_pos g]at d;simp only[A0u]at d;rw[if_pos rfl,<-d];exact n
 rw[if_neg e]at d⊢;exact h.2 j r' d
def QAt.snoc (h:QAt u rows M)(g:AtP QP u r.2 q):QAt u (rows++[r]) (M++[q]):=by
 refine⟨by simp[h.1],fun i r' d=>?_⟩;rw[Aud];by_cases e:i<rows.length
 ·rw[A09 e]at d;rw[if_pos (by rw[<-h.1];exact e)];exact h.2 i r' d
 rw[A1d oV]at d;have j:i-rows.length=0:=by
  rcases A1p (i-rows.length) with h0|h0
  ·exact h0
  rw[A1k gV]at d;cases d
 rw[j]at d;simp at d;subst d;rw[if_neg (by rw[<-h.1];exact e),if_pos (by rw[<-h.1];omega)];exact g
def Jk {α:Type}{l:List α}{k:Nat}(h:k<l.length):l.take (k+1)=l.take k++[l[k]]:=by
 rw[A0t,A0i h];rfl
def Zw {A:List (List Rat)}(h:Fm u v (Dv A))(hs:Sq A) :
 Ah prog 65 [v] u PH.mt fun v' V U=>∃ a c rows,v'=.slice a A.length c/\QAt V rows A/\Bag U (oQ (.slice a A.length c) rows::rows.map Bj):=by
 obtain⟨a0,c0,rfl⟩:=h.opn;rw[Bs]at h⊢;have a5:=hs.le;refine Ah.o func65<|G.l (ι:=Nat×(Option Addr×Nat)×List (Value×List Value)) (fun i=>[(0,sV a0 A.length c0),(3,sV i.2.1.1 i.1 i.2.1.2),(9,iV A.length),(10,iV i.1)]) (fun _=>[])
  (fun i V U=>i.1<=A.length/\QAt V i.2.2 (A.take i.1)/\Bag U (oQ (.slice i.2.1.1 i.1 i.2.1.2) i.2.2::i.2.2.map Bj))
  (fun i=>A.length-i.1) (0,(none,0),[]) ⟨A1c _,⟨rfl,fun j r hj=>by simp at hj⟩,PH.mt,Af.nil _ _ _,trivial⟩ ?_
 rintro J ⟨i,⟨a,c⟩,rows⟩ hJ u1 m1 l1 ⟨hi,R,t⟩;simp only at hi R t hJ;have a4:rows.length=i:=by rw[R.1,A0q];omega
 by_cases z:i<A.length
 ·refine G.lT i A.length ?_;obtain⟨Y,o1,a1,c1,rfl,e1,e2⟩:=(h.mono l1).row (Em (A0i z));have L:=hs.len z;rw[A0k,L]at e1 e2;refine G.a Y o1 A.length c0 i 1 z<|G.lU none Y (o1+i*1) _ e1<|G.l (ι:=Nat×(Option Addr×Nat)×List Value) (fun j=>[(0,sV (some ⟨Y,o1,none⟩) A.length c0),(3,sV a i c),(9,iV A.length),(10,iV i),(5,sV j.2.1.1 j.1 j.2.1.2),(16,sV a1 A.length c1),(17,iV A.length),(18,iV j.1)]) (fun _=>[])
   (fun j V U=>j.1<=A.length/\AtP QP V j.2.2 (A[i].take j.1)/\Bag U (Bj (.slice j.2.1.1 j.1 j.2.1.2,j.2.2)::oQ (.slice a i c) rows::rows.map Bj))
   (fun j=>A.length-j.1) (0,(none,0),[]) ⟨A1c _,AtP.nil,m1,Af.nil _ _ _,t⟩ ?_
  rintro J2 ⟨j,⟨E,F⟩,es⟩ Q u2 m2 l2 ⟨hj,n,g⟩;simp only at hj n g Q;have a3:es.length=j:=by rw[n.1,A0q];omega
  by_cases H:j<A.length
  ·refine G.lT j A.length ?_;have N:j<A[i].length:=by rw[L];exact H
   obtain⟨b2,o2,rfl,e3⟩:=Ab.at' (Ab.mono e2 l2) (j:=j) (e:=.string (mkS (Ag A[i][j]))) (by simp[B4,A0i N]);refine G.a b2 o2 A.length c1 j 1 H<|G.lU none b2 (o2+j*1) _ e3<|G.c call26 (H9 (hs.tx' z N)) ?_;intro v4 u4 l4 k4;obtain⟨P,rfl⟩:=k4.opQ;refine G.B 84 4 64 zQ [qv P] (Zf P) ?_;intro g5 u5 O Z;obtain⟨mm,C,a2⟩:=g;rw[Iv]at C;refine G.append 84 4 64 zQ mm es [qv P] (.slice E j F) g5 0 1 1 kV rfl rfl oV C Z (Zf P) rfl oV oV oV ?_;intro v6 m6 d;obtain⟨W,X,rfl⟩:=d.shape;have el:(es++[qv P]).length=j+1:=by simp[a3]
   rw[el]at d⊢;refine G.i j<|G.b (Q (j+1,(W,X),es++[qv P]) _ _ _ cV ((l2.trans l4).trans O) ⟨dV,?_,mm,d,a2⟩ dV);dsimp only;rw[Jk N];exact (n.mono (fun _ _ k=>k.mono (l4.trans O))).snoc (k4.mono O)
  obtain rfl:j=A.length:=oV;refine G.lF A.length A.length ?_;have hA:A[i].take A.length=A[i]:=by rw[<-L];exact A05
  rw[hA]at n;refine G.B 141 1 24 (.slice none 0 0) [.slice E A.length F] (B6 _ _ _) ?_;intro g5 u5 O Z;obtain⟨m0,C,T⟩:=g.focus 1 rfl;rw[Aa6]at C;refine G.k 141 1 24 (.slice none 0 0) m0 (rows.map (·.1)) [.slice E A.length F] (.slice a i c) g5 0 1 1 C Z (B6 _ _ _) ?_;intro v6 m6 d;have em:rows.map (·.1)++[Value.slice E A.length F]=(rows++[(Value.slice E A.length F,es)]).map (·.1):=mV;rw[em]at d;obtain⟨W,X,rfl⟩:=d.shape;have el:((rows++[(Value.slice E A.length F,es)]).map (·.1)).length=i+1:=by simp[a4]
  rw[el]at d⊢;have I:=T (oQ (.slice W (i+1) X) (rows++[(Value.slice E A.length F,es)])) m6 d;have K:=Bag.perm Ad3 I;refine G.i i<|G.b (hJ (i+1,(W,X),rows++[(Value.slice E A.length F,es)]) _ _ _ cV ((l1.trans l2).trans O) ⟨dV,?_,by simpa using K⟩ dV);dsimp only;rw[Jk z];exact (R.mono (l2.trans O)).snoc (n.mono (fun _ _ k=>k.mono O))
 obtain rfl:i=A.length:=oV;refine G.lF A.length A.length ?_;rw[A05]at R;exact G.r (.slice a A.length c) ⟨a,c,rows,rfl,R,t⟩
end
section
variable {R Y:List Rat}{X:List (List Rat)}{i k n s w:Nat}{r:Value×List Value}{rows:List (Value×List Value)}{v:Value}
def My (v:Value)(P:List Nat):Arr:=⟨v,3,1,Ai P⟩
def Aka {P:List Nat}{m0 m:PH}:(My v P).At m0 m=Af m0 m v 3 1 (Ai P):=rfl
def Jv {s o:Arr}(h:rows[i]?=some r):(s::o::rows.map Bj)[i+2]?=some (Bj r):=by simp[h]
def Age {s o:Arr}:(s::o::rows.map Bj).set (i+2) (Bj r)=s::o::(rows.set i r).map Bj:=by
 rw[A2s,A2s,A10]
def Aif {x:Value}{es es':List Value}(h:rows[i]?=some (x,es)):oQ v (rows.set i (x,es'))=oQ v rows:=by
 unfold oQ;rw[T5 (r':=(x,es')) h rfl]
def Z7 {u m:PH}{T:Arr}{g n c w i:Nat}(t:Bag m (T::oQ (.slice (some ⟨g,0,none⟩) n c) rows::rows.map Bj))(L:QAt u rows X)(J:Rec n w X)(N:i<n)(U:0<w) :
 ∃ E H C,rows[i]?=some (.slice (some ⟨E,0,none⟩) w H,C)/\C.length=w/\AtP QP u C (gM X i)/\ElP m g (0+i*1) (.slice (some ⟨E,0,none⟩) w H)/\∀ j,j<w->∃ f,C[j]?=some (qv f)/\QP u (qv f) (gR (gM X i) j)/\ElP m E (0+j*4) (qv f):=by
 have Q:rows.length=n:=by rw[L.1,J.1]
 have d:rows[i]?=some rows[i]:=A0i oV;have h:=L.2 i _ d;obtain⟨⟨V,C⟩,O⟩:∃ x,rows[i]=x:=⟨_,rfl⟩;rw[O]at d h;simp only at h;have z:C.length=w:=by rw[h.1,J.2 i N]
 obtain⟨E,H,e⟩:=t.ptr (i+2) (Jv d) (by intro e;simp only[Bj]at e;rw[e]at z;simp at z;omega);simp only[Bj]at e;rw[z]at e;subst e;refine⟨E,H,C,d,z,h,t.el 1 (x:=oQ _ rows) rfl rfl (by show (rows.map (·.1))[i]?=_;rw[A0n,d];rfl),fun j P=>?_⟩;have F:j<(gM X i).length:=by rw[J.2 i N];exact P
 obtain⟨e,K,I⟩:=h.at F;obtain⟨f,rfl⟩:=I.opQ;rw[<-E7 F]at I;exact⟨f,K,I,t.el (i+2) (x:=Bj _) (Jv d) rfl K⟩
def es (s:Nat):Nat->Nat
 |0=>s
 |k+1=>4*es s k+2
def Ao2 (s : Nat) {k l : Nat} (h : k ≤ l) : es s k ≤ es s l := by
  induction l with
  | zero => have : k = 0 := by omega
            subst this; exact A0s _
  | succ l ih =>
    rcases A16 k (l + 1) with d | d
    · have := ih oV
      show es s k ≤ 4 * es s l + 2
      omega
    have : k = l + 1 := by omega
    subst this; exact A0s _
def Axy (h:1<=s)(k:Nat):1<=es s k:=A0l h (Ao2 s (A1c k))
def SzM.at {n w s i j:Nat}(h:SzM X s)(d:Rec n w X)(e:i<n)(g:j<w):Sz (gR (gM X i) j) s:=h i j (by rw[d.1];exact e) (by rw[d.2 i e];exact g)
def Abu (e:Rec n w X)(h:∀ i j,i<n->j<w->Sz (gR (gM X i) j) s):SzM X s:=fun i j d g=>by
 rw[e.1]at d;rw[e.2 i d]at g;exact h i j d g
def Azs {q:Rat}:decide (q.num=0)=decide (q=0):=decide_eq_decide.2 A4d
def Sx (Y R:List Rat)(k:Nat):List Rat:=Y.take k++R.drop k
def Aa8 (Y R:List Rat):Sx Y R 0=R:=by simp[Sx]
def Adv (h:Y.length=k)(d:R.length=k):Sx Y R k=Y:=by
 unfold Sx;rw[A00 oV,A11 oV,A1i]
def Afw (h:Y.length=R.length)(d:k<=R.length):(Sx Y R k).length=R.length:=by simp[Sx];omega
def Afk (h:Y.length=R.length)(d:k<R.length):(Sx Y R k).set k (gR Y k)=Sx Y R (k+1):=by
 unfold Sx;rw[A5l _ _ gV];simp only[A0q];rw[show k-min k Y.length=0 by omega,A4y d,A2y,Jk oV,A2m,E7 oV];rfl
def Akd (h:Y.length=R.length)(d:k<R.length):gR (Sx Y R k) k=gR R k:=by
 unfold Sx gR;rw[A0j,A1d gV,A0j];simp only[A0q];rw[show k-min k Y.length=0 by omega,A3m];rfl
end
structure ES where
 c:Nat
 P:List Nat
 pa:Option Addr
 pc:Nat
 rows:List (Value×List Value)
 X:List (List Rat)
 f:Q4
 d:Rat
structure E2 where
 rows:List (Value×List Value)
 X:List (List Rat)
 f:Q4
 d:Rat
def Ag2 {n w p r E:Nat}{X:List (List Rat)}(h:Rec n w X)(hp:p<n)(d:r<n)(g:SzM X E):Rec n w (if p=r then X else Hr X p r)/\SzM (if p=r then X else Hr X p r) E/\∀ j,gR (gM (if p=r then X else Hr X p r) r) j=gR (gM X p) j:=by
 by_cases e:p=r
 ·rw[if_pos e];exact⟨h,g,fun j=>by rw[e]⟩
 rw[if_neg e];refine⟨Lw h hp d,Abu (Lw h hp d) (fun i j t m=>?_),fun j=>?_⟩
 ·show Sz (en (Hr X p r) i j) E;rw[Qz h hp d];split
  ·exact g.at h hp m
  split
  ·exact g.at h d m
  exact g.at h t m
 show en (Hr X p r) r j=_;rw[Qz h hp d,if_pos rfl];rfl
def Rr {α:Type}{l:List α}{i:Nat}{x:α}(h:l[i]?=some x):l.set i x=l:=by
 obtain⟨d,e⟩:=A0o.1 h;rw[<-e];exact List.set_getElem_self d
def Aoj (F:Rat)(R:List Rat):(J6 F R).length=R.length:=by simp[J6]
def Ase (g:Rat)(R S:List Rat):(Qp g R S).length=S.length:=by simp[Qp]
def Aqg {u m:PH}{a:Option Addr}{H:Nat}{a7:List (Value×List Value)}{X0:List (List Rat)}{n w h s:Nat}(d6:Rec n w X0)(hn:n<=100)(hw:w<=100)(du:h<=w)(bh:SzM X0 s)(hs:1<=s)(br:es s h<=1000000000)
 (ca:QAt u a7 X0) (ap:Bag m (oQ (.slice a n H) a7::a7.map Bj)) :
 Ah prog 89 [.slice a n H,.int .i64 h] u m fun v u' m'=>∃ pa pc f Q,v=.tuple #[.slice pa (B9 h 0 [] X0 1).1.length pc,qv f]/\QP u' (qv f) (B9 h 0 [] X0 1).2.2/\QAt u' Q (B9 h 0 [] X0 1).2.1 /\
  Bag m' (My (.slice pa (B9 h 0 [] X0 1).1.length pc) (B9 h 0 [] X0 1).1::oQ (.slice a n H) Q::Q.map Bj):=by
 refine Ah.o func89<|G.c call24 (Od (z:=1) oV oV) ?_;intro v1 u1 l1 k1;rw[show ((1:Int):Rat)=1 from by decide]at k1;obtain⟨f1,rfl⟩:=k1.opQ;refine G.l (ι:=ES) (fun i=>[(0,sV a n H),(1,iV h),(5,.p 1 0),(6,sV i.pa i.P.length i.pc),(7,.p 2001 0),(8,iV i.c)]) (fun i=>[(1,⟨84,[bV false,sV none 0 0,bV false,sV none 0 0]⟩),(2001,⟨84,qc i.f⟩)])
  (fun i u' m'=>i.c<=h/\i.P.length<=i.c/\B9 (h-i.c) i.c i.P i.X i.d=B9 h 0 [] X0 1/\Rec n w i.X/\SzM i.X (es s i.c)/\Sz i.d (es s i.c)/\QP u' (qv i.f) i.d/\QAt u' i.rows i.X/\Bag m' (My (.slice i.pa i.P.length i.pc) i.P::oQ (.slice a n H) i.rows::i.rows.map Bj))
  (fun i=>h-i.c) ⟨0,[],none,0,a7,X0,f1,1⟩ ⟨A1c _,A0s _,rfl,d6,bh,(Qd (z:=1) fV).mono hs,k1,ca.mono l1,m,Af.nil _ _ _,ap⟩ ?_
 rintro J ⟨c,P,pa,pc,L,X,f,d⟩ hJ u2 m2 l2 ⟨hc,d5,a0,hX,an,ad,hf,hQ,U⟩;simp only at hc d5 a0 hX an ad hf hQ U hJ;clear ap ca bh k1;have aq:B9 (h-c) c P X d=(P,X,d)->∃ d0 d2 f' Q,(Value.tuple #[.slice pa P.length pc,qv f])=.tuple #[.slice d0 (B9 h 0 [] X0 1).1.length d2,qv f']/\QP u2 (qv f') (B9 h 0 [] X0 1).2.2/\QAt u2 Q (B9 h 0 [] X0 1).2.1/\Bag m2 (My (.slice d0 (B9 h 0 [] X0 1).1.length d2) (B9 h 0 [] X0 1).1::oQ (.slice a n H) Q::Q.map Bj):=by
  intro e;rw[e]at a0;rw[<-a0];exact⟨pa,pc,f,L,rfl,hf,hQ,U⟩
 by_cases df:h<=c
 ·exact G.lF c h<|G.r (.tuple #[.slice pa P.length pc,qv f]) (aq (by rw[show h-c=0 by omega];rfl))
 have df:c<h:=oV;refine G.lT c h ?_;obtain⟨K,hK⟩:∃ K,h-c=K+1:=⟨h-c-1,oV⟩;by_cases hP:n<=P.length
 ·exact G.lF P.length n<|G.r (.tuple #[.slice pa P.length pc,qv f]) (aq (by rw[hK,B9,if_neg (by rw[hX.1];omega)]))
 clear aq;have hP:P.length<n:=oV;refine G.lT P.length n ?_;have b1:0<w:=oV;have bz:L.length=n:=by rw[hQ.1,hX.1]
 obtain⟨C,dq,eo⟩:=U.ptr 1 rfl (by intro e;simp only[oQ,A57]at e;rw[e]at bz;simp at bz;omega);simp only[oQ,A0k,bz,Value.slice.injEq,true_and]at eo;obtain⟨rfl,rfl⟩:=eo;have dc:=Axy hs c;have cl:4*es s c+2<=1000000000:=A0l (Ao2 s (show c+1<=h by omega)) br;obtain⟨E,hE⟩:∃ E,E=es s c:=⟨_,rfl⟩;have c6:es s (c+1)=4*E+2:=by rw[hE];rfl
 rw[<-hE]at an ad dc cl;refine G.l (ι:=Nat) (fun p=>[(0,sV (some ⟨C,0,none⟩) n H),(1,iV h),(5,.p 1 0),(6,sV pa P.length pc),(7,.p 2001 0),(8,iV c),(9,iV P.length),(10,iV p)]) (fun _=>[(1,⟨84,[bV false,sV none 0 0,bV false,sV none 0 0]⟩),(2001,⟨84,qc f⟩)])
  (fun p u' m'=>P.length<=p/\p<=n/\Eh X c (n-p) p=Eh X c (n-P.length) P.length/\m'=m2) (fun p=>n-p) P.length ⟨A0s _,oV,rfl,rfl⟩ ?_
 rintro J2 p c8 u3 m3 l3 ⟨dw,dx,aw,rfl⟩;have N:=hQ.mono l3;have b7:=hf.mono l3;by_cases ab:n<=p
 ·obtain rfl:p=n:=oV;refine G.lF p p<|G.eT' p p rfl<|G.i c<|G.b (hJ ⟨c+1,P,pa,pc,L,X,f,d⟩ _ _ _ cV (l2.trans l3) ⟨dV,dV,?_,hX,an.mono dV,ad.mono dV,b7,N,U⟩ dV);dsimp only;rw[<-a0,hK,B9,if_pos (by rw[hX.1];exact hP),hX.1,<-aw,if_pos (by rw[A4r];rfl),show h-(c+1)=K by omega]
 have ab:p<n:=oV;refine G.lT p n ?_;obtain⟨K2,bl⟩:∃ K2,n-p=K2+1:=⟨n-p-1,oV⟩;obtain⟨gp,cp,ep,ct,di,c5,av,cj⟩:=Z7 U N hX ab b1;obtain⟨fp,dh,cm,cn⟩:=cj c oV;have bi:=an.at hX ab (show c<w by omega);refine G.a C 0 n H p 1 ab<|G.lM none C (0+p*1) _ av<|G.a gp 0 w cp c 4 oV<|G.lM (some 4) gp (0+c*4) (qv fp) cn<|G.c call151 (Nj cm (A0l bi.1 oV)) ?_;rintro v4 u4 l4 rfl;rw[Azs];by_cases hz:gR (gM X p) c=0
 ·rw[decide_eq_true hz];refine G.i p<|G.b (c8 (p+1) _ _ _ cV (l3.trans l4) ⟨oV,oV,?_,rfl⟩ oV);rw[<-aw,bl,Eh,if_pos hz,show n-(p+1)=K2 by omega]
 rw[decide_eq_false hz];rw[bl,Eh,if_neg hz]at aw;clear c8;refine G.eF p n<|G.join (ι:=E2) (.bool false) (fun i=>[(0,sV (some ⟨C,0,none⟩) n H),(1,iV h),(5,.p 1 0),(6,sV pa P.length pc),(7,.p 2001 0),(8,iV c),(9,iV P.length)]) (fun i=>[(1,⟨84,[bV false,sV none 0 0,bV false,sV none 0 0]⟩),(2001,⟨84,qc i.f⟩)])
  (fun i u' m'=>i.X=(if p=P.length then X else Hr X p P.length)/\i.d=(if p=P.length then d else 0-d)/\QAt u' i.rows i.X/\QP u' (qv i.f) i.d/\Bag m' (My (.slice pa P.length pc) P::oQ (.slice (some ⟨C,0,none⟩) n H) i.rows::i.rows.map Bj)) (fun _=>kV) kV ?tail ?way
 case way =>
  intro au;by_cases ba:p=P.length
  ·refine G.nF p P.length ?_;exact au ⟨L,X,f,d⟩ _ _ _ kV cV (PH.le_refl _) ⟨by rw[if_pos ba],by rw[if_pos ba],N.mono l4,b7.mono l4,U⟩
  refine G.nT p P.length ?_;obtain⟨V,cr,er,am,bg,ao,al,bp⟩:=Z7 U N hX hP b1;refine G.a C 0 n H P.length 1 hP<|G.lM none C (0+P.length*1) _ al<|G.a C 0 n H p 1 ab<|G.lM none C (0+p*1) _ av ?_;obtain⟨m0,a1,a8⟩:=U.focus 1 rfl;rw[Aa6]at a1;refine G.a C 0 n H p 1 ab<|G.storeA 1 m0 _ C n H p (.slice (some ⟨V,0,none⟩) w cr) kV a1 gV rfl rfl ?_;intro m5 dk;refine G.a C 0 n H P.length 1 hP<|G.storeA 1 m0 _ C n H P.length (.slice (some ⟨gp,0,none⟩) w cp) kV dk gV rfl rfl ?_;intro m6 cw;have c0:((L.map (·.1)).set p (Value.slice (some ⟨V,0,none⟩) w cr)).set P.length (Value.slice (some ⟨gp,0,none⟩) w cp)=((L.set p (Value.slice (some ⟨V,0,none⟩) w cr,er)).set P.length (Value.slice (some ⟨gp,0,none⟩) w cp,ep)).map (·.1):=by rw[A10,A10]
  rw[c0]at cw;have d7:=a8 (oQ (.slice (some ⟨C,0,none⟩) n H) ((L.set p (Value.slice (some ⟨V,0,none⟩) w cr,er)).set P.length (Value.slice (some ⟨gp,0,none⟩) w cp,ep))) m6 cw;have bw:((L.set p (Value.slice (some ⟨V,0,none⟩) w cr,er)).set P.length (Value.slice (some ⟨gp,0,none⟩) w cp,ep)).Perm L:=by
   obtain⟨q1,q2⟩:=A0o.1 ct;obtain⟨q3,q4⟩:=A0o.1 am;rw[<-q2,<-q4];exact List.set_set_perm q1 q3
  have d8:=Bag.perm (List.Perm.cons _ (List.Perm.cons _ (bw.symm.map Bj))) d7;have aa:=(N.set (i:=p) (r:=(Value.slice (some ⟨V,0,none⟩) w cr,er)) oV ao).set (i:=P.length) (r:=(Value.slice (some ⟨gp,0,none⟩) w cp,ep)) gV c5;refine G.c call24 (Od (z:=0) oV oV) ?_;intro v8 u8 l8 k8;rw[show ((0:Int):Rat)=0 from by decide]at k8;obtain⟨f8,rfl⟩:=k8.opQ;refine G.c call136 (Vj k8 (b7.mono (l4.trans l8)) (Qu.mono oV) (ad.mono oV)) ?_;intro v9 u9 l9 k9;obtain⟨f9,rfl⟩:=k9.opQ;exact au ⟨(L.set p (Value.slice (some ⟨V,0,none⟩) w cr,er)).set P.length (Value.slice (some ⟨gp,0,none⟩) w cp,ep),Hr X p P.length,f9,0-d⟩ _ _ _ kV cV (l8.trans l9) ⟨by rw[if_neg ba],by rw[if_neg ba],aa.mono (l4.trans (l8.trans l9)),k9,d8⟩
 rintro⟨rows1,X1,f1',d1⟩ u5 m5 l5 ⟨hX1e,hd1e,aa,hf1,hbag1⟩;simp only at hX1e hd1e aa hf1 hbag1;obtain⟨a5,ah,af⟩:=Ag2 hX ab hP an;have ay:Sz (if p=P.length then d else 0-d) (E+2):=by
  split
  ·exact ad.mono oV
  exact (Alg Qu ad).mono oV
 have az:B9 (h-c) c P X d=B9 (h-(c+1)) (c+1) (P++[c]) (Jb P.length c n 0 (Wd X1 P.length c)) (d1*gR (gM X1 P.length) c):=by
  rw[hK,B9,if_pos (by rw[hX.1];exact hP),hX.1,<-aw,if_neg oV,show h-(c+1)=K by omega,hX1e,hd1e,af];unfold I7;rw[hX.1]
 rw[<-hX1e]at a5 ah af;rw[<-hd1e]at ay;rw[az]at a0;have bb:gR (gM X1 P.length) c≠0:=by rw[af];exact hz
 clear az hX1e hd1e af U hQ N b7 hf an ad aw ct di c5 av cj dh cm cn bi hz bl;have cq:rows1.length=n:=by rw[aa.1,a5.1]
 obtain⟨V,cr,er,am,bg,ao,al,bp⟩:=Z7 hbag1 aa a5 hP b1;obtain⟨fr,h5,h6,h7⟩:=bp c oV;obtain⟨R,hR⟩:∃ R,R=gM X1 P.length:=⟨_,rfl⟩;have cb:R.length=w:=by rw[hR];exact a5.2 _ hP
 have bo:∀ j,j<w->Sz (gR R j) E:=fun j hj=>by rw[hR];exact ah.at a5 hP hj
 rw[<-hR]at h6 ao a0;obtain⟨F,hF⟩:∃ F,F=gR R c:=⟨_,rfl⟩;have b3:Sz F E:=by rw[hF];exact bo c oV
 rw[<-hF]at h6 a0;rw[<-hR,<-hF]at bb;refine G.a C 0 n H P.length 1 hP<|G.lM none C (0+P.length*1) _ al<|G.a V 0 w cr c 4 oV<|G.lM (some 4) V (0+c*4) (qv fr) h7<|G.c call127 (D7 hf1 h6 (ay.mono oV) (b3.mono oV)) ?_;intro v6 u6 l6 k6;obtain⟨f6,rfl⟩:=k6.opQ;refine G.a C 0 n H P.length 1 hP<|G.lM none C (0+P.length*1) _ al<|G.a V 0 w cr c 4 oV<|G.lM (some 4) V (0+c*4) (qv fr) h7<|G.a C 0 n H P.length 1 hP<|G.lM none C (0+P.length*1) _ al ?_;have bq:=Aoj F R;have c7:F≠0:=bb;refine G.l (ι:=Nat×List Value) (fun i=>[(0,sV (some ⟨C,0,none⟩) n H),(1,iV h),(5,.p 1 0),(6,sV pa P.length pc),(7,.p 2001 0),(8,iV c),(9,iV P.length),(11,.p 15007 0),(92,iV w),(93,iV i.1)]) (fun i=>[(1,⟨84,[bV false,sV none 0 0,bV false,sV none 0 0]⟩),(2001,⟨84,qc f6⟩),(15007,⟨84,qc fr⟩)])
  (fun i u' m'=>i.1<=w/\AtP QP u' i.2 (Sx (J6 F R) R i.1)/\Bag m' (My (.slice pa P.length pc) P::oQ (.slice (some ⟨C,0,none⟩) n H) rows1::(rows1.set P.length ((Value.slice (some ⟨V,0,none⟩) w cr),i.2)).map Bj)) (fun i=>w-i.1) (0,er)
  ⟨A1c _,by rw[Aa8];exact ao.mono (fun _ _ k=>k.mono l6),by rw[Rr am];exact hbag1⟩ ?_
 rintro J3 ⟨k,es1⟩ bk u7 m7 l7 ⟨hk,T,I⟩;simp only at hk T I bk;have b9:=Afw (k:=k) (bq.trans rfl) oV;have ck:es1.length=w:=by rw[T.1,b9,cb]
 have a2:(rows1.set P.length ((Value.slice (some ⟨V,0,none⟩) w cr),es1))[P.length]?=some ((Value.slice (some ⟨V,0,none⟩) w cr),es1):=by rw[A2g];simp[cq,hP]
 by_cases b8:k<w
 ·refine G.lT k w ?_;obtain⟨e,e1,e2⟩:=T.at (j:=k) oV;obtain⟨fe,rfl⟩:=e2.opQ;rw[<-E7 oV,Akd bq oV]at e2;have ho:ElP m7 C (0+P.length*1) (Value.slice (some ⟨V,0,none⟩) w cr):=I.el 1 (x:=oQ (.slice (some ⟨C,0,none⟩) n H) rows1) rfl rfl (by show (rows1.map (·.1))[P.length]?=_;rw[A0n,am];rfl);have he:ElP m7 V (0+k*4) (qv fe):=I.el (P.length+2) (x:=Bj ((Value.slice (some ⟨V,0,none⟩) w cr),es1)) (Jv a2) rfl e1;refine G.a C 0 n H P.length 1 hP<|G.lM none C (0+P.length*1) _ ho<|G.a C 0 n H P.length 1 hP<|G.lM none C (0+P.length*1) _ ho<|G.a V 0 w cr k 4 b8<|G.lM (some 4) V (0+k*4) (qv fe) he<|G.c call27 (Akc e2 (h6.mono (l6.trans l7)) ((bo k b8).mono oV) (b3.mono oV) c7) ?_;intro v8 u8 l8 k8;obtain⟨f8,rfl⟩:=k8.opQ;obtain⟨m0,a1,a8⟩:=I.focus (P.length+2) (Jv a2);rw[Iv]at a1;refine G.a V 0 w cr k 4 b8<|G.storeA 4 m0 es1 V w cr k (qv f8) kV a1 oV rfl rfl ?_;intro m9 dl;have cg:=a8 (Bj ((Value.slice (some ⟨V,0,none⟩) w cr),es1.set k (qv f8))) m9 dl;rw[Age,A5i]at cg;refine G.i k<|G.b (bk (k+1,es1.set k (qv f8)) _ _ _ cV (l7.trans l8) ⟨dV,?_,cg⟩ dV);dsimp only;rw[<-Afk bq oV,Aih];exact (T.mono (fun _ _ k=>k.mono l8)).set k k8
 obtain rfl:k=w:=oV;refine G.lF k k ?_;rw[Adv oV cb]at T;clear bk b9 b8 hk h7 al bp h5;have b5:Rec n k (X1.set P.length (J6 F R)):=In a5 hP oV;have bd:Wd X1 P.length c=X1.set P.length (J6 F R):=by unfold Wd;rw[<-hR,<-hF]
 rw[bd]at a0;have bn:=(aa.mono (l6.trans l7)).set (i:=P.length) (r:=((Value.slice (some ⟨V,0,none⟩) k cr),es1)) oV T;rw[<-Aif (es':=es1) am]at I;have a6:∀ i,gM (X1.set P.length (J6 F R)) i=if P.length=i then J6 F R else gM X1 i:=fun i=>I4 (by rw[a5.1];exact hP)
 generalize rows1.set P.length ((Value.slice (some ⟨V,0,none⟩) k cr),es1)=rows2 at *
 obtain⟨X2,be⟩:∃ X2,X2=X1.set P.length (J6 F R):=⟨_,rfl⟩;rw[<-be]at b5 bn a0 a6;have b6:∀ j,j<k->Sz (gR (J6 F R) j) (2*E):=fun j hj=>by rw[Aih];exact (Vx (bo j hj) b3 c7).mono oV
 have b0:∀ i j,i<n->j<k->i≠P.length->Sz (gR (gM X2 i) j) E:=fun i j hi hj bt=>by rw[a6,if_neg (fun e=>bt e.symm)];exact ah.at a5 hi hj
 have ax:gM X2 P.length=J6 F R:=by rw[a6,if_pos rfl]
 clear be bd aa hbag1 a6 ah a5 am bg ao T a2 ck cq;refine G.l (ι:=Nat×List (Value×List Value)×List (List Rat)) (fun i=>[(0,sV (some ⟨C,0,none⟩) n H),(1,iV h),(5,.p 1 0),(6,sV pa P.length pc),(7,.p 2001 0),(8,iV c),(9,iV P.length),(113,iV n),(114,iV i.1)]) (fun i=>[(1,⟨84,[bV false,sV none 0 0,bV false,sV none 0 0]⟩),(2001,⟨84,qc f6⟩)])
  (fun i u' m'=>i.1<=n/\Jb P.length c (n-i.1) i.1 i.2.2=Jb P.length c n 0 X2/\Rec n k i.2.2/\gM i.2.2 P.length=J6 F R/\(∀ x j,i.1<=x->x<n->j<k->x≠P.length->Sz (gR (gM i.2.2 x) j) E)/\SzM i.2.2 (4*E+2)/\QAt u' i.2.1 i.2.2/\Bag m' (My (.slice pa P.length pc) P::oQ (.slice (some ⟨C,0,none⟩) n H) i.2.1::i.2.1.map Bj))
  (fun i=>n-i.1) (0,rows2,X2) ⟨A1c _,rfl,b5,ax,fun x j _ hx hj bt=>b0 x j hx hj bt,Abu b5 (fun x j hx hj=>?_),bn,I⟩ ?_
 ·by_cases e:x=P.length
  ·rw[e,ax];exact (b6 j hj).mono oV
  exact (b0 x j hx hj e).mono oV
 clear I bn b0 ax b5;rintro J4 ⟨i,t,X3⟩ b4 u8 m8 l8 ⟨hi,aj,Z,a3,a4,a9,N,O⟩;simp only at hi aj Z a3 a4 a9 N O b4;have dj:t.length=n:=by rw[N.1,Z.1]
 by_cases W:i<n
 ·refine G.lT i n ?_;obtain⟨K3,bm⟩:∃ K3,n-i=K3+1:=⟨n-i-1,oV⟩;by_cases ak:i=P.length
  ·refine G.eT i P.length<|G.i i<|G.b (b4 (i+1,t,X3) _ _ _ cV l8 ⟨dV,?_,Z,a3,fun x j h1=>a4 x j (by dsimp only at h1;omega),a9,N,O⟩ dV);dsimp only;rw[<-aj,bm,Jb,if_pos (.inl ak),show n-(i+1)=K3 by omega]
  refine G.eF i P.length ?_;obtain⟨gi,ci,ei,bx,dd,c4,bu,da⟩:=Z7 O N Z W b1;obtain⟨fg,g5,g6,g7⟩:=da c oV;have ar:=a4 i c (A0s _) W (show c<k by omega) ak;refine G.a C 0 n H i 1 W<|G.lM none C (0+i*1) _ bu<|G.a gi 0 k ci c 4 oV<|G.lM (some 4) gi (0+c*4) (qv fg) g7<|G.c call151 (Nj g6 (A0l ar.1 oV)) ?_;rintro v9 u9 l9 rfl;rw[Azs];by_cases ag:gR (gM X3 i) c=0
  ·rw[decide_eq_true ag];refine G.i i<|G.b (b4 (i+1,t,X3) _ _ _ cV (l8.trans l9) ⟨dV,?_,Z,a3,fun x j h1=>a4 x j (by dsimp only at h1;omega),a9,N.mono l9,O⟩ dV);dsimp only;rw[<-aj,bm,Jb,if_pos (.inr ag),show n-(i+1)=K3 by omega]
  rw[decide_eq_false ag];obtain⟨S,hS⟩:∃ S,S=gM X3 i:=⟨_,rfl⟩;have cc:S.length=k:=by rw[hS];exact Z.2 i W
  have cd:∀ j,j<k->Sz (gR S j) E:=fun j hj=>by rw[hS];exact a4 i j (A0s _) W hj ak
  have ch:Jb P.length c (n-(i+1)) (i+1) (X3.set i (Qp (gR S c) (J6 F R) S))=Jb P.length c n 0 X2:=by
   rw[<-aj,bm,Jb,if_neg (by simp[ak,ag]),show n-(i+1)=K3 by omega,hS,a3]
  rw[<-hS]at g6 ar c4;generalize hg:gR S c=g at *
  have c1:=Ase g (J6 F R) S;refine G.a C 0 n H i 1 W<|G.lM none C (0+i*1) _ bu<|G.a gi 0 k ci c 4 oV<|G.lM (some 4) gi (0+c*4) (qv fg) g7<|G.a C 0 n H i 1 W<|G.lM none C (0+i*1) _ bu ?_;obtain⟨gs,cs,c3,cu,dp,ds,dv,db⟩:=Z7 O N Z hP b1;refine G.l (ι:=Nat×List Value) (fun y=>[(0,sV (some ⟨C,0,none⟩) n H),(1,iV h),(5,.p 1 0),(6,sV pa P.length pc),(7,.p 2001 0),(8,iV c),(9,iV P.length),(113,iV n),(114,iV i),(13,iV i),(14,.p 25007 0),(141,iV k),(142,iV y.1)]) (fun y=>[(1,⟨84,[bV false,sV none 0 0,bV false,sV none 0 0]⟩),(2001,⟨84,qc f6⟩),(25007,⟨84,qc fg⟩)])
   (fun y u' m'=>y.1<=k/\AtP QP u' y.2 (Sx (Qp g (J6 F R) S) S y.1)/\Bag m' (My (.slice pa P.length pc) P::oQ (.slice (some ⟨C,0,none⟩) n H) t::(t.set i ((Value.slice (some ⟨gi,0,none⟩) k ci),y.2)).map Bj)) (fun y=>k-y.1) (0,ei)
   ⟨A1c _,by rw[Aa8];exact c4.mono (fun _ _ k=>k.mono l9),by rw[Rr bx];exact O⟩ ?_
  rintro J5 ⟨y,Y⟩ c9 dy m10 b2 ⟨hy,T,I⟩;simp only at hy T I c9;have b9:=Afw (k:=y) c1 oV;have ck:Y.length=k:=by rw[T.1,b9,cc]
  have a2:(t.set i ((Value.slice (some ⟨gi,0,none⟩) k ci),Y))[i]?=some ((Value.slice (some ⟨gi,0,none⟩) k ci),Y):=by rw[A2g];simp[dj,W]
  have bs:(t.set i ((Value.slice (some ⟨gi,0,none⟩) k ci),Y))[P.length]?=some (Value.slice (some ⟨gs,0,none⟩) k cs,c3):=by rw[A2g,if_neg ak];exact cu
  by_cases ae:y<k
  ·refine G.lT y k ?_;obtain⟨e,e1,e2⟩:=T.at (j:=y) oV;obtain⟨fe,rfl⟩:=e2.opQ;rw[<-E7 oV,Akd c1 oV]at e2;have ho:ElP m10 C (0+i*1) (Value.slice (some ⟨gi,0,none⟩) k ci):=I.el 1 (x:=oQ (.slice (some ⟨C,0,none⟩) n H) t) rfl rfl (by show (t.map (·.1))[i]?=_;rw[A0n,bx];rfl);have av:ElP m10 C (0+P.length*1) (Value.slice (some ⟨gs,0,none⟩) k cs):=I.el 1 (x:=oQ (.slice (some ⟨C,0,none⟩) n H) t) rfl rfl (by show (t.map (·.1))[P.length]?=_;rw[A0n,cu];rfl);have he:ElP m10 gi (0+y*4) (qv fe):=I.el (i+2) (x:=Bj ((Value.slice (some ⟨gi,0,none⟩) k ci),Y)) (Jv a2) rfl e1;obtain⟨fs,s5,s6,_⟩:=db y ae;rw[a3]at s6;have br:ElP m10 gs (0+y*4) (qv fs):=I.el (P.length+2) (x:=Bj (Value.slice (some ⟨gs,0,none⟩) k cs,c3)) (Jv bs) rfl s5;refine G.a C 0 n H i 1 W<|G.lM none C (0+i*1) _ ho<|G.a C 0 n H i 1 W<|G.lM none C (0+i*1) _ ho<|G.a gi 0 k ci y 4 ae<|G.lM (some 4) gi (0+y*4) (qv fe) he<|G.a C 0 n H P.length 1 hP<|G.lM none C (0+P.length*1) _ av<|G.a gs 0 k cs y 4 ae<|G.lM (some 4) gs (0+y*4) (qv fs) br<|G.c call127 (D7 (g6.mono (l9.trans b2)) (s6.mono (l9.trans b2)) (ar.mono oV) ((b6 y ae).mono oV)) ?_;intro e4 dz c2 cx;obtain⟨dr,rfl⟩:=cx.opQ;have dg:=Kp ar (b6 y ae);refine G.c call136 (Vj (e2.mono c2) cx ((cd y ae).mono oV) (dg.mono oV)) ?_;intro e5 e0 cz cy;obtain⟨bj,rfl⟩:=cy.opQ;obtain⟨m0,a1,a8⟩:=I.focus (i+2) (Jv a2);rw[Iv]at a1;refine G.a gi 0 k ci y 4 ae<|G.storeA 4 m0 Y gi k ci y (qv bj) kV a1 oV rfl rfl ?_;intro dm cv;have bf:=a8 (Bj ((Value.slice (some ⟨gi,0,none⟩) k ci),Y.set y (qv bj))) dm cv;rw[Age,A5i]at bf;refine G.i y<|G.b (c9 (y+1,Y.set y (qv bj)) _ _ _ cV ((b2.trans c2).trans cz) ⟨dV,?_,bf⟩ dV);dsimp only;rw[<-Afk c1 oV,Aiw _ _ _ oV];exact (T.mono (fun _ _ k=>k.mono (c2.trans cz))).set y cy
  obtain rfl:y=k:=oV;refine G.lF y y ?_;rw[Adv oV cc]at T;rw[<-Aif (es':=Y) bx]at I;refine G.i i ?_;have ce:Rec n y (X3.set i (Qp g (J6 F R) S)):=In Z W oV;have ac:∀ x,gM (X3.set i (Qp g (J6 F R) S)) x=if i=x then Qp g (J6 F R) S else gM X3 x:=fun x=>I4 (by rw[Z.1];exact W)
  refine G.b (b4 (i+1,t.set i ((Value.slice (some ⟨gi,0,none⟩) y ci),Y),X3.set i (Qp g (J6 F R) S)) _ _ _ cV ((l8.trans l9).trans b2) ⟨dV,ch,ce,?_,?_,?_,?_,I⟩ dV)
  ·dsimp only;rw[ac,if_neg ak];exact a3
  ·intro x j h1 h2 h3 h4;dsimp only at h1⊢;rw[ac,if_neg oV];exact a4 x j oV h2 h3 h4
  ·refine Abu ce (fun x j hx hj=>?_);rw[ac];split
   ·rw[Aiw _ _ _ oV];exact (Alg (cd j hj) (Kp ar (b6 j hj))).mono oV
   exact a9.at Z hx hj
  exact (N.mono (l9.trans b2)).set (i:=i) (r:=((Value.slice (some ⟨gi,0,none⟩) y ci),Y)) oV T
 obtain rfl:i=n:=oV;refine G.lF i i ?_;rw[A4r,Jb]at aj;rw[<-aj]at a0;refine G.B 3 1 8 (.int .i64 0) [.int .i64 c] (A4 [c]) ?_;intro g9 u9 l9 e9;obtain⟨m0,a1,d9⟩:=O;rw[Aka]at a1;have dd:(Ai P).length=P.length:=by simp[Ai]
 refine G.append 3 1 8 (.int .i64 0) m0 (Ai P) [.int .i64 c] (.slice pa P.length pc) g9 0 1 1 kV rfl rfl oV a1 e9 (A4 [c]) rfl oV oV oV ?_;intro e3 m10 ai;rw[show Ai P++[Value.int .i64 c]=Ai (P++[c]) by simp[Ai]]at ai;obtain⟨d3,d4,rfl⟩:=ai.shape;have el:(Ai (P++[c])).length=(P++[c]).length:=by simp[Ai]
 rw[el]at ai⊢;refine G.i c<|G.b (hJ ⟨c+1,P++[c],d3,d4,t,X3,f6,d1*F⟩ _ _ _ cV ((((((l2.trans l3).trans l4).trans l5).trans l6).trans l7).trans (l8.trans l9)) ⟨dV,gV,a0,Z,?_,?_,k6.mono ((l7.trans l8).trans l9),N.mono l9,m0,ai,d9⟩ dV)
 ·dsimp only;rw[c6];exact a9
 dsimp only;rw[c6];exact (Kp ay b3).mono oV
section
variable {P:List Par}{es:List Value}{pv v:Value}{qs:List Rat}{u:PH}
def Aqw (h:Ab u pv 2 (P.map An))(L:D5 Bf P)(T:P.length<=1000000):Fn0 prog 91 [pv] u fun r _=>r=.bool true:=by
 obtain⟨a,c,rfl⟩:=h.opn;rw[A0k]at h⊢;refine Fn0.o func91<|G.l (ι:=Nat) (fun i=>[(0,sV a P.length c),(3,iV i)]) (fun _=>[])
  (fun i V O=>1<=i/\O=PH.mt) (fun i=>P.length-i) 1 ⟨oV,rfl⟩ ?_
 rintro J i K W U l2 ⟨R,rfl⟩;by_cases d:i<P.length
 ·refine G.lT i P.length ?_;have t:P[i]?=some P[i]:=A0i d;have z:P[i-1]?=some (P[i-1]'oV):=A0i oV;have C:Bf (P[i-1]'oV) P[i]<0:=A3c.1 L (i-1) i oV d oV;obtain⟨m,n,E,H⟩:=Ab.at' (h.mono l2) (j:=i) (e:=An P[i]) (by simp[t]);obtain⟨F,Q,g,I⟩:=Ab.at' (h.mono l2) (j:=i-1) (e:=An (P[i-1]'oV)) (by simp[z]);rw[E]at g;cases g;subst E;refine G.s i 1 (i-1:Nat)<|G.a m n P.length c (i-1) 2 oV<|G.lU (some 2) m (n+(i-1)*2) (An (P[i-1]'oV)) I<|G.a m n P.length c i 2 d<|G.lU (some 2) m (n+i*2) (An P[i]) H<|G.c call125 (Ev _ _ true (decide_eq_true C)) ?_;rintro Y X N rfl;exact G.i i<|G.b (K (i+1) _ _ _ cV (l2.trans N) ⟨oV,rfl⟩ oV)
 exact G.lF i P.length<|G.r (.bool true) ⟨rfl,rfl⟩
def Ze (qs:List Rat):List (List Rat):=qs.map fun q=>[q]
def F5.snoc1 {g:List (List (List UInt8))}{a:Option Addr}{c:Nat}{r:List (List UInt8)}(h:F5 u es g)(E:Ck u (.slice a r.length c) r):F5 u (es++[.slice a r.length c]) (g++[r]):=by
 refine⟨by simp[h.1],fun j r' d=>?_⟩;by_cases e:j<g.length
 ·rw[A09 e]at d;obtain⟨n,t,z,C⟩:=h.2 j r' d;exact⟨n,t,by rw[A09 (by rw[h.1];exact e)];exact z,C⟩
 rw[A1d oV]at d;have m:j-g.length=0:=by
  rcases A1p (j-g.length) with h0|h0
  ·exact h0
  rw[A1k gV]at d;cases d
 rw[m]at d;simp at d;subst d;exact⟨a,c,by rw[A1d (by rw[h.1];omega),h.1,m];rfl,E⟩
def Ag9 (h:Ck u v (qs.map Ag))(hl:qs.length<=1000):Fn0 prog 88 [v] u fun r H=>Fm H r (Dv (Ze qs)):=by
 obtain⟨a,c,rfl⟩:=Ab.opn h;rw[Du,A0k]at h⊢;refine Fn0.o func88<|G.l (ι:=Nat×(Option Addr×Nat)×List Value) (fun i=>[(0,sV a qs.length c),(3,sV i.2.1.1 i.2.2.length i.2.1.2),(6,sV a qs.length c),(7,iV qs.length),(8,iV i.1)]) (fun _=>[])
  (fun i H X=>i.1<=qs.length/\F5 H i.2.2 (Dv (Ze (qs.take i.1)))/\Af PH.mt X (.slice i.2.1.1 i.2.2.length i.2.1.2) 70 1 i.2.2) (fun i=>qs.length-i.1) (0,(none,0),[])
  ⟨oV,⟨rfl,fun j r C=>by simp[Dv,Ze]at C⟩,Af.nil _ _ _⟩ ?_
 rintro J ⟨i,⟨Y,Z⟩,es⟩ I u1 m1 L ⟨V,m,z⟩;simp only at V m z I;have U:es.length=i:=by rw[m.1];simp[Dv,Ze];omega
 by_cases n:i<qs.length
 ·refine G.lT i qs.length ?_;obtain⟨q,K⟩:∃ q,qs[i]?=some q:=⟨_,A0i n⟩;have E:qs.take (i+1)=qs.take i++[q]:=by rw[A0t,K];rfl
  obtain⟨b,o,rfl,e⟩:=Ab.at' (Ab.mono h L) (j:=i) (e:=.string (mkS (Ag q))) (by simp[B4,K]);refine G.a b o qs.length c i 1 n<|G.lU none b (o+i*1) (.string (mkS (Ag q))) e<|G.B 30 1 16 (.string (mkS [])) [.string (mkS (Ag q))] (Jc [Ag q]) ?_;intro g2 u2 l2 Q;have t:Ck u2 (.slice (some ⟨g2,0,none⟩) 1 1) [Ag q]:=⟨_,1,rfl,A0s _,fun j x C=>⟨g2,0,rfl,Q j x C⟩⟩;refine G.B 70 1 24 (.slice none 0 0) [.slice (some ⟨g2,0,none⟩) 1 1] (B6 _ _ _) ?_;intro g3 u3 F R;refine G.append 70 1 24 (.slice none 0 0) PH.mt es [.slice (some ⟨g2,0,none⟩) 1 1] _ g3 0 1 1 kV rfl rfl oV z R (B6 _ _ _) rfl oV oV oV ?_;intro v4 m4 d;obtain⟨N,O,rfl⟩:=d.shape;refine G.i i<|G.b (I (i+1,(N,O),es++[.slice (some ⟨g2,0,none⟩) 1 1]) _ _ _ cV ((L.trans l2).trans F) ⟨dV,?_,d⟩ dV);have T:Dv (Ze (qs.take (i+1)))=Dv (Ze (qs.take i))++[[Ag q]]:=by rw[E];simp[Dv,Ze]
  dsimp only;rw[T];exact (m.mono (l2.trans F)).snoc1 (r:=[Ag q]) (Ab.mono t F)
 obtain rfl:i=qs.length:=oV;refine G.lF qs.length qs.length ?_;rw[A05]at m;refine G.give _ _ _ kV z (fun g=>.inl rfl) ?_;intro u6 W hF;exact G.r (.slice Y es.length Z) ⟨rfl,es,hF,m.mono W⟩
def Art (h:Ab u v 4 es)(I:AtP QP u es qs)(hT:∀ q∈qs,Tx q)(Z:qs.length<=1000):Fn0 prog 90 [v] u fun r O=>∃ K,r=.tuple #[K,.int .i64 0]/\Ck O K (qs.map Ag):=by
 obtain⟨a,c,rfl⟩:=Ab.opn h;have C:=I.1;rw[C]at h⊢;refine Fn0.o func90<|G.l (ι:=Nat×(Option Addr×Nat)) (fun i=>[(4,sV i.2.1 i.1 i.2.2),(9,sV a qs.length c),(10,iV qs.length),(11,iV i.1)]) (fun _=>[])
  (fun i O Y=>i.1<=qs.length/\Af PH.mt Y (.slice i.2.1 i.1 i.2.2) 30 1 (B4 ((qs.take i.1).map Ag))) (fun i=>qs.length-i.1) (0,none,0) ⟨oV,Af.nil _ _ _⟩ ?_
 rintro J ⟨i,L,N⟩ H u1 m1 F ⟨V,z⟩;simp only at V z H;by_cases n:i<qs.length
 ·refine G.lT i qs.length ?_;obtain⟨q,m⟩:∃ q,qs[i]?=some q:=⟨_,A0i n⟩;have E:qs.take (i+1)=qs.take i++[q]:=by rw[A0t,m];rfl
  obtain⟨x,W,t⟩:=I.2 i q m;obtain⟨f,rfl⟩:=t.opQ;obtain⟨b,o,rfl,e⟩:=Ab.at' (Ab.mono h F) (j:=i) (e:=qv f) W;refine G.a b o qs.length c i 4 n<|G.lU (some 4) b (o+i*4) (qv f) e<|G.c call28 (Nh (t.mono F) (hT q (A0w m))) ?_;rintro v2 u2 l2 rfl;refine G.nF 0 0<|G.B 30 1 16 (.string (mkS [])) [.string (mkS (Ag q))] (Jc [Ag q]) ?_;intro g3 u3 X T;refine G.append 30 1 16 (.string (mkS [])) PH.mt (B4 ((qs.take i).map Ag)) [.string (mkS (Ag q))] (.slice L i N) g3 0 1 1 kV rfl rfl oV z T (Jc [Ag q]) rfl oV (by simp[B4];omega) (by simp[B4];omega) ?_;intro v4 m4 d;have U:B4 ((qs.take i).map Ag)++[.string (mkS (Ag q))]=B4 ((qs.take (i+1)).map Ag):=by rw[E];simp[B4]
  rw[U]at d;obtain⟨Q,R,rfl⟩:=d.shape;have el:(B4 ((qs.take (i+1)).map Ag)).length=i+1:=by simp[B4];omega
  rw[el]at d⊢;exact G.i i<|G.b (H (i+1,Q,R) _ _ _ cV ((F.trans l2).trans X) ⟨dV,d⟩ dV)
 obtain rfl:i=qs.length:=oV;refine G.lF qs.length qs.length ?_;rw[A05]at z;refine G.give _ _ _ kV z (fun g=>.inl rfl) ?_;intro u6 l6 hF;exact G.r (.tuple #[.slice L qs.length N,.int .i64 0]) ⟨rfl,_,rfl,hF⟩
def Agq {pv lv:Value}{m0:Rat}(O:Ab u pv 2 (P.map An))(E:Ck u lv ((m0::qs).map Ag))(hs:D5 Bf P)(F:qs.length=P.length)(hl:P.length<=1000)(h0:Tx m0)(hT:∀ q∈qs,Tx q) :
 Fn0 prog 39 [pv,lv] u fun r u'=>∃ mv,r=.tuple #[mv,.int .i64 0]/\Of u' mv m0 (P.zip qs):=by
 have t:=Aqw O hs oV;obtain⟨a,c,rfl⟩:=O.opn;obtain⟨la,z,rfl⟩:=Ab.opn E;have hn:(B4 ((m0::qs).map Ag)).length=P.length+1:=by rw[Du,A0k,A1y,F]
 rw[A0k]at O t⊢;rw[hn]at E⊢;have U:∀ i q,(m0::qs)[i]?=some q->Tx q:=fun i q hq=>by
  rcases A0v.1 (A0w hq) with rfl|h
  ·exact h0
  exact hT q h
 refine Fn0.o func39<|G.c call91 t ?_;rintro v1 u1 l1 rfl;refine G.p P.length 1 (P.length+1:Nat)<|G.nF (P.length+1:Nat) (P.length+1:Nat)<|G.l (ι:=Nat) (fun i=>[(0,sV a P.length c),(1,sV la (P.length+1) z),(4,.p 0 0),(22,sV la (P.length+1) z),(23,iV (P.length+1:Nat)),(24,iV i)]) (fun _=>[(0,⟨55,[tV [],sV none 0 0]⟩)])
  (fun i u' X=>i<=P.length+1/\X=PH.mt) (fun i=>P.length+1-i) 0 ⟨oV,rfl⟩ ?_
 rintro J i C u2 m2 l2 ⟨hi,rfl⟩;by_cases n:i<P.length+1
 ·refine G.lT i (P.length+1:Nat) ?_;obtain⟨q,d⟩:∃ q,(m0::qs)[i]?=some q:=⟨_,A0i gV⟩;obtain⟨b,o,rfl,e⟩:=Ab.at' (Ab.mono E (l1.trans l2)) (j:=i) (e:=.string (mkS (Ag q))) (by unfold B4;rw[A0n,A0n,d];rfl);refine G.a b o (P.length+1) z i 1 n<|G.lU none b (o+i*1) (.string (mkS (Ag q))) e<|G.c call86 (D9 (U i q d)) ?_;rintro v3 u3 Q rfl;exact G.i i<|G.b (C (i+1) _ _ _ cV (l2.trans Q) ⟨oV,rfl⟩ oV)
 obtain rfl:i=P.length+1:=oV;refine G.lF (P.length+1:Nat) (P.length+1:Nat) ?_;clear C;have K:=l1.trans l2;obtain⟨b,o,rfl,e⟩:=Ab.at' (Ab.mono E K) (j:=0) (e:=.string (mkS (Ag m0))) rfl;refine G.a b o (P.length+1) z 0 1 oV<|G.lU none b (o+0*1) (.string (mkS (Ag m0))) e<|G.l (ι:=Nat×(Option Addr×Nat)) (fun i=>[(1,sV (some ⟨b,o,none⟩) (P.length+1) z),(4,.p 0 0),(8,.p 11004 0),(37,sV a P.length c),(38,iV P.length),(39,iV i.1)]) (fun i=>[(0,⟨55,[tV [],sV none 0 0]⟩),(11004,⟨55,[tV (Ag m0),sV i.2.1 i.1 i.2.2]⟩)])
  (fun i u' X=>i.1<=P.length/\Af PH.mt X (.slice i.2.1 i.1 i.2.2) 80 3 (((P.zip qs).take i.1).map As)) (fun i=>P.length-i.1) (0,none,0) ⟨oV,Af.nil _ _ _⟩ ?_
 rintro J ⟨i,Y,Z⟩ C u3 m3 Q ⟨V,N⟩;simp only at V N C;have L:=K.trans Q;have I:(P.zip qs).length=P.length:=by rw[A6j];omega
 by_cases n:i<P.length
 ·refine G.lT i P.length ?_;obtain⟨p,H⟩:∃ p,P[i]?=some p:=⟨_,A0i n⟩;obtain⟨q,d⟩:∃ q,qs[i]?=some q:=⟨_,A0i oV⟩;have hz:(P.zip qs)[i]?=some (p,q):=by rw[List.getElem?_zip_eq_some];exact⟨H,d⟩
  have W:(P.zip qs).take (i+1)=(P.zip qs).take i++[(p,q)]:=by rw[A0t,hz];rfl
  obtain⟨bp,op,rfl,ep⟩:=Ab.at' (O.mono L) (j:=i) (e:=An p) (by simp[H]);obtain⟨R,T⟩:=p;refine G.a bp op P.length c i 2 n<|G.lU (some 2) bp (op+i*2) (.agg #[.int .i64 R,.string (mkS T)]) ep ?_;obtain⟨b2,o2,e0,e2⟩:=Ab.at' (Ab.mono E L) (j:=i+1) (e:=.string (mkS (Ag q))) (by unfold B4;rw[A0n,A0n,A2v,d];rfl);cases e0;refine G.i i<|G.a b o (P.length+1) z (i+1) 1 oV<|G.lU none b (o+(i+1)*1) (.string (mkS (Ag q))) e2<|G.B 80 3 40 (.agg #[.int .i64 0,.string (mkS []),.string (mkS [])]) [As ((R,T),q)] (Gt _) ?_;intro g4 u4 l4 e4;refine G.k 80 3 40 (.agg #[.int .i64 0,.string (mkS []),.string (mkS [])]) PH.mt (((P.zip qs).take i).map As) [As ((R,T),q)] (.slice Y i Z) g4 0 1 1 N e4 (Gt _) ?_;intro v5 m5 m;have e6:((P.zip qs).take i).map As++[As ((R,T),q)]=((P.zip qs).take (i+1)).map As:=by rw[W];simp
  rw[e6]at m;obtain⟨a5,c5,rfl⟩:=m.shape;have el:(((P.zip qs).take (i+1)).map As).length=i+1:=by rw[A0k,A0q];omega
  rw[el]at m⊢;exact G.i i<|G.b (C (i+1,a5,c5) _ _ _ cV (Q.trans l4) ⟨dV,m⟩ dV)
 obtain rfl:i=P.length:=oV;refine G.lF P.length P.length ?_;rw[A00 oV]at N;refine G.give _ _ _ kV N (fun g=>.inl rfl) ?_;intro u6 l6 hF;exact G.r (.tuple #[.agg #[.string (mkS (Ag m0)),.slice Y P.length Z],.int .i64 0]) ⟨rfl,_,rfl,⟨Y,Z,by rw[I],by rw[I];exact hF⟩⟩
end
section
variable {P:List Par}{m m0:PH}{v:Value}
def C1 (r:Value×List Value):Arr:=⟨r.1,30,1,r.2⟩
def oT (v:Value)(rows:List (Value×List Value)):Arr:=⟨v,70,1,rows.map (·.1)⟩
def Fi {r:Value×List Value}:(C1 r).At m0 m=Af m0 m r.1 30 1 r.2:=rfl
def Aer {d:List (Value×List Value)}:(oT v d).At m0 m=Af m0 m v 70 1 (d.map (·.1)):=rfl
def txV (l:List Rat):List Value:=l.map fun q=>.string (mkS (Ag q))
def Cw (l:List Rat):(txV l).length=l.length:=by simp[txV]
def Hs (l:List Rat)(q:Rat):txV l++[.string (mkS (Ag q))]=txV (l++[q]):=by simp[txV]
def Do (q:Rat):Bm 1 [.string (mkS (Ag q))]:=Jc [Ag q]
def Nq (l:List Rat):txV l=B4 (l.map Ag):=by simp[txV,B4]
def Kx (C:CF)(P:List Par):List (List Rat):=(Ae P).map fun e=>(Ae P).map (Aq C e)
def Ez {i:Nat}:(Ae P).take (i+1)=none::(P.take i).map some:=by unfold Ae;rw[List.take_succ_cons,A37]
def Adt {u:PH}{v cv:Value}{T:List (List UInt8×Nat)}{R:List Bw}{F:List Ao}{lab:Int}{C:CF}{K k:Nat}(h:Y3 u v cv T R F lab C K k P) :
 Ah prog 82 [v,cv] u PH.mt fun r u' m'=>∃ (pa:Option Addr) (z:Nat) (xa:Option Addr) (xc:Nat) (Q:Option Addr) (U:Nat) (d:List (Value×List Value)),
  r=.tuple #[.agg #[.slice pa P.length z,.slice xa (P.length+1) xc,.slice Q (P.length+1) U],.int .i64 0]/\Ab u' (.slice pa P.length z) 2 (P.map An)/\d.map (·.2)=(Kx C P).map txV /\
  Bag m' (C1 (.slice Q (P.length+1) U,txV ((Ae P).map (Av C)))::oT (.slice xa (P.length+1) xc) d::d.map C1):=by
 have az:=Wb h.sch h.ok h.cof h.sC h.vC h.K h.bel;have bw:=h.p24;have hK:=h.K;have bx:=h.lab0;have hS:=fun (u':PH) (l:PH.le u u') (p:Par)=>Avf p (h.cof.mono l) oV;have hQ:=fun (u':PH) (l:PH.le u u') (p q:Par)=>Ul p q (h.cof.mono l) oV;have ae:=Ba P;obtain⟨xa,xc,xb,xd,xe,xf,rfl,_⟩:=id h.sch;obtain⟨a1,n1,c1,a2,n2,c2,rfl⟩:=id h.cof.opn;refine Ah.o func82<|G.c call20 az ?_;intro v1 u1 l1 hp;obtain⟨ps,L,rfl,hL,_,ag⟩:=hp.resolve_left fun⟨_,L,bd,ag⟩=>by rw[ag.eq h.prm]at bd;omega
 rw[ag.eq h.prm]at hL;obtain⟨pa,z,rfl⟩:=hL.opn;rw[A0k]at hL⊢;refine G.nF 0 0<|G.lF lab 0<|G.c call165 (hS u1 l1 Eb) ?_;rintro v2 u2 l2 rfl;refine G.buildM 30 1 16 (.string (mkS [])) [.string (mkS (Ag (C.s Eb)))] kV (Do _) rfl oV mV mV ?_;intro g3 m3 be;refine G.buildM 30 1 16 (.string (mkS [])) [.string (mkS (Ag C.c))] kV (Do _) rfl oV mV mV ?_;intro g4 m4 bf;refine G.l (ι:=Nat×(Option Addr×Nat)×(Option Addr×Nat)) (fun i=>[(3,.p 1 0),(4,.p 2 0),(6,sV pa P.length z),(8,.p 6001 0),(9,.p 7006 0),(10,sV i.2.1.1 (i.1+1) i.2.1.2),(42,sV pa P.length z),(43,iV P.length),(44,iV i.1)])
  (fun i=>[(1,⟨34,[tV (Ag C.c),sV a1 n1 c1,sV a2 n2 c2]⟩),(2,⟨72,[sV none 0 0,sV none 0 0,sV none 0 0]⟩),(6001,⟨78,[iV (-1),tV []]⟩),
   (7006,⟨72,[.v (.slice pa P.length z),.v (.slice none 0 0),.v (.slice i.2.2.1 (i.1+1) i.2.2.2)]⟩)])
  (fun i u' m'=>i.1<=P.length/\Bag m' [C1 (.slice i.2.1.1 (i.1+1) i.2.1.2,txV (((Ae P).take (i.1+1)).map (Aq C none))),C1 (.slice i.2.2.1 (i.1+1) i.2.2.2,txV (((Ae P).take (i.1+1)).map (Av C)))]) (fun i=>P.length-i.1) (0,(some ⟨g4,0,none⟩,1),(some ⟨g3,0,none⟩,1))
  ⟨oV,m3,bf,PH.mt,be,trivial⟩ ?_
 rintro J ⟨i,⟨fa,fc⟩,⟨Q,U⟩⟩ hJ u5 m5 l5 ⟨hi,g⟩;simp only at hi g hJ;have ab:=(l1.trans l2).trans l5;by_cases Y:i<P.length
 ·refine G.lT i P.length ?_;obtain⟨p,Z⟩:∃ p,P[i]?=some p:=⟨_,A0i Y⟩;have a9:(Ae P).take (i+1+1)=(Ae P).take (i+1)++[some p]:=by rw[Ez,Ez,A0t,Z];simp
  obtain⟨V,op,rfl,ep⟩:=Ab.at' (hL.mono (l2.trans l5)) (j:=i) (e:=An p) (by simp[Z]);refine G.a V op P.length z i 2 Y<|G.lU (some 2) V (op+i*2) (.agg #[.int .i64 p.1,.string (mkS p.2)]) ep<|G.c call165 (hS u5 ab p) ?_;rintro v6 u6 l6 rfl;refine G.B 30 1 16 (.string (mkS [])) [.string (mkS (Ag (C.s p)))] (Do _) ?_;intro g7 u7 l7 e7;obtain⟨m0,H,E⟩:=g.focus 0 rfl;rw[Fi]at H;have X:(txV (((Ae P).take (i+1)).map (Aq C none))).length=i+1:=by rw[Cw,A0k,A0q];omega
  refine G.append 30 1 16 (.string (mkS [])) m0 (txV (((Ae P).take (i+1)).map (Aq C none))) [.string (mkS (Ag (C.s p)))] (.slice fa (i+1) fc) g7 0 1 1 kV rfl rfl oV H e7 (Do _) rfl oV (by rw[X];omega) (by rw[X];omega) ?_;intro v8 m8 a4;have e8:txV (((Ae P).take (i+1)).map (Aq C none))++[.string (mkS (Ag (C.s p)))]=txV (((Ae P).take (i+1+1)).map (Aq C none)):=by rw[a9,A02,Hs];rfl
  rw[e8]at a4;have ai:(txV (((Ae P).take (i+1+1)).map (Aq C none))).length=i+1+1:=by rw[Cw,A0k,A0q];omega
  obtain⟨a8,c8,rfl⟩:=a4.shape;rw[ai]at a4⊢;have ah:=E (C1 (.slice a8 (i+1+1) c8,txV (((Ae P).take (i+1+1)).map (Aq C none)))) m8 a4;have bn:=(ab.trans l6).trans l7;refine G.c call166 (hQ u7 bn Eb p) ?_;rintro v9 u9 l9 rfl;refine G.B 30 1 16 (.string (mkS [])) [.string (mkS (Ag (C.t (Aw Eb p))))] (Do _) ?_;intro ac c0 bk b5;obtain⟨bo,b1,aj⟩:=ah.focus 1 rfl;rw[Fi]at b1;have ay:(txV (((Ae P).take (i+1)).map (Av C))).length=i+1:=by rw[Cw,A0k,A0q];omega
  refine G.append 30 1 16 (.string (mkS [])) bo (txV (((Ae P).take (i+1)).map (Av C))) [.string (mkS (Ag (C.t (Aw Eb p))))] (.slice Q (i+1) U) ac 0 1 1 kV rfl rfl oV b1 b5 (Do _) rfl oV (by rw[ay];omega) (by rw[ay];omega) ?_;intro c4 b4 I;have b6:txV (((Ae P).take (i+1)).map (Av C))++[.string (mkS (Ag (C.t (Aw Eb p))))]=txV (((Ae P).take (i+1+1)).map (Av C)):=by rw[a9,A02,Hs];rfl
  rw[b6]at I;have bg:(txV (((Ae P).take (i+1+1)).map (Av C))).length=i+1+1:=by rw[Cw,A0k,A0q];omega
  obtain⟨al,ao,rfl⟩:=I.shape;rw[bg]at I⊢;have a5:=aj (C1 (.slice al (i+1+1) ao,txV (((Ae P).take (i+1+1)).map (Av C)))) b4 I;exact G.i i<|G.b (hJ (i+1,(a8,c8),(al,ao)) _ _ _ cV ((((l5.trans l6).trans l7).trans l9).trans bk) ⟨dV,a5⟩ dV)
 obtain rfl:i=P.length:=oV;refine G.lF P.length P.length ?_;clear hJ;rw[show (Ae P).take (P.length+1)=Ae P by rw[A00 oV]]at g;have ab:=(l1.trans l2).trans l5;have bz:(txV ((Ae P).map (Aq C none))).length=P.length+1:=by rw[Cw,A0k,ae]
 refine G.B 70 1 24 (.slice none 0 0) [.slice fa (P.length+1) fc] (B6 _ _ _) ?_;intro g6 u6 l6 e6;refine G.append 70 1 24 (.slice none 0 0) m5 [] [.slice fa (P.length+1) fc] (.slice none 0 0) g6 0 1 1 kV rfl rfl oV (Af.nil _ _ _) e6 (B6 _ _ _) rfl oV mV mV ?_;intro v7 m7 ad;obtain⟨a7,c7,rfl⟩:=ad.shape;have aw:Bag m7 (C1 (.slice Q (P.length+1) U,txV ((Ae P).map (Av C)))::oT (.slice a7 1 c7) [(.slice fa (P.length+1) fc,txV ((Ae P).map (Aq C none)))]::[(Value.slice fa (P.length+1) fc,txV ((Ae P).map (Aq C none)))].map C1) :=
  Bag.perm (A76 (l₁:=[oT (.slice a7 1 c7) [(.slice fa (P.length+1) fc,txV ((Ae P).map (Aq C none)))],C1 (.slice fa (P.length+1) fc,txV ((Ae P).map (Aq C none)))]) (l₂:=[C1 (.slice Q (P.length+1) U,txV ((Ae P).map (Av C)))])) ⟨m5,ad,g⟩
 have bm:=ab.trans l6;have af:=hL.mono ((l2.trans l5).trans l6);have bh:∀ i,i<=P.length->((Kx C P).take (i+1)).length=i+1:=fun i hi=>by rw[A0q];unfold Kx;rw[A0k,ae];omega
 refine G.l (ι:=Nat×(Option Addr×Nat)×List (Value×List Value)) (fun i=>[(3,.p 1 0),(4,.p 2 0),(6,sV pa P.length z),(9,.p 7006 0),(70,sV pa P.length z),(71,iV P.length),(72,iV i.1)])
  (fun i=>[(1,⟨34,[tV (Ag C.c),sV a1 n1 c1,sV a2 n2 c2]⟩),(2,⟨72,[sV none 0 0,sV none 0 0,sV none 0 0]⟩),
   (7006,⟨72,[.v (.slice pa P.length z),.v (.slice i.2.1.1 (i.1+1) i.2.1.2),.v (.slice Q (P.length+1) U)]⟩)])
  (fun i u' m'=>i.1<=P.length/\i.2.2.map (·.2)=((Kx C P).take (i.1+1)).map txV/\Bag m' (C1 (.slice Q (P.length+1) U,txV ((Ae P).map (Av C)))::oT (.slice i.2.1.1 (i.1+1) i.2.1.2) i.2.2::i.2.2.map C1)) (fun i=>P.length-i.1)
  (0,(a7,c7),[(.slice fa (P.length+1) fc,txV ((Ae P).map (Aq C none)))]) ⟨oV,by unfold Kx Ae;rfl,aw⟩ ?_
 clear aw ad g;rintro J ⟨i,⟨a0,a3⟩,d⟩ hJ u8 m8 l8 ⟨hi,n,g⟩;simp only at hi n g hJ;have bi:d.length=i+1:=by have:=congrArg List.length n;rw[A0k,A0k,bh i hi]at this;exact this
 by_cases Y:i<P.length
 ·refine G.lT i P.length ?_;obtain⟨p,Z⟩:∃ p,P[i]?=some p:=⟨_,A0i Y⟩;have a9:(Ae P).take (i+1+1)=(Ae P).take (i+1)++[some p]:=by rw[Ez,Ez,A0t,Z];simp
  have b3:=bm.trans l8;obtain⟨V,op,e0,ep⟩:=Ab.at' (af.mono l8) (j:=i) (e:=An p) (by simp[Z]);subst e0;refine G.a V op P.length z i 2 Y<|G.lU (some 2) V (op+i*2) (.agg #[.int .i64 p.1,.string (mkS p.2)]) ep<|G.c call165 (hS u8 b3 p) ?_;rintro v9 u9 l9 rfl;refine G.buildM 30 1 16 (.string (mkS [])) [.string (mkS (Ag (C.s p)))] kV (Do _) rfl oV mV mV ?_;intro ac m10 ar;refine G.l (ι:=Nat×(Option Addr×Nat)) (fun j=>[(3,.p 1 0),(4,.p 2 0),(6,sV (some ⟨V,op,none⟩) P.length z),(9,.p 7006 0),(14,.p 18002 0),(15,sV j.2.1 (j.1+1) j.2.2),(70,sV (some ⟨V,op,none⟩) P.length z),(71,iV P.length),(72,iV i),(80,sV (some ⟨V,op,none⟩) P.length z),(81,iV P.length),(82,iV j.1)])
   (fun j=>[(1,⟨34,[tV (Ag C.c),sV a1 n1 c1,sV a2 n2 c2]⟩),(2,⟨72,[sV none 0 0,sV none 0 0,sV none 0 0]⟩),
    (7006,⟨72,[.v (.slice (some ⟨V,op,none⟩) P.length z),.v (.slice a0 (i+1) a3),.v (.slice Q (P.length+1) U)]⟩),(18002,⟨78,[.v (.int .i64 p.1),.v (.string (mkS p.2))]⟩)])
   (fun j u' m'=>j.1<=P.length/\Bag m' (C1 (.slice j.2.1 (j.1+1) j.2.2,txV (((Ae P).take (j.1+1)).map (Aq C (some p))))::C1 (.slice Q (P.length+1) U,txV ((Ae P).map (Av C)))::oT (.slice a0 (i+1) a3) d::d.map C1)) (fun j=>P.length-j.1)
   (0,some ⟨ac,0,none⟩,1) ⟨oV,m8,ar,g⟩ ?_
  rintro J2 ⟨j,la,lc⟩ au bt b4 aa ⟨hj,a6⟩;simp only at hj a6 au;have b2:=(b3.trans l9).trans aa;by_cases ax:j<P.length
  ·refine G.lT j P.length ?_;obtain⟨q,b0⟩:∃ q,P[j]?=some q:=⟨_,A0i ax⟩;have bj:(Ae P).take (j+1+1)=(Ae P).take (j+1)++[some q]:=by rw[Ez,Ez,A0t,b0];simp
   obtain⟨bq,oq,e0,eq⟩:=Ab.at' (af.mono ((l8.trans l9).trans aa)) (j:=j) (e:=An q) (by simp[b0]);cases e0;refine G.a V op P.length z j 2 ax<|G.lU (some 2) V (op+j*2) (.agg #[.int .i64 q.1,.string (mkS q.2)]) eq<|G.c call166 (hQ bt b2 p q) ?_;rintro c5 bu ak rfl;refine G.B 30 1 16 (.string (mkS [])) [.string (mkS (Ag (C.t (Aw p q))))] (Do _) ?_;intro bb c3 bl b8;obtain⟨m0,H,E⟩:=a6.focus 0 rfl;rw[Fi]at H;have X:(txV (((Ae P).take (j+1)).map (Aq C (some p)))).length=j+1:=by rw[Cw,A0k,A0q];omega
   refine G.append 30 1 16 (.string (mkS [])) m0 (txV (((Ae P).take (j+1)).map (Aq C (some p)))) [.string (mkS (Ag (C.t (Aw p q))))] (.slice la (j+1) lc) bb 0 1 1 kV rfl rfl oV H b8 (Do _) rfl oV (by rw[X];omega) (by rw[X];omega) ?_;intro c9 bs O;have b9:txV (((Ae P).take (j+1)).map (Aq C (some p)))++[.string (mkS (Ag (C.t (Aw p q))))]=txV (((Ae P).take (j+1+1)).map (Aq C (some p))):=by rw[bj,A02,Hs];rfl
   rw[b9]at O;have ai:(txV (((Ae P).take (j+1+1)).map (Aq C (some p)))).length=j+1+1:=by rw[Cw,A0k,A0q];omega
   obtain⟨an,aq,rfl⟩:=O.shape;rw[ai]at O⊢;have W:=E (C1 (.slice an (j+1+1) aq,txV (((Ae P).take (j+1+1)).map (Aq C (some p))))) bs O;exact G.i j<|G.b (au (j+1,an,aq) _ _ _ cV ((aa.trans ak).trans bl) ⟨dV,W⟩ dV)
  obtain rfl:j=P.length:=oV;refine G.lF P.length P.length ?_;rw[show (Ae P).take (P.length+1)=Ae P by rw[A00 oV]]at a6;refine G.B 70 1 24 (.slice none 0 0) [.slice la (P.length+1) lc] (B6 _ _ _) ?_;intro ba bu ak b7;obtain⟨m0,H,E⟩:=a6.focus 2 rfl;rw[Aer]at H;refine G.k 70 1 24 (.slice none 0 0) m0 (d.map (·.1)) [.slice la (P.length+1) lc] (.slice a0 (i+1) a3) ba 0 1 1 H b7 (B6 _ _ _) ?_;intro c6 br N;have em:d.map (·.1)++[Value.slice la (P.length+1) lc]=(d++[(Value.slice la (P.length+1) lc,txV ((Ae P).map (Aq C (some p))))]).map (·.1):=mV;rw[em]at N;obtain⟨am,ap,rfl⟩:=N.shape;have el:((d++[(Value.slice la (P.length+1) lc,txV ((Ae P).map (Aq C (some p))))]).map (·.1)).length=i+1+1:=by simp[bi]
  rw[el]at N⊢;have av:=E (oT (.slice am (i+1+1) ap) (d++[(Value.slice la (P.length+1) lc,txV ((Ae P).map (Aq C (some p))))])) br N;have W:=Bag.perm Aas av;refine G.i i<|G.b (hJ (i+1,(am,ap),d++[(Value.slice la (P.length+1) lc,txV ((Ae P).map (Aq C (some p))))]) _ _ _ cV (((l8.trans l9).trans aa).trans ak) ⟨dV,?_,by simpa using W⟩ dV);dsimp only;rw[A02,n];unfold Kx;rw[<-A37,<-A37,a9,A02,A02];rfl
 obtain rfl:i=P.length:=oV;refine G.lF P.length P.length ?_;rw[A00 (by unfold Kx;rw[A0k,ae];omega)]at n;exact G.r (.tuple #[.agg #[.slice pa P.length z,.slice a0 (P.length+1) a3,.slice Q (P.length+1) U],.int .i64 0]) ⟨pa,z,a0,a3,Q,U,d,rfl,af.mono l8,n,g⟩
end
section
variable {C:CF}{F:List Ao}{K c i k n:Nat}{P:List Par}{R:List Bw}{T:List (List UInt8×Nat)}{X:List (List Rat)}{cv v:Value}{lab:Int}{m u:PH}{o s:Arr}{q:Rat}{r:Value×List Value}{rows:List (Value×List Value)}
def Rg (h:rows[i]?=some r):(s::o::rows.map C1)[i+2]?=some (C1 r):=by simp[h]
def Aqf :(s::o::rows.map C1).set (i+2) (C1 r)=s::o::(rows.set i r).map C1:=by
 simp[A10]
def Axn {x:Value}{es es':List Value}(h:rows[i]?=some (x,es)):oT v (rows.set i (x,es'))=oT v rows:=by
 unfold oT
 congr 1
 rw[A10];exact Rr (by rw[A0n,h];rfl)
def Az1 {g n c i:Nat}(h:Bag m (s::oT (.slice (some ⟨g,0,none⟩) n c) rows::rows.map C1))(U:rows.map (·.2)=X.map txV)(J:Rec n n X)(N:i<n) :
 ∃ z I,rows[i]?=some (.slice (some ⟨z,0,none⟩) n I,txV (gM X i))/\ElP m g (0+i*1) (.slice (some ⟨z,0,none⟩) n I)/\∀ j,j<n->ElP m z (0+j*1) (.string (mkS (Ag (gR (gM X i) j)))):=by
 have Y:rows.length=n:=by have:=congrArg List.length U;simpa[J.1] using this
 have d:rows[i]?=some rows[i]:=A0i oV;obtain⟨⟨Z,O⟩,V⟩:∃ x,rows[i]=x:=⟨_,rfl⟩;rw[V]at d;have L:O=txV (gM X i):=by
  have Q:(rows.map (·.2))[i]?=some O:=by rw[A0n,d];rfl
  have H:i<X.length:=by rw[J.1];exact N
  rw[U,A0n,A0i H]at Q;rw[Gx H];simpa using Q.symm
 subst L;have t:(txV (gM X i)).length=n:=by rw[Cw,J.2 i N]
 obtain⟨z,I,e⟩:=h.ptr (i+2) (Rg d) (by intro e;simp only[C1]at e;rw[e]at t;simp at t;omega);simp only[C1]at e;rw[t]at e;subst e;refine⟨z,I,d,h.el 1 (x:=oT _ rows) rfl rfl (by show (rows.map (·.1))[i]?=_;rw[A0n,d];rfl),fun j W=>?_⟩;have E:j<(gM X i).length:=by rw[J.2 i N];exact W
 exact h.el (i+2) (x:=C1 _) (Rg d) rfl (by show (txV (gM X i))[j]?=_;unfold txV;rw[A0n,A0i E,E7 E];rfl)
def Akl {v:Value}{a:Option Addr}(e:Bag m (s::oT (.slice a n c) rows::rows.map C1))(L:rows.map (·.2)=X.map txV)(J:PH.le m u):Fm u (.slice a n c) (Dv X):=by
 obtain⟨m0,h0,_⟩:=e.focus 1 rfl;have z:rows.length=X.length:=by have:=congrArg List.length L;simpa using this
 rw[Aer]at h0;refine⟨rows.map (·.1),h0.list J,by simp[Dv,z],fun j r g=>?_⟩;unfold Dv at g;rw[A0n]at g;cases hx:X[j]? with
 |none=>rw[hx]at g;cases g
 |some x =>
  rw[hx]at g;simp only[A3g,A0u]at g;subst g;obtain⟨U,_⟩:=A0o.1 hx;have d:rows[j]?=some rows[j]:=A0i oV;obtain⟨⟨W,H⟩,Q⟩:∃ x,rows[j]=x:=⟨_,rfl⟩;rw[Q]at d;have t:H=txV x:=by
   have h:(rows.map (·.2))[j]?=some H:=by rw[A0n,d];rfl
   rw[L,A0n,hx]at h;simpa using h.symm
  subst t;obtain⟨V,h,_⟩:=e.focus (j+2) (Rg d);rw[Fi]at h;obtain⟨N,O,E⟩:=h.shape;simp only at E;subst E;have I:=h.list J;simp only[Cw]at I;refine⟨N,O,by rw[A0n,d];simp[Cw],?_⟩;rw[A0k];unfold Ck;rw[<-Nq];exact I
def Hy (q:Rat)(X:List (List Rat)):Nat->List (List Rat)
 |0=>X
 |1=>X
 |i+2=>(Hy q X (i+1)).set (i+1) ((gM (Hy q X (i+1)) (i+1)).set (i+1) (gR (gM (Hy q X (i+1)) (i+1)) (i+1)+q))
def Qw {q:Rat}{X:List (List Rat)}{n:Nat}(d:Rec n n X):∀ i,i<=n->Rec n n (Hy q X i)
 |0,_=>d
 |1,_=>d
 |i+2,h=>by
  have e:=Qw d (q:=q) (i+1) oV;exact In e oV (by rw[A3r,e.2 (i+1) oV])
theorem Abi {q:Rat}{X:List (List Rat)}{n:Nat}(t:Rec n n X):∀ i,i<=n->∀ a b,a<n->b<n->en (Hy q X i) a b=en X a b+if a=b/\0<a/\a<i then q else 0
 |0,_,a,b,_,_=>by rw[if_neg oV];show en X a b=en X a b+0;grind
 |1,_,a,b,_,_=>by rw[if_neg oV];show en X a b=en X a b+0;grind
 |i+2,h,a,b,ha,hb=>by
  have d:=Abi t (q:=q) (i+1) oV a b ha hb;have z:=Qw t (q:=q) (i+1) oV;have E:i+1<(gM (Hy q X (i+1)) (i+1)).length:=by rw[z.2 (i+1) oV];omega
  show gR (gM ((Hy q X (i+1)).set (i+1) _) a) b=_;rw[I4 (by rw[z.1];omega)];by_cases e:i+1=a
  ·rw[if_pos e,Apc E];by_cases g:i+1=b
   ·subst e;subst g;rw[if_pos rfl,if_pos ⟨rfl,oV,oV⟩];rw[if_neg oV]at d;show en (Hy q X (i+1)) (i+1) (i+1)+q=_;rw[d];grind
   subst e;rw[if_neg g,if_neg oV];rw[if_neg oV]at d;exact d
  rw[if_neg e];show en (Hy q X (i+1)) a b=_;rw[d];by_cases j:a=b/\0<a/\a<i+1
  ·rw[if_pos j,if_pos oV]
  rw[if_neg j,if_neg oV]
def Apl {r:List Rat}(h:X[i]?=some r):gM X i=r:=by unfold gM;rw[A0j,h];rfl
def Um {l:List Rat}{r:Rat}(h:l[i]?=some r):gR l i=r:=by unfold gR;rw[A0j,h];rfl
def Ake (C:CF)(P:List Par)(e:i<P.length+1):gM (Kx C P) i=(Ae P).map (Aq C ((Ae P).getD i none)):=by
 have d:i<(Ae P).length:=by rw[Ba];exact e
 refine Apl ?_;unfold Kx;rw[A0n,A0i d,A0j,A0i d];rfl
def Xo (C:CF)(P:List Par):Rec (P.length+1) (P.length+1) (Kx C P) :=
 ⟨by unfold Kx;rw[A0k,Ba],fun i d=>by rw[Ake C P d,A0k,Ba]⟩
def Alt (C:CF)(P:List Par){i j:Nat}(e:i<P.length+1)(g:j<P.length+1):en (Kx C P) i j=Aq C ((Ae P).getD i none) ((Ae P).getD j none):=by
 have d:j<(Ae P).length:=by rw[Ba];exact g
 unfold en;rw[Ake C P e];refine Um ?_;rw[A0n,A0j (l:=Ae P) (i:=j),A0i d];rfl
def Gw.de (h:Gw q):De 2 2 q:=by
 obtain⟨p,d,e⟩:=h.thirty;exact⟨p,30,d,oV,oV,oV⟩
def Y3.cellDe (h:Y3 u v cv T R F lab C K k P)(e f:Option Par):De 75 18 (Aq C e f):=by
 cases e<;>cases f
 ·show De 75 18 C.c;rw[h.mom.c];exact (De.nat (a:=2) (by have:=h.mom.lt;omega)).mono oV oV
 ·exact h.mom.s _
 ·exact h.mom.s _
 exact h.mom.t _
theorem Aez (h:Y3 u v cv T R F lab C K k P)(hq:Gw q) :
 Fn0 prog 37 [v,cv,.string (mkS (Ag q))] u fun r W=>(∃ e:Int,e≠0/\(k=0/\e=12\/k≠0/\11<P.length)/\r=.tuple #[.agg #[.slice none 0 0,.slice none 0 0,.slice none 0 0],.int .i64 e]) \/
  (k≠0/\P.length<=11/\∃ (U:Option Addr) (V:Nat) (xa:Option Addr) (xc:Nat) (N:Option Addr) (O:Nat),r=.tuple #[.agg #[.slice U P.length V,.slice xa (P.length+1) xc,.slice N (P.length+1) O],.int .i64 0]/\Ab W (.slice U P.length V) 2 (P.map An) /\
   Fm W (.slice xa (P.length+1) xc) (Dv (Hy q (Kx C P) (P.length+1)))/\Ck W (.slice N (P.length+1) O) (((Ae P).map (Av C)).map Ag)):=by
 have af:=Adt h;have ad:=fun (W:PH) (l:PH.le u W)=>Adl (h.mono l) hq;have ae:=h.cellDe;obtain⟨xa,xc,xb,xd,xe,xf,rfl,_⟩:=id h.sch;obtain⟨a1,n1,c1,a2,n2,c2,rfl⟩:=id h.cof.opn;refine Fn0.o func37<|G.callO _ _ kV call82 af ?_;rintro v1 u1 m1 l1 ⟨U,V,ya,H,N,O,rows,rfl,aa,d,t⟩ _;rw[Cm];refine G.nF 0 0<|G.c call83 (ad u1 l1) ?_;rintro v2 u2 l2 rfl;by_cases h0:k=0
 ·rw[if_pos h0];exact G.nT 12 0<|G.drop PH.mt kV (PH.mt_le _)<|G.r (.tuple #[.agg #[.slice none 0 0,.slice none 0 0,.slice none 0 0],.int .i64 12]) ⟨rfl,.inl ⟨12,oV,.inl ⟨h0,rfl⟩,rfl⟩⟩
 rw[if_neg h0];refine G.nF 0 0 ?_;by_cases ag:P.length+1>12
 ·exact G.gT (P.length+1:Nat) 12<|G.drop PH.mt kV (PH.mt_le _)<|G.r (.tuple #[.agg #[.slice none 0 0,.slice none 0 0,.slice none 0 0],.int .i64 3]) ⟨rfl,.inl ⟨3,oV,.inr ⟨h0,oV⟩,rfl⟩⟩
 refine G.gF (P.length+1:Nat) 12 ?_;have hX:=Xo C P;generalize ac:Kx C P=X at d hX;have ab:∀ i j,i<P.length+1->j<P.length+1->De 75 18 (en X i j):=fun i j hi hj=>by rw[<-ac,Alt C P hi hj];exact ae _ _
 have a7:rows.length=P.length+1:=by have:=congrArg List.length d;simpa[hX.1] using this
 obtain⟨L,co,eo⟩:=t.ptr 1 rfl (fun e=>by
  have:(rows.map (·.1)).length=0:=by rw[show rows.map (·.1) = [] from e];rfl
  rw[A0k]at this;omega)
 have a8:(Value.slice ya (P.length+1) H)=.slice (some ⟨L,0,none⟩) (P.length+1) co:=by
  have e1:(oT (.slice ya (P.length+1) H) rows).v=Value.slice ya (P.length+1) H:=rfl;rw[e1]at eo;rw[eo];have:(oT (.slice ya (P.length+1) H) rows).es.length=P.length+1:=by show (rows.map (·.1)).length=_;rw[A0k,a7]
  rw[this]
 cases a8;refine G.l (ι:=Nat×List (Value×List Value)) (fun i=>[(2,tV (Ag q)),(6,.p 2 0),(8,.p 1006 0),(11,iV i.1)])
  (fun _=>[(2,⟨72,[sV none 0 0,sV none 0 0,sV none 0 0]⟩),(1006,⟨72,[sV U P.length V,sV (some ⟨L,0,none⟩) (P.length+1) H,sV N (P.length+1) O]⟩)])
  (fun i W m'=>1<=i.1/\i.1<=P.length+1/\i.2.map (·.2)=(Hy q X i.1).map txV/\Bag m' (C1 (.slice N (P.length+1) O,txV ((Ae P).map (Av C)))::oT (.slice (some ⟨L,0,none⟩) (P.length+1) H) i.2::i.2.map C1)) (fun i=>P.length+1-i.1)
  (1,rows) ⟨oV,oV,d,t⟩ ?_
 clear t d a7;rintro J ⟨i,rows⟩ hJ u3 m3 l3 ⟨a9,hi,d,t⟩;simp only at a9 hi d t hJ;have Z:=Qw (q:=q) hX i hi;by_cases z:i<P.length+1
 ·refine G.lT i (P.length+1:Nat) ?_;obtain⟨I,Q,a6,e1,e2⟩:=Az1 t d Z z;have a3:gR (gM (Hy q X i) i) i=en X i i:=by
   have:=Abi (q:=q) hX i hi i i z z;rw[if_neg oV]at this;show en (Hy q X i) i i=_;rw[this];grind
  have hd:=ab i i z z;refine G.a L 0 (P.length+1) H i 1 z<|G.lM none L (0+i*1) (.slice (some ⟨I,0,none⟩) (P.length+1) Q) e1<|G.a I 0 (P.length+1) Q i 1 z<|G.lM none I (0+i*1) (.string (mkS (Ag (gR (gM (Hy q X i) i) i)))) (e2 i z) ?_;rw[a3];have ha:=hd.add hq.de (f:=77) oV oV;refine G.c call84 (Auf (hd.tx oV oV oV oV) hq.tx (ha.tx oV oV oV oV)) ?_;rintro v4 u4 l4 rfl;refine G.nF 0 0<|G.a L 0 (P.length+1) H i 1 z<|G.lM none L (0+i*1) (.slice (some ⟨I,0,none⟩) (P.length+1) Q) e1<|G.a I 0 (P.length+1) Q i 1 z ?_;obtain⟨m0,E,a5⟩:=t.focus (i+2) (Rg a6);rw[Fi]at E;have ah:(txV (gM (Hy q X i) i)).length=P.length+1:=by rw[Cw,Z.2 i z]
  refine G.storeA 1 m0 (txV (gM (Hy q X i) i)) I (P.length+1) Q i (.string (mkS (Ag (en X i i+q)))) kV E oV rfl rfl ?_;intro m5 Y;have es:(txV (gM (Hy q X i) i)).set i (.string (mkS (Ag (en X i i+q))))=txV ((gM (Hy q X i) i).set i (gR (gM (Hy q X i) i) i+q)):=by
   rw[a3];unfold txV;rw[A10]
  rw[es]at Y;have a0:=a5 (C1 (.slice (some ⟨I,0,none⟩) (P.length+1) Q,txV ((gM (Hy q X i) i).set i (gR (gM (Hy q X i) i) i+q)))) m5 Y;rw[Aqf,<-Axn a6 (es':=txV ((gM (Hy q X i) i).set i (gR (gM (Hy q X i) i) i+q)))]at a0;refine G.i i<|G.b (hJ (i+1,rows.set i (.slice (some ⟨I,0,none⟩) (P.length+1) Q,txV ((gM (Hy q X i) i).set i (gR (gM (Hy q X i) i) i+q)))) _ _ _ cV (l3.trans l4) ⟨dV,dV,?_,a0⟩ dV);dsimp only;obtain⟨j,rfl⟩:∃ j,i=j+1:=⟨i-1,oV⟩;rw[A10,d,<-A10];rfl
 obtain rfl:i=P.length+1:=oV;refine G.lF (P.length+1:Nat) (P.length+1:Nat)<|G.giveP (ma:=m3) (sm:=PH.mt) kV (by funext g;unfold PH.or;cases m3 g<;>rfl) (fun g=>.inr rfl) (fun g=>.inl rfl) ?_
 intro u6 l6 a4;obtain⟨m0,E,_⟩:=t.focus 0 rfl;rw[Fi]at E;have hR:Ck u6 (.slice N (P.length+1) O) (((Ae P).map (Av C)).map Ag):=by
  unfold Ck;rw[<-Nq];exact E.list a4
 exact G.r (.tuple #[.agg #[.slice U P.length V,.slice (some ⟨L,0,none⟩) (P.length+1) H,.slice N (P.length+1) O],.int .i64 0]) ⟨rfl,.inr ⟨h0,oV,U,V,_,H,N,O,rfl,aa.mono ((l2.trans l3).trans l6),Akl (v:=.bool true) t d a4,hR⟩⟩
end
section
variable {n q:Nat}
structure Tq (q:Rat):Prop where
 tx:Tx q
 den:q.den ∣ 21600
 num:q.num.natAbs<=3000000000000
def Az5 {q d:Nat}(g:q ∣ 21600)(e:d ∣ 21600):q*(d/Nat.gcd q d) ∣ 21600:=by
 rw[<-Nat.mul_div_assoc _ (Nat.gcd_dvd_right _ _)];exact Bas g e
def leW (h:q ∣ 21600):0<q/\q<=21600:=⟨Nat.pos_of_dvd_of_pos h oV,A4l oV h⟩
def nlM (h:n<1000000000000000000):nl n<=2:=A8 (by simpa using h)
def Av3 (h:n<100000000000000000):Lib.nDigits n<=17:=Dr (k:=17) oV oV
def Su {u:PH}{v:Value}{A:List (List Rat)}{n w:Nat}(h:Fm u v (Dv A))(hA:A.length<=12)(hr:∀ r∈A,r.length=w)(hw:w<=12)(hT:∀ r∈A,∀ q∈r,Tq q)(hn:n<=12):Fn0 prog 87 [v,.int .i64 n] u fun v' _=>v'=.bool false:=by
 obtain⟨a,c,rfl⟩:=h.opn;rw[Bs]at h⊢;refine Fn0.o func87<|G.c call66 (Acw (n:=1) oV oV) ?_;intro v1 u1 l1 k1;obtain⟨f1,rfl⟩:=k1.opB;refine G.l (ι:=Nat×B3×Nat) (fun i=>[(0,sV a A.length c),(1,iV n),(5,.p 1001 0),(18,iV A.length),(19,iV i.1)]) (fun i=>[(1001,⟨82,bc i.2.1⟩)])
  (fun i u' U=>i.1<=A.length/\i.2.2 ∣ 21600/\C9 u' (bv i.2.1) (i.2.2:Int)/\U=PH.mt) (fun i=>A.length-i.1) (0,f1,1) ⟨A1c _,Baq _,k1,rfl⟩ ?_
 rintro J ⟨i,f,q⟩ Y u2 m2 l2 ⟨hi,H,F,rfl⟩;simp only at hi H F Y;by_cases d:i<A.length
 ·refine G.lT i A.length ?_;obtain⟨m,C,a1,c1,rfl,N,X⟩:=(h.mono (l1.trans l2)).row (Em (A0i d));rw[A0k,hr _ (A0y d)]at N X;refine G.a m C A.length c i 1 d<|G.lU none m (C+i*1) _ N<|G.l (ι:=Nat×B3×Nat) (fun k=>[(0,sV (some ⟨m,C,none⟩) A.length c),(1,iV n),(5,.p 1001 0),(18,iV A.length),(19,iV i),(6,iV i),(26,iV w),(27,iV k.1)]) (fun k=>[(1001,⟨82,bc k.2.1⟩)])
   (fun k u' U=>k.1<=w/\k.2.2 ∣ 21600/\C9 u' (bv k.2.1) (k.2.2:Int)/\U=PH.mt) (fun k=>w-k.1) (0,f,q) ⟨A1c _,H,F,rfl⟩ ?_
  clear F H;rintro J2 ⟨k,f,q⟩ E u3 m3 L ⟨hk,H,F,rfl⟩;simp only at hk H F E;by_cases z:k<w
  ·refine G.lT k w ?_;have t:k<A[i].length:=by rw[hr _ (A0y d)];exact z
   have g:Tq A[i][k]:=hT _ (A0y d) _ (A0y t);obtain⟨W,o2,rfl,e3⟩:=Ab.at' (Ab.mono X L) (j:=k) (e:=.string (mkS (Ag A[i][k]))) (by simp[B4,A0i t]);refine G.a m C A.length c i 1 d<|G.lU none m (C+i*1) _ (N.mono L)<|G.a W o2 w c1 k 1 z<|G.lU none W (o2+k*1) _ e3<|G.c call26 (H9 g.tx) ?_;intro v4 u4 I k4;obtain⟨b4,a4,n4,c4,ag,am,ai,rfl,_,_,a3⟩:=k4.opn;have hd:=g.den;generalize A[i][k]=x at *
   obtain⟨a7,Z⟩:=leW hd;obtain⟨P,a2⟩:=leW H;have ak:0<Nat.gcd q x.den:=Nat.gcd_pos_of_pos_left _ P;refine G.c call138 (Abv (F.mono I) a3 (A0l (nl1 oV) oV) (A0l (nl1 oV) oV)) ?_;intro v5 u5 V k5;simp only[A1e]at k5;obtain⟨f5,rfl⟩:=k5.opB;have ad:Nat.gcd q x.den<=q:=Nat.gcd_le_left _ P;refine G.c call139 (R5 (a3.mono V) k5 (A0l (nl1 oV) oV) (A0l (nl1 oV) oV) oV) ?_;rintro v6 u6 l6 ⟨x6,y6,rfl,Q,R⟩;obtain⟨f6,rfl⟩:=Q.opB;obtain⟨a6,rfl⟩:=R.opB;have e6:((x.den:Int)).tdiv ((Nat.gcd q x.den:Nat):Int)=((x.den/Nat.gcd q x.den:Nat):Int):=by
    rw[A3i oV];rfl
   rw[e6]at Q;have K:=Az5 H hd;have a8:x.den/Nat.gcd q x.den<=x.den:=A24 _ _;refine G.c call68 (F2 (F.mono (((I.trans V).trans l6))) Q (A0l (nl1 oV) oV) (A0l (nlN oV) oV)) ?_;intro v7 u7 l7 T;obtain⟨f7,rfl⟩:=T.opB;rw[<-A3x]at T;generalize q*(x.den/Nat.gcd q x.den)=r at *
   obtain⟨al,af⟩:=leW K;refine G.c call145 (Qk T (A0l (nlM oV) oV)) ?_;rintro v8 u8 l8 rfl;have O:Lib.nDigits (r:Int).natAbs<=17:=Av3 oV;generalize Lib.nDigits (r:Int).natAbs=D at *
   have aa:n*D<=12*17:=A2p hn O;exact G.mul (n:Int) (D:Int) ((n*D:Nat):Int) kV (by rw[A3x]) oV oV<|G.gF (n*D:Nat) 600<|G.i k<|G.b (E (k+1,f7,r) _ _ _ cV (((((L.trans I).trans V).trans l6).trans l7).trans l8) ⟨dV,K,T.mono l8,rfl⟩ dV)
  exact G.lF k w<|G.i i<|G.b (Y (i+1,f,q) _ _ _ cV (l2.trans L) ⟨dV,H,F,rfl⟩ dV)
 refine G.lF i A.length ?_;clear Y d hi;refine G.l (ι:=Nat) (fun i=>[(0,sV a A.length c),(1,iV n),(5,.p 1001 0),(58,iV A.length),(59,iV i)]) (fun i=>[(1001,⟨82,bc f⟩)])
  (fun i u' U=>i<=A.length/\U=PH.mt) (fun i=>A.length-i) 0 ⟨A1c _,rfl⟩ ?_
 rintro J i Y u3 m3 L ⟨hi,rfl⟩;by_cases d:i<A.length
 ·refine G.lT i A.length ?_;obtain⟨m,C,a1,c1,rfl,N,X⟩:=(h.mono ((l1.trans l2).trans L)).row (Em (A0i d));rw[A0k,hr _ (A0y d)]at N X;refine G.a m C A.length c i 1 d<|G.lU none m (C+i*1) _ N<|G.l (ι:=Nat) (fun k=>[(0,sV (some ⟨m,C,none⟩) A.length c),(1,iV n),(5,.p 1001 0),(58,iV A.length),(59,iV i),(11,iV i),(66,iV w),(67,iV k)]) (fun k=>[(1001,⟨82,bc f⟩)])
   (fun k u' U=>k<=w/\U=PH.mt) (fun k=>w-k) 0 ⟨A1c _,rfl⟩ ?_
  rintro J2 k E u4 m4 I ⟨hk,rfl⟩;by_cases z:k<w
  ·refine G.lT k w ?_;have t:k<A[i].length:=by rw[hr _ (A0y d)];exact z
   have g:Tq A[i][k]:=hT _ (A0y d) _ (A0y t);obtain⟨W,o2,rfl,e3⟩:=Ab.at' (Ab.mono X I) (j:=k) (e:=.string (mkS (Ag A[i][k]))) (by simp[B4,A0i t]);refine G.a m C A.length c i 1 d<|G.lU none m (C+i*1) _ (N.mono I)<|G.a W o2 w c1 k 1 z<|G.lU none W (o2+k*1) _ e3<|G.c call26 (H9 g.tx) ?_;intro v5 u5 V k5;obtain⟨b5,a5,n5,c5,ah,an,aj,rfl,_,ac,ab⟩:=k5.opn;have hd:=g.den;have a0:=g.num;generalize A[i][k]=x at *
   obtain⟨a7,Z⟩:=leW hd;obtain⟨P,a2⟩:=leW H;have a9:=F.mono ((L.trans I).trans V);refine G.c call139 (R5 a9 ab (A0l (nlM oV) oV) (A0l (nl1 oV) oV) oV) ?_;rintro v6 u6 l6 ⟨x6,y6,rfl,Q,R⟩;obtain⟨f6,rfl⟩:=Q.opB;obtain⟨a6,rfl⟩:=R.opB;have e6:((q:Int)).tdiv (x.den:Int)=((q/x.den:Nat):Int):=by
    rw[A3i oV];rfl
   rw[e6]at Q;have a8:q/x.den<=q:=A24 _ _;refine G.c call68 (F2 (ac.mono l6) Q (A0l (nlM oV) oV) (A0l (nlN oV) oV)) ?_;intro v7 u7 l7 T;obtain⟨f7,rfl⟩:=T.opB;have ae:(x.num*((q/x.den:Nat):Int)).natAbs<=3000000000000*21600:=by
    rw[A2t,A1e];exact A2p a0 oV
   refine G.c call145 (Qk T (A0l (nlM oV) oV)) ?_;rintro v8 u8 l8 rfl;have O:Lib.nDigits (x.num*((q/x.den:Nat):Int)).natAbs<=17:=Av3 oV;generalize Lib.nDigits (x.num*((q/x.den:Nat):Int)).natAbs=D at *
   have aa:n*D<=12*17:=A2p hn O;exact G.mul (n:Int) (D:Int) ((n*D:Nat):Int) kV (by rw[A3x]) oV oV<|G.gF (n*D:Nat) 600<|G.i k<|G.b (E (k+1) _ _ _ cV ((((I.trans V).trans l6).trans l7).trans l8) ⟨oV,rfl⟩ oV)
  exact G.lF k w<|G.i i<|G.b (Y (i+1) _ _ _ cV (L.trans I) ⟨oV,rfl⟩ oV)
 exact G.lF i A.length<|G.gF n 600<|G.r (.bool false) ⟨rfl,rfl⟩
end
section
variable {X:List (List Rat)}
def Te (n:Nat)(X:List (List Rat))(y:Nat->Rat):Prop:=∀ i,i<n->Bx n (fun j=>en X i j*y j)=en X i n
theorem Wx {n w r p:Nat}(h:Rec n w X)(K:n<=w)(m:r<n)(hp:p<n)(I:r<=p)(h0:en X p r≠0)(z:∀ i j,i<n->j<r->en X i j=if i=j then 1 else 0) :
 ∀ i j,i<n->j<r+1->en (I7 X r r p) i j=if i=j then 1 else 0:=by
 intro i j H J;unfold I7;rw[h.1];have u:Rec n w (if p=r then X else Hr X p r):=by
  split
  ·exact h
  exact Lw h hp m
 have g:∀ i j,en (if p=r then X else Hr X p r) i j=if i=r then en X p j else if i=p then en X r j else en X i j:=fun i j=>by
  split
  ·rename_i e;subst e;split
   ·rename_i e;rw[e]
   rfl
  rw[Qz h hp m]
 rw[Ac2 m oV n 0 _ oV (Rj u m) i j oV,Im u m i j,Im u m i r,Im u m r j,if_pos rfl,g i j,g i r,g r j,g r r,if_pos rfl,if_pos rfl];have E:en X p r*(1/en X p r)=1:=by grind
 generalize 1/en X p r=q at *
 by_cases d:i=r
 ·rw[if_neg oV,if_pos d,if_pos d];by_cases C:j=r
  ·rw[C,d,if_pos rfl,E]
  rw[z p j hp oV,if_neg oV,if_neg oV];grind
 rw[if_pos ⟨oV,oV,d⟩,if_neg d,if_neg d,if_neg d,if_neg d];by_cases C:j=r
 ·subst C;rw[if_neg d];generalize (if i=p then en X j j else en X i j)=t;rw[show t-t*(en X p j*q)=t-t*(en X p j*q) from rfl,E];grind
 rw[z p j hp oV,if_neg (show ¬ p=j by omega)];by_cases F:i=p
 ·rw[if_pos F,z r j m oV,if_neg (show ¬ r=j by omega),if_neg (show ¬ i=j by omega)];grind
 rw[if_neg F,z i j H oV];grind
theorem Agk (n:Nat)(a b y:Nat->Rat)(t:Rat):Bx n (fun j=>(a j-t*b j)*y j)=Bx n (fun j=>a j*y j)-t*Bx n (fun j=>b j*y j):=by
 rw[<-Dt,<-N5];exact A3 fun j _=>by grind
theorem Aey (n:Nat)(b y:Nat->Rat)(q:Rat):Bx n (fun j=>(b j*q)*y j)=q*Bx n (fun j=>b j*y j):=by
 rw[<-Dt];exact A3 fun j _=>by grind
theorem Aog {n r c p:Nat}{y:Nat->Rat}(h:Rec n (n+1) X)(d:r<n)(hp:p<n)(P:c<n)(h0:en X p c≠0)(L:Te n (I7 X r c p) y):Te n X y:=by
 have F:Rec n (n+1) (if p=r then X else Hr X p r):=by
  split
  ·exact h
  exact Lw h hp d
 have m:∀ i j,en (if p=r then X else Hr X p r) i j=if i=r then en X p j else if i=p then en X r j else en X i j:=fun i j=>by
  split
  ·rename_i e;subst e;split
   ·rename_i e;rw[e]
   rfl
  rw[Qz h hp d]
 have t:∀ k j,k<n->j<n+1->en (I7 X r c p) k j=if k=r then en X p j*(1/en X p c) else (if k=p then en X r j else en X k j)-(if k=p then en X r c else en X k c)*(en X p j*(1/en X p c)):=by
  intro k j H K;unfold I7;rw[h.1,Ac2 d oV n 0 _ oV (Rj F d) k j K,Im F d k j,Im F d k c,Im F d r j,if_pos rfl,m k j,m k c,m r j,m r c,if_pos rfl,if_pos rfl];by_cases e:k=r
  ·rw[if_neg oV,if_pos e,if_pos e,if_pos e]
  rw[if_pos ⟨oV,oV,e⟩,if_neg e,if_neg e,if_neg e,if_neg e,if_neg e]
 have O:en X p c*(1/en X p c)=1:=by grind
 generalize 1/en X p c=q at *
 have C:Bx n (fun j=>en X p j*y j)=en X p n:=by
  have u:=L r d;rw[A3 (g:=fun j=>(en X p j*q)*y j) fun j K=>by rw[t r j d oV,if_pos rfl],t r n d oV,if_pos rfl,Aey]at u;generalize Bx n (fun j=>en X p j*y j)=S at *
  have:en X p c*(q*S)=en X p c*(en X p n*q):=by rw[u]
  grind
 have z:∀ k,k<n->k≠r->Bx n (fun j=>(if k=p then en X r j else en X k j)*y j)=if k=p then en X r n else en X k n:=by
  intro k H E;have u:=L k H;rw[A3 (g:=fun j=>((if k=p then en X r j else en X k j)-((if k=p then en X r c else en X k c)*q)*en X p j)*y j) fun j K=>by rw[t k j H oV,if_neg E];grind,t k n H oV,if_neg E,Agk,C]at u;grind
 intro i N;by_cases I:i=p
 ·rw[I];exact C
 by_cases J:i=r
 ·have u:=z p hp (fun e=>I (by rw[J,e]));rw[J];simpa using u
 have u:=z i N J;simpa[I] using u
theorem Adr {n:Nat}:∀ f c P X d,c+f=n->P.length=c->Rec n (n+1) X->(∀ i j,i<n->j<c->en X i j=if i=j then 1 else 0) ->
 ¬ (B9 f c P X d).1.length<n->Te n X (fun i=>en (B9 f c P X d).2.1 i n)
 |0,c,P,X,d,hc,hP,h,hu,g=>by
  have E:B9 0 c P X d=(P,X,d):=rfl;rw[E];intro i C;have:∀ m,m<=n->Bx m (fun j=>en X i j*en X j n)=if i<m then en X i n else 0:=by
   intro m;induction m with
   |zero=>intro _;rw[Oz,if_neg oV]
   |succ m ih =>
    intro H;rw[Fg,ih oV,hu i m C oV];by_cases t:i<m
    ·rw[if_pos t,if_neg oV,if_pos oV];grind
    by_cases u:i=m
    ·rw[if_neg t,if_pos u,if_pos oV,<-u];grind
    rw[if_neg t,if_neg u,if_neg oV];grind
  rw[this n (A0s _),if_pos C]
 |f+1,c,P,X,d,hc,hP,h,hu,g=>by
  revert g
  unfold B9;rw[if_pos (show P.length<X.length by rw[h.1];omega)];obtain⟨J,K⟩:=R9 X c (X.length-P.length) P.length;have F:=V1 X c (X.length-P.length) P.length;generalize Eh X c (X.length-P.length) P.length=p at *
  split
  ·intro g;have:=Ya f (c+1) P X d;omega
  rename_i hpx;intro g;have I:=h.1;have e:p<n:=oV;have h0:=F oV;rw[hP]at g⊢;have z:=Wx h oV (show c<n by omega) e oV h0 hu;exact Aog h oV e oV h0 (Adr f (c+1) (P++[c]) (I7 X c c p) _ oV (by simp[hP]) (We h oV e) z g)
end
section
variable {A:List (List Rat)}{b l:List Rat}{i j:Nat}{q:Rat}
def Azp {m0 m:PH}{v:Value}{t:TypeId}{sz:Nat}{es:List Value}(h:Af m0 m v t sz es):PH.le m0 m:=by
 rcases h.2 with ⟨_,_,rfl⟩|⟨g,cap,rest,d,rfl,_⟩
 ·exact PH.le_refl _
 exact I9 _ d
def Vo {n w:Nat}:∀ f c P X d,Rec n w X->Rec n w (B9 f c P X d).2.1
 |0,_,_,_,_,h=>h
 |f+1,c,P,X,d,h=>by
  rw[B9];by_cases e:P.length<X.length
  ·rw[if_pos e];by_cases hp:Eh X c (X.length-P.length) P.length=X.length
   ·rw[if_pos hp];exact Vo f _ _ _ _ h
   rw[if_neg hp];have g:=R9 X c (X.length-P.length) P.length;have m:=h.1;exact Vo f _ _ _ _ (We h oV oV)
  rw[if_neg e];exact h
def Ie (A:List (List Rat))(b:List Rat):List (List Rat):=(List.range A.length).map fun i=>gM A i++[gR b i]
def Aby (h:i<A.length):gM (Ie A b) i=gM A i++[gR b i]:=by
 unfold Ie;rw[Apl (r:=gM A i++[gR b i])];rw[A0n,A4c h];rfl
def Acg (e:Sq A):Rec A.length (A.length+1) (Ie A b) :=
 ⟨by simp[Ie],fun i d=>by rw[Aby d,A03,Gx d,e.len d];rfl⟩
def Axi (h:j<l.length):gR (l++[q]) j=gR l j:=by
 unfold gR;rw[A0j,A0j,A09 h]
def Ash (h:j=l.length):gR (l++[q]) j=q:=by
 subst h;unfold gR;rw[A0j,A1d (A0s _)];simp
def Vm (g:Sq A)(d:i<A.length)(e:j<A.length):en (Ie A b) i j=en A i j:=by
 unfold en;rw[Aby d,Axi (by rw[Gx d,g.len d];exact e)]
def Aks (e:Sq A)(d:i<A.length):en (Ie A b) i A.length=gR b i:=by
 unfold en;rw[Aby d,Ash (by rw[Gx d,e.len d])]
def Tq.sz (h:Tq q):Sz q 2:=by
 have h1:=h.num;have h2:=(leW h.den).2;exact⟨nlM oV,nlM oV⟩
def Aw9 (n:Sq A)(u:b.length=A.length)(hT:∀ r∈A,∀ q∈r,Tq q)(t:∀ q∈b,Tq q):SzM (Ie A b) 2:=Abu (Acg n) (fun i j d z=>by
 by_cases m:j<A.length
 ·have h:j<A[i].length:=by rw[n.len d];exact m
  have e:=Vm (b:=b) n d m;unfold en at e;rw[e,Gx d,E7 h];exact (hT _ (A0y d) _ (A0y h)).sz
 obtain rfl:j=A.length:=oV;have e:=Aks (b:=b) n d;unfold en at e;have g:i<b.length:=oV;rw[e,E7 g];exact (t _ (A0y g)).sz)
def es1 {n:Nat}(h:n<=12):es 2 n<=1000000000:=A0l (Ao2 2 h) fV
def Al4 {u:PH}{v bv:Value}{A:List (List Rat)}{b:List Rat}(h:Fm u v (Dv A))(hb:Ck u bv (b.map Ag))(hs:Sq A)(ae:b.length=A.length)(h0:0<A.length)(hT:∀ r∈A,∀ q∈r,Tq q)(a3:∀ q∈b,Tq q)
 (ar:∀ y:Nat->Rat,Te A.length (Ie A b) y->∀ i,i<A.length->Tx (y i)) :
 Fn0 prog 38 [v,bv] u fun r u'=>(∃ e:Int,e≠0/\(B9 A.length 0 [] (Ie A b) 1).1.length<A.length/\r=.tuple #[.slice none 0 0,.int .i64 e]) \/
  ∃ qs lv,r=.tuple #[lv,.int .i64 0]/\qs.length=A.length/\Te A.length (Ie A b) (gR qs)/\Ck u' lv (qs.map Ag):=by
 obtain⟨a0,c0,rfl⟩:=h.opn;rw[Bs]at h⊢;obtain⟨a1,c1,rfl⟩:=Ab.opn hb;have b9:(B4 (b.map Ag)).length=A.length:=by simp[B4,ae]
 rw[b9]at hb⊢;have O:=hs.le;refine Fn0.o func38<|G.c call85 (Ss h hs) ?_;rintro v1 u1 l1 rfl;refine G.nF 0 0<|G.nF A.length A.length<|G.nF A.length A.length ?_;have h1:=h.mono l1;have ab:Ck u1 (.slice a1 A.length c1) (b.map Ag):=Ab.mono hb l1;clear h hb;refine G.l (ι:=Nat) (fun i=>[(0,sV a0 A.length c0),(1,sV a1 A.length c1),(6,iV A.length),(7,iV A.length),(35,sV a1 A.length c1),(36,iV A.length),(37,iV i)]) (fun _=>[])
  (fun i u' m'=>i<=A.length/\m'=PH.mt) (fun i=>A.length-i) 0 ⟨oV,rfl⟩ ?_
 rintro J i hJ u2 m2 l2 ⟨hi,rfl⟩;by_cases t:i<A.length
 ·refine G.lT i A.length ?_;have N:i<b.length:=oV;obtain⟨b2,o2,rfl,e3⟩:=Ab.at' (Ab.mono ab l2) (j:=i) (e:=.string (mkS (Ag b[i]))) (by simp[B4,A0i N]);refine G.a b2 o2 A.length c1 i 1 t<|G.lU none b2 (o2+i*1) _ e3<|G.c call86 (D9 (a3 _ (A0y N)).tx) ?_;rintro v3 u3 l3 rfl;exact G.i i<|G.b (hJ (i+1) _ _ _ cV (l2.trans l3) ⟨oV,rfl⟩ oV)
 clear hJ;refine G.lF i A.length ?_;have h2:=h1.mono l2;have ac:Ck u2 (.slice a1 A.length c1) (b.map Ag):=Ab.mono ab l2;clear h1 ab;refine G.c call87 (Su (n:=A.length) (w:=A.length) h2 O hs.row O hT O) ?_;rintro v3 u3 l3 rfl;refine G.c call88 (Ag9 (Ab.mono ac l3) oV) ?_;intro v4 u4 l4 hc;refine G.c call87 (Su (n:=A.length) (w:=1) hc (by simp[Ze,ae,O]) (by simp[Ze]) oV (by simpa[Ze] using a3) O) ?_;rintro v5 u5 l5 rfl;have lx:=(l3.trans l4).trans l5;refine G.callO _ _ kV call65 (Zw (h2.mono lx) hs) ?_;rintro v6 u6 m6 l6 ⟨a6,Z,Y,rfl,aa,F⟩ _;rw[Cm];have aj:Ck u6 (.slice a1 A.length c1) (b.map Ag):=Ab.mono ac (lx.trans l6);have R:Y.length=A.length:=aa.1;obtain⟨L,bj,eo⟩:=F.ptr 0 rfl (by intro e;simp only[oQ,A57]at e;rw[e]at R;simp at R;omega);simp only[oQ,A0k,R,Value.slice.injEq,true_and]at eo;obtain⟨rfl,rfl⟩:=eo;clear h2 ac hc;refine G.l (ι:=Nat×List (Value×List Value)) (fun i=>[(1,sV a1 A.length c1),(6,iV A.length),(7,iV A.length),(11,sV (some ⟨L,0,none⟩) A.length Z),(57,iV A.length),(58,iV i.1)]) (fun _=>[])
  (fun i u' m'=>i.1<=A.length/\i.2.length=A.length/\(∀ j r,i.2[j]?=some r->AtP QP u' r.2 (gM A j++if j<i.1 then [gR b j] else []))/\Bag m' (oQ (.slice (some ⟨L,0,none⟩) A.length Z) i.2::i.2.map Bj)) (fun i=>A.length-i.1) (0,Y)
  ⟨oV,R,fun j r H=>by rw[if_neg oV,A1i];exact aa.2 j r H,F⟩ ?_
 clear F aa R;rintro J ⟨i,d⟩ hJ u7 m7 l7 ⟨hi,ag,hQ,z⟩;simp only at hi ag hQ z hJ;by_cases t:i<A.length
 ·refine G.lT i A.length ?_;have T:d[i]?=some d[i]:=A0i oV;have m:=hQ i _ T;rw[if_neg (Nat.lt_irrefl _),A1i]at m;obtain⟨⟨vi,I⟩,he⟩:∃ x,d[i]=x:=⟨_,rfl⟩;rw[he]at T m;simp only at m;have C:I.length=A.length:=by rw[m.1,Gx t,hs.len t]
  have aq:(oQ (.slice (some ⟨L,0,none⟩) A.length Z) d::d.map Bj)[i+1]?=some (Bj (vi,I)):=by simp[T]
  obtain⟨gi,ci,e⟩:=z.ptr (i+1) aq (by intro e;simp only[Bj]at e;rw[e]at C;simp at C;omega);simp only[Bj]at e;rw[C]at e;subst e;have bd:ElP m7 L (0+i*1) (.slice (some ⟨gi,0,none⟩) A.length ci):=z.el 0 (x:=oQ _ _) rfl rfl (by simp[oQ,T]);refine G.a L 0 A.length Z i 1 t<|G.lM none L (0+i*1) _ bd ?_;have N:i<b.length:=oV;obtain⟨b2,o2,rfl,e3⟩:=Ab.at' (Ab.mono aj l7) (j:=i) (e:=.string (mkS (Ag b[i]))) (by simp[B4,A0i N]);refine G.a b2 o2 A.length c1 i 1 t<|G.lU none b2 (o2+i*1) _ e3<|G.c call26 (H9 (a3 _ (A0y N)).tx) ?_;intro v8 u8 l8 k8;obtain⟨K,rfl⟩:=k8.opQ;refine G.B 84 4 64 zQ [qv K] (Zf K) ?_;intro g9 u9 l9 e9;obtain⟨mm,V,ap⟩:=z.focus (i+1) aq;rw[Iv]at V;refine G.append 84 4 64 zQ mm I [qv K] (.slice (some ⟨gi,0,none⟩) A.length ci) g9 0 1 1 kV rfl rfl oV V e9 (Zf K) rfl oV oV oV ?_;intro bh m10 a8;have a5:=ap (Bj (bh,I++[qv K])) m10 a8;obtain⟨P,Q,rfl⟩:=a8.shape;rw[A2s]at a5;obtain⟨mo,aw,af⟩:=a5.focus 0 rfl;rw[Aa6]at aw;refine G.a L 0 A.length Z i 1 t<|G.storeA 1 mo _ L A.length Z i (.slice P (I++[qv K]).length Q) kV aw gV rfl rfl ?_;intro bf a9;rw[show (d.map (·.1)).set i (Value.slice P (I++[qv K]).length Q)=(d.set i (Value.slice P (I++[qv K]).length Q,I++[qv K])).map (·.1) by rw[A10]]at a9;have a7:=af (oQ (.slice (some ⟨L,0,none⟩) A.length Z) (d.set i (Value.slice P (I++[qv K]).length Q,I++[qv K]))) bf a9;rw[A2y,<-A10]at a7;refine G.i i<|G.b (hJ (i+1,d.set i (Value.slice P (I++[qv K]).length Q,I++[qv K])) _ _ _ cV ((l7.trans l8).trans l9) ⟨dV,by dsimp only;rw[A3r];exact ag,?_,a7⟩ dV);intro j r H;dsimp only at H⊢;rw[A2g]at H;by_cases ak:i=j
  ·subst ak;rw[if_pos rfl,if_pos oV]at H;cases H;rw[if_pos oV,E7 N];exact (m.mono (fun _ _ k=>k.mono (l8.trans l9))).snoc (k8.mono l9)
  rw[if_neg ak]at H;have h9:=(hQ j r H).mono (fun _ _ k=>k.mono (l8.trans l9));by_cases am:j<i
  ·rw[if_pos am]at h9;rw[if_pos oV];exact h9
  rw[if_neg am]at h9;rw[if_neg oV];exact h9
 clear hJ;obtain rfl:i=A.length:=oV;refine G.lF A.length A.length ?_;have a2:=Acg (b:=b) hs;have b6:=Aw9 hs ae hT a3;have b4:QAt u7 d (Ie A b):=⟨by rw[ag,a2.1],fun j r H=>by
  have al:j<A.length:=by
   obtain⟨q1,_⟩:=A0o.1 H;omega
  have h9:=hQ j r H;rw[if_pos al]at h9;rw[Aby al];exact h9⟩
 clear hQ aj;refine G.A call89 (Aqg a2 oV oV oV b6 oV (es1 O) b4 z) ?_;rintro v8 u8 m8 l8 ⟨pa,pc,f,X,rfl,_,b3,ad⟩ _;rw[Cm];have ah:=Adr A.length 0 [] (Ie A b) 1 oV rfl a2 (fun i j _ H=>absurd H (Nat.not_lt_zero _));have hE:=Vo A.length 0 [] (Ie A b) 1 a2;generalize bl:B9 A.length 0 [] (Ie A b) 1=E at *
 by_cases t:E.1.length<A.length
 ·exact G.lT E.1.length A.length<|G.drop PH.mt kV (PH.mt_le _)<|G.r (.tuple #[.slice none 0 0,.int .i64 6]) ⟨rfl,.inl ⟨6,oV,t,rfl⟩⟩
 have U:=ah t;have b5:=ar _ U;refine G.lF E.1.length A.length ?_;obtain⟨m9,au,b7⟩:=ad;refine G.drop m9 kV (Azp au) ?_;clear au;refine G.l (ι:=Nat×(Option Addr×Nat)×List Value) (fun i=>[(7,iV A.length),(11,sV (some ⟨L,0,none⟩) A.length Z),(15,sV i.2.1.1 i.1 i.2.1.2),(87,iV A.length),(88,iV i.1)]) (fun _=>[])
  (fun i u' m'=>i.1<=A.length/\AtP QP u' i.2.2 ((List.range i.1).map fun k=>en E.2.1 k A.length)/\Bag m' (Bj (.slice i.2.1.1 i.1 i.2.1.2,i.2.2)::oQ (.slice (some ⟨L,0,none⟩) A.length Z) X::X.map Bj)) (fun i=>A.length-i.1) (0,(none,0),[])
  ⟨oV,AtP.nil,m9,Af.nil _ _ _,b7⟩ ?_
 rintro J ⟨i,⟨ra,rc⟩,es⟩ hJ bo m10 ax ⟨hi,m,a4⟩;simp only at hi m a4 hJ;have C:es.length=i:=by rw[m.1];simp
 by_cases an:i<A.length
 ·refine G.lT i A.length ?_;obtain⟨gi,ci,I,T,bi,bk,bb,ba⟩:=Z7 a4 (b3.mono ax) hE an oV;obtain⟨fi,h5,h6,h7⟩:=ba A.length oV;refine G.a L 0 A.length Z i 1 an<|G.lM none L (0+i*1) _ bb<|G.a gi 0 (A.length+1) ci A.length 4 oV<|G.lM (some 4) gi (0+A.length*4) (qv fi) h7<|G.B 84 4 64 zQ [qv fi] (Zf fi) ?_;intro b1 bp ai b0;obtain⟨mm,V,b8⟩:=a4;rw[Iv]at V;refine G.append 84 4 64 zQ mm es [qv fi] (.slice ra i rc) b1 0 1 1 kV rfl rfl oV V b0 (Zf fi) rfl oV oV oV ?_;intro br bn W;obtain⟨ay,az,rfl⟩:=W.shape;have el:(es++[qv fi]).length=i+1:=by simp[C]
  rw[el]at W⊢;refine G.i i<|G.b (hJ (i+1,(ay,az),es++[qv fi]) _ _ _ cV (ax.trans ai) ⟨dV,?_,mm,W,b8⟩ dV);dsimp only;rw[A65,A02];exact (m.mono (fun _ _ k=>k.mono ai)).snoc (h6.mono ai)
 clear hJ;obtain rfl:i=A.length:=oV;refine G.lF A.length A.length<|G.giveP (ma:=m10) (sm:=PH.mt) kV (by funext g;unfold PH.or;cases m10 g<;>rfl) (fun g=>.inr rfl) (fun g=>.inl rfl) ?_
 intro bg be ao;obtain⟨mf,av,_⟩:=a4.focus 0 rfl;rw[Iv]at av;have hL:Ab bg (.slice ra es.length rc) 4 es:=by rw[C];simpa[C] using av.list ao
 rw[C]at hL;refine G.c call90 (Art hL (m.mono (fun _ _ k=>k.mono be)) (by
  intro q hq;obtain⟨k,hk,rfl⟩:=A0r.1 hq;exact b5 k (A5x.1 hk)) gV) ?_
 rintro bs bq bm ⟨lv,rfl,hS⟩;refine G.r (.tuple #[lv,.int .i64 0]) ⟨rfl,.inr ⟨_,lv,rfl,mV,?_,hS⟩⟩;have hg:∀ k,k<A.length->gR ((List.range A.length).map fun k=>en E.2.1 k A.length) k=en E.2.1 k A.length:=fun k hk=>Um (by rw[A0n,A4c hk];rfl);intro k hk;rw[<-U k hk];exact A3 (fun j H=>by rw[hg j H])
end
section
variable {i j:Nat}{m0:Rat}{qs:List Rat}{z:Int}
theorem Xg {q:Rat}{D:Nat}(h:q*(D:Rat)=(z:Rat))(h0:0<D):q.den ∣ D/\q.num.natAbs<=z.natAbs:=by
 have m:q=Rat.divInt z (D:Int):=by
  rw[A3l,A1f,<-h];have:=Jf h0;grind
 obtain⟨d,e,n⟩:=Ok (y:=z) (z:=(D:Int)) oV;rw[m];constructor
 ·have g:((Rat.divInt z (D:Int)).den:Int)=((D/Nat.gcd z.natAbs D:Nat):Int):=by
   rw[e,show ((D:Int)).natAbs=D from rfl,A3i oV,<-A5c]
  rw[Int.ofNat.inj g];exact Nat.div_dvd_of_dvd (Nat.gcd_dvd_right _ _)
 rw[d,A8a];exact A24 _ _
def Azk {q:Rat}(h:q*((4320:Nat):Rat)=(z:Rat))(g:z.natAbs<=500000000000):Tq q:=by
 obtain⟨d,e⟩:=Xg h oV;exact⟨De.tx (a:=12) (b:=4) ⟨z,4320,h,oV,oV,oV⟩ oV oV oV oV,A7v d fV,oV⟩
theorem Av2 {x t:Rat}{N:Nat}(h:Dn 2 N x)(I:N<=14436727200)(E:∃ p:Int,t*30=p/\p.natAbs<=90):Tq (x+t):=by
 obtain⟨z,d,F⟩:=h;obtain⟨p,u,H⟩:=E;refine Azk (z:=z*30+p*144) ?_ oV;have e:((12^2:Nat):Rat)=144:=jV
 have g:((4320:Nat):Rat)=4320:=jV
 have m:((30:Int):Rat)=30:=jV
 have n:((144:Int):Rat)=144:=jV
 rw[e]at d;rw[A44,A1v,A1v,<-d,<-u,g,m,n];grind
section
variable {P:List Par} {C:CF} {q:Rat} {N:Nat}
def Nx (C:CF)(P:List Par)(q:Rat):List (List Rat):=Hy q (Kx C P) (P.length+1)
def Wy (C:CF)(P:List Par):List Rat:=(Ae P).map (Av C)
def O4:Rec (P.length+1) (P.length+1) (Nx C P q):=Qw (Xo C P) _ (A0s _)
def Aha (d:i<P.length+1)(e:j<P.length+1):en (Nx C P q) i j=Aq C ((Ae P).getD i none) ((Ae P).getD j none)+if i=j/\0<i then q else 0:=by
 unfold Nx;rw[Abi (Xo C P) _ (A0s _) i j d e,Alt C P d e];have:(if i=j/\0<i/\i<P.length+1 then q else 0)=if i=j/\0<i then q else 0:=by simp[d]
 rw[this]
def Ars:(Wy C P).length=P.length+1:=by unfold Wy;rw[A0k,Ba]
def As7 (e:i<P.length+1):gR (Wy C P) i=Av C ((Ae P).getD i none):=by
 have d:=Ba P;refine Um ?_;unfold Wy;rw[A0n,A0j,A0i oV];rfl
def Aq8 (g:Ib N C)(t:N<=14436727200)(E:Gw q):∀ r∈Nx C P q,∀ x∈r,Tq x:=by
 intro r F x H;have m:=O4 (P:=P) (C:=C) (q:=q);obtain⟨i,n,rfl⟩:=A2b.1 F;obtain⟨j,u,rfl⟩:=A2b.1 H;have d:i<P.length+1:=by have:=m.1;omega
 have h:j<P.length+1:=by have:=m.2 i d;rw[Gx n]at this;omega
 have e:=Aha (P:=P) (C:=C) (q:=q) d h;unfold en at e;rw[Gx n,E7 u]at e;rw[e];refine Av2 (g.c _ _) t ?_;split
 ·exact E.thirty
 exact⟨0,jV,fV⟩
def Aux (d:Ib N C)(g:N<=14436727200):∀ x∈Wy C P,Tq x:=by
 intro x m;obtain⟨e,_,rfl⟩:=A0r.1 m;have h:=Av2 (t:=0) (d.r e) g ⟨0,jV,fV⟩;rwa[A5k]at h
def Aqz (e:Ib N C)(h:N<=14436727200)(n:Gw q)(u:P.length<=11):Sq (Nx C P q):=by
 have d:=O4 (P:=P) (C:=C) (q:=q);refine⟨by rw[d.1];omega,fun r g=>?_,fun r g x t=>(Aq8 e h n r g x t).tx⟩;obtain⟨i,m,rfl⟩:=A2b.1 g;have:=d.2 i (by have:=d.1;omega);rw[Gx m]at this;rw[this,d.1]
theorem Uf {y:Nat->Rat}{u:Option Par->Rat}(J:Sq (Nx C P q))(h:Te (Nx C P q).length (Ie (Nx C P q) (Wy C P)) y)(I:∀ j,j<P.length+1->u ((Ae P).getD j none)=y j):Fq P C q u:=by
 have E:=O4 (P:=P) (C:=C) (q:=q);intro e K;obtain⟨i,d,rfl⟩:=A2b.1 K;have F:(Ae P)[i]=(Ae P).getD i none:=by rw[A0j,A0i d];rfl
 rw[F];rw[Ba]at d;have m:i<(Nx C P q).length:=by rw[E.1];exact d
 have H:=h i m;rw[Aks J m,As7 d,A3 (g:=fun j=>Aq C ((Ae P).getD i none) ((Ae P).getD j none)*u ((Ae P).getD j none)+(if i=j/\0<i then q else 0)*y j) (fun j L=>by
  have n:j<P.length+1:=by have:=E.1;omega
  rw[Vm J m L,Aha d n,I j n];grind),E.1,Ju,V5]at H
 have t:Hk q u ((Ae P).getD i none)=if i<P.length+1/\0<i then q*y i else 0:=by
  cases i with
  |zero=>rw[if_neg oV];rfl
  |succ j =>
   rw[if_pos ⟨d,oV⟩,<-I _ d];unfold Ae;rw[A4p,A0j,A0n,A0i oV];rfl
 rw[Jm _ (Ae P) none,Ba,t];exact H
def Sp (g:P.Nodup)(m:qs.length=P.length)(h:j<P.length):B8 P[j] (P.zip qs)=gR qs j:=by
 have d:j<qs.length:=oV
 rw[E7 d];refine I5 ?_ (A2b.2 ⟨j,gV,mV⟩);have e:(P.zip qs).map (·.1)=P:=A6u oV;rw[e];exact g
def P9 (d:P.Nodup)(e:qs.length=P.length):∀ j,j<P.length+1->cfE m0 (P.zip qs) ((Ae P).getD j none)=gR (m0::qs) j:=by
 intro j g;cases j with
 |zero=>rfl
 |succ j =>
  unfold Ae;rw[A4p,A0j,A0n,A0i oV];show B8 P[j] (P.zip qs)=gR (m0::qs) (j+1);rw[Sp d e oV];rfl
def Oy (d:i<P.length+1):(Ae P).getD i none∈Ae P:=by
 have:=Ba P;rw[A0j,A0i oV];exact A0y _
theorem Ali {b:Option Par->Rat}(g:Ib N C)(F:N<=14436727200)(m:Gw q)(H:P.length<=11)(t:1<=C.c)(d:∀ z,0<=Cp z P C)(u:∀ z,0<=sqC z P C)(h:Fq P C q b):∀ e∈Ae P,De 172 157 (b e):=by
 have n:0<C.c:=by
  have E:(0:Rat)<1:=jV
  grind
 obtain⟨D,h0,E,I⟩:=Aj3 g F H m.thirty m.pos n d h;exact Ar3 h0 E I (Alo g F H m.thirty m.pos t d (u b) h)
def Ayo (n:P.Nodup)(d:Ib N C)(u:N<=14436727200)(I:Gw q)(E:P.length<=11)(m:1<=C.c)(g:∀ z,0<=Cp z P C)(t:∀ z,0<=sqC z P C)(y:Nat->Rat)(h:Te (Nx C P q).length (Ie (Nx C P q) (Wy C P)) y) :
 ∀ i,i<(Nx C P q).length->Tx (y i):=by
 intro i O;have J:=O4 (P:=P) (C:=C) (q:=q);have e:i<P.length+1:=by have:=J.1;omega
 have F:∀ j,j<P.length+1->cfE (y 0) (P.zip ((List.range P.length).map fun j=>y (j+1))) ((Ae P).getD j none)=y j:=fun j K=>by
  rw[P9 n mV j K];cases j with
  |zero=>rfl
  |succ j=>exact Um (by rw[A2v,A0n,A4c oV];rfl)
 have L:=Uf (Aqz d u I E) h F;have H:=Ali d u I E m g t L _ (Oy e);rw[F i e]at H;exact H.tx oV oV oV oV
def Ax4 (n:D5 Bf P)(E:qs.length=P.length)(m:∀ e∈Ae P,De 172 157 (cfE m0 (P.zip qs) e)):Q6 P m0 (P.zip qs):=by
 have e:(P.zip qs).map (·.1)=P:=A6u oV;have g:=n.nodup Dl;refine⟨(m none (by simp[Ae])).tx oV oV oV oV,fun x d=>?_,by rw[e];exact n,fun x d=>?_,gV⟩
 ·have u:x.1∈P:=by rw[<-e];exact List.mem_map_of_mem d
  have h:=m (some x.1) (by simp[Ae,u]);have t:cfE m0 (P.zip qs) (some x.1)=x.2:=I5 (by rw[e];exact g) d;rw[t]at h;exact h.tx oV oV oV oV
 rw[<-e];exact List.mem_map_of_mem d
end
end
end Go.Proofs.YtdgncafgglafjaaGreatDoor
