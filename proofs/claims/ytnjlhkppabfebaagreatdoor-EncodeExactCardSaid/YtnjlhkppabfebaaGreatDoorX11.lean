/- Parts of one proof, joined by a program. -/
import Derived.Test.YtnjlhkppabfebaaGreatDoorX10
import Derived.ChangeKeysEq
set_option linter.defProp false
set_option linter.unusedVariables false
set_option linter.unusedSimpArgs false
set_option linter.unusedSectionVars false
set_option maxHeartbeats 16000000
namespace Go.Proofs.YtnjlhkppabfebaaGreatDoor
open Go.Proofs.Tryz
open Go.RowKit Go.MapKept
def A9f:=@Rat.zero_add
section
variable {u:PH}
abbrev K3:=Par×List UInt8
abbrev H3:=(Par×Par)×List UInt8
def Bgw (x:H3):Value:=.agg #[.int .i64 x.1.1.1,.string (mkS x.1.1.2),.int .i64 x.1.2.1,.string (mkS x.1.2.2),.string (mkS x.2)]
def Bm4 {α:Type}(l:α->α->Bool)(T:List α):Prop:=∀ j (hj:j+1<T.length),l (T[j]'oV) T[j+1]=true
def Bhb (s:List UInt8):Prop:=∃ q,Tx q/\s=Ae q
def Bp0 {s:List UInt8}(h:¬ Bhb s):NoR s:=fun q d e=>h ⟨q,d,e⟩
def Bh0 (p:Par):Bool:=decide (-1<=p.1)&&(decide (p.2 = [])||Hn p.2)
noncomputable instance ratOK_dec (s:List UInt8):Decidable (Bhb s):=Classical.propDecidable _
noncomputable def Bic (s:List UInt8):Bool:=decide (Bhb s)&&decide (s≠[48])
def Bmp (p:Par)(e:p.2.length<=9223372036854775807):Fn0 prog 77 [Ap p] u fun v _=>v=.bool (Bh0 p):=by
 refine Fn0.o func77 ?_;unfold Bh0;by_cases h0:-1<=p.1
 rotate_left
 ·exact G.hF p.1 (-1)<|G.r (.bool false) ⟨rfl,by rw[decide_eq_false h0];rfl⟩
 refine G.hT p.1 (-1) ?_;rw[decide_eq_true h0];by_cases d:p.2 = []
 ·exact G.q p.2 [] d<|G.r (.bool true) ⟨rfl,by rw[decide_eq_true d];rfl⟩
 refine G.w p.2 [] d<|G.c call117 (Bpe p.2 e) ?_;rintro j h g rfl;exact G.r (.bool (Hn p.2)) ⟨rfl,by rw[decide_eq_false d];rfl⟩
def Bkh (s:List UInt8)(g:s.length<=9223372036854775807):Fn0 prog 75 [.string (mkS s)] u fun v _=>Bhb s/\v=.bool true\/¬ Bhb s/\v=.bool false:=by
 by_cases h:Bhb s
 ·obtain⟨q,d,rfl⟩:=h;exact Fn0.weak (Gu d) fun v j e=>.inl ⟨⟨q,d,rfl⟩,e⟩
 exact Fn0.weak (Bku (Bp0 h) g) fun v j e=>.inr ⟨h,e⟩
def Bij (s:List UInt8)(g:s.length<=9223372036854775807):Fn0 prog 92 [.string (mkS s)] u fun v _=>Bhb s/\v=.bool true\/¬ Bhb s/\v=.bool false:=by
 by_cases h:Bhb s
 ·obtain⟨q,d,rfl⟩:=h;exact Fn0.weak (Ee d) fun v j e=>.inl ⟨⟨q,d,rfl⟩,e⟩
 exact Fn0.weak (Bn5 (Bp0 h) g) fun v j e=>.inr ⟨h,e⟩
def Bpp (s:List UInt8)(d:s.length<=9223372036854775807):Fn0 prog 78 [.string (mkS s)] u fun v _=>v=.bool (Bic s):=by
 refine Fn0.o func78<|G.c call75 (Bkh s d) ?_;unfold Bic;rintro m j g (⟨h,rfl⟩|⟨h,rfl⟩)
 ·by_cases h0:s = [48]
  ·exact G.y s [48] h0<|G.r (.bool false) ⟨rfl,by rw[show decide (s≠[48])=false from decide_eq_false fun e=>e h0,Bool.and_false]⟩
  exact G.x s [48] h0<|G.r (.bool true) ⟨rfl,by rw[decide_eq_true h,decide_eq_true h0];rfl⟩
 exact G.r (.bool false) ⟨rfl,by rw[decide_eq_false h];rfl⟩
noncomputable def tOK (x:K3):Bool:=Bh0 x.1&&Bic x.2
noncomputable def qOK (x:H3):Bool:=Bh0 x.1.1&&(Bh0 x.1.2&&(!decide (Bk x.1.2 x.1.1<0)&&Bic x.2))
def Bsl (x:K3)(d:x.1.2.length<=9223372036854775807)(e:x.2.length<=9223372036854775807):Fn0 prog 76 [E3 x] u fun v _=>v=.bool (!tOK x):=by
 refine Fn0.o func76<|G.c call77 (Bmp x.1 d) ?_;rintro m h g rfl;unfold tOK;cases Bh0 x.1 with
 |false=>exact G.r (.bool true) ⟨rfl,rfl⟩
 |true =>
  refine G.c call78 (Bpp x.2 e) ?_;rintro n j l2 rfl;cases Bic x.2 with
  |false=>exact G.r (.bool true) ⟨rfl,rfl⟩
  |true=>exact G.r (.bool false) ⟨rfl,rfl⟩
def Bsj (x:H3)(d:x.1.1.2.length<=9223372036854775807)(e:x.1.2.2.length<=9223372036854775807)(g:x.2.length<=9223372036854775807):Fn0 prog 80 [Bgw x] u fun v _=>v=.bool (!qOK x):=by
 refine Fn0.o func80<|G.c call77 (Bmp x.1.1 d) ?_;rintro E n h rfl;unfold qOK;cases Bh0 x.1.1 with
 |false=>exact G.r (.bool true) ⟨rfl,rfl⟩
 |true =>
  refine G.c call77 (Bmp x.1.2 e) ?_;rintro F t l2 rfl;cases Bh0 x.1.2 with
  |false=>exact G.r (.bool true) ⟨rfl,rfl⟩
  |true =>
   refine G.c call49 (Re x.1.2 x.1.1 _ rfl) ?_;rintro H z j rfl;cases decide (Bk x.1.2 x.1.1<0) with
   |true=>exact G.r (.bool true) ⟨rfl,rfl⟩
   |false =>
    refine G.c call78 (Bpp x.2 g) ?_;rintro I C m rfl;cases Bic x.2 with
    |false=>exact G.r (.bool true) ⟨rfl,rfl⟩
    |true=>exact G.r (.bool false) ⟨rfl,rfl⟩
def tLt (x y:K3):Bool:=decide (Bk x.1 y.1<0)
def qLt (x y:H3):Bool:=decide (Bk x.1.1 y.1.1<0)||(decide (x.1.1=y.1.1)&&decide (Bk x.1.2 y.1.2<0))
def Brv (x y:K3):Fn0 prog 82 [E3 x,E3 y] u fun v _=>v=.bool (tLt x y):=by
 refine Fn0.o func82<|G.c call49 (Re x.1 y.1 _ rfl) ?_;rintro g e d rfl;exact G.r (.bool (tLt x y)) ⟨rfl,rfl⟩
def Brs (x y:H3):Fn0 prog 84 [Bgw x,Bgw y] u fun v _=>v=.bool (qLt x y):=by
 refine Fn0.o func84<|G.c call49 (Re x.1.1 y.1.1 _ rfl) ?_;rintro j g e rfl;unfold qLt;cases decide (Bk x.1.1 y.1.1<0) with
 |true=>exact G.r (.bool true) ⟨rfl,rfl⟩
 |false =>
  by_cases d:x.1.1=y.1.1
  ·refine G.eqAgg 77 #[.int .i64 x.1.1.1,.string (mkS x.1.1.2)] #[.int .i64 y.1.1.1,.string (mkS y.1.1.2)] true kV kV kV (fun w=>by rw[<-decide_eq_true d];exact Bq.eq x.1.1 y.1.1 w)<|G.c call49 (Re x.1.2 y.1.2 _ rfl) ?_;rintro m h l2 rfl;rw[decide_eq_true d];exact G.r (.bool (decide (Bk x.1.2 y.1.2<0))) ⟨rfl,mV⟩
  exact G.eqAgg 77 #[.int .i64 x.1.1.1,.string (mkS x.1.1.2)] #[.int .i64 y.1.1.1,.string (mkS y.1.1.2)] false kV kV kV (fun w=>by rw[<-decide_eq_false d];exact Bq.eq x.1.1 y.1.1 w)<|G.r (.bool false) ⟨rfl,by rw[decide_eq_false d];rfl⟩
def Bqf {u:PH}{v:Value}{T:List K3}{fid:Nat}(p:K3->Bool)(h:Ac u v 3 (T.map E3))(Q:T.length<=1000000)
 (d:∀ args w,(callFunc fid args).run prog w=.ok (.enter fid args) w) (C:∀ t∈T,∀ F,PH.le u F->Fn0 prog fid [E3 t] F fun v _=>v=.bool (p t)) :
 Fn0 prog 85 [v,.func (.func fid) #[] #[]] u fun P _=>∃ z:Int,P=.int .i64 z/\(0<=z↔∃ t∈T,p t=true):=by
 obtain⟨a,c,rfl⟩:=h.opn;rw[A03]at h⊢;refine Fn0.o func85<|G.l (ι:=Nat) (fun i=>[(0,sV a T.length c),(1,.v (.func (.func fid) #[] #[])),(7,iV T.length),(8,iV i)]) (fun _=>[])
  (fun i F N=>i<=T.length/\(∀ j (g:j<T.length),j<i->p (T[j]'g)=false)/\N=PH.mt) (fun i=>T.length-i) 0 ⟨oV,fun j g h=>oV,rfl⟩ ?_
 rintro J i L O R E ⟨hi,h0,rfl⟩;by_cases m:i<T.length
 ·refine G.lT i T.length ?_;have n:T[i]?=some T[i]:=A01 m;obtain⟨H,I,rfl,K⟩:=Ac.at' (h.mono E) (j:=i) (e:=E3 T[i]) (by simp[n]);refine G.a H I T.length c i 3 oV<|G.lU (some 3) H (I+i*3) (E3 T[i]) K<|G.call0 fid [E3 T[i]] kV d (C T[i] (A09 m) O E) ?_;rintro V U l2 rfl;cases hp:p T[i] with
  |true=>exact G.r (.int .i64 i) ⟨rfl,_,rfl,fun _=>⟨_,A09 m,hp⟩,fun _=>oV⟩
  |false =>
   refine G.i i ?_;exact G.b (L (i+1) _ _ _ cV (E.trans l2) ⟨oV,fun j g h=>by
    rcases (by omega:j<i\/j=i) with e|rfl
    ·exact h0 j g e
    exact hp,rfl⟩ oV)
 obtain rfl:i=T.length:=oV;refine G.lF T.length T.length ?_;exact G.r (.int .i64 (-1)) ⟨rfl,_,rfl,fun h=>oV,fun⟨f,C,hp⟩=>by
  obtain⟨j,g,rfl⟩:=A2y C;rw[h0 j g g]at hp;cases hp⟩
def Bmt {u:PH}{v:Value}{T:List K3}{fid:Nat}(p:K3->Bool)(h:Ac u v 3 (T.map E3))(n:T.length<=1000000)
 (d:∀ args w,(callFunc fid args).run prog w=.ok (.enter fid args) w) (m:∀ t∈T,∀ j,PH.le u j->Fn0 prog fid [E3 t] j fun v _=>v=.bool (p t)) :
 Fn0 prog 41 [v,.func (.func fid) #[] #[]] u fun C _=>C=.bool (T.any p):=by
 refine Fn0.o func41<|G.c call85 (Bqf p h n d m) ?_;rintro H F E ⟨z,rfl,g⟩;by_cases h0:0<=z
 ·exact G.hT' z 0 h0<|G.r (.bool true) ⟨rfl,by rw[A5h.2 (g.1 h0)]⟩
 refine G.hF' z 0 h0<|G.r (.bool false) ⟨rfl,?_⟩;cases e:T.any p with
 |false=>rfl
 |true=>exact absurd (g.2 (A5h.1 e)) h0
def Bls {u:PH}{v:Value}{T:List K3}{fid:Nat}(l:K3->K3->Bool)(h:Ac u v 3 (T.map E3))(R:T.length<=1000000)
 (d:∀ args w,(callFunc fid args).run prog w=.ok (.enter fid args) w) (O:∀ x y F,Fn0 prog fid [E3 x,E3 y] F fun v _=>v=.bool (l x y)) :
 Fn0 prog 81 [v,.func (.func fid) #[] #[]] u fun H _=>Bm4 l T/\H=.bool true\/¬ Bm4 l T/\H=.bool false:=by
 obtain⟨a,c,rfl⟩:=h.opn;rw[A03]at h⊢;refine Fn0.o func81<|G.l (ι:=Nat) (fun i=>[(0,sV a T.length c),(1,.v (.func (.func fid) #[] #[])),(5,iV (i+1:Nat))]) (fun _=>[])
  (fun i F P=>i<=T.length/\(∀ j (g:j+1<T.length),j<i->l (T[j]'oV) T[j+1]=true)/\P=PH.mt) (fun i=>T.length-i) 0 ⟨oV,fun j g h=>oV,rfl⟩ ?_
 rintro J i N Q U E ⟨hi,h0,rfl⟩;by_cases m:i+1<T.length
 ·refine G.lT (i+1:Nat) T.length ?_;have z:T[i]?=some T[i]:=A01 oV;have C:T[i+1]?=some T[i+1]:=A01 m;obtain⟨n,t,rfl,K⟩:=Ac.at' (h.mono E) (j:=i) (e:=E3 T[i]) (by simp[z]);obtain⟨_,_,I,L⟩:=Ac.at' (h.mono E) (j:=i+1) (e:=E3 T[i+1]) (by simp[C]);cases I;refine G.s (i+1:Nat) 1 i<|G.a n t T.length c i 3 oV<|G.lU (some 3) n (t+i*3) (E3 T[i]) K<|G.a n t T.length c (i+1) 3 oV<|G.lU (some 3) n (t+(i+1)*3) (E3 T[i+1]) L<|G.call0 fid [E3 T[i],E3 T[i+1]] kV d (O T[i] T[i+1] Q) ?_;rintro W V l2 rfl;cases hl2:l T[i] T[i+1] with
  |false=>exact G.r (.bool false) ⟨rfl,.inr ⟨fun h=>absurd (h i m) (by rw[hl2];simp),rfl⟩⟩
  |true =>
   refine G.p (i+1:Nat) 1 (i+1+1:Nat) ?_;exact G.b (N (i+1) _ _ _ cV (E.trans l2) ⟨oV,fun j g h=>by
    rcases (by omega:j<i\/j=i) with e|rfl
    ·exact h0 j g e
    exact hl2,rfl⟩ oV)
 exact G.lF (i+1:Nat) T.length<|G.r (.bool true) ⟨rfl,.inl ⟨fun j g=>h0 j g oV,rfl⟩⟩
def Bre {u:PH}{v:Value}{T:List H3}{fid:Nat}(p:H3->Bool)(h:Ac u v 5 (T.map Bgw))(Q:T.length<=1000000)
 (d:∀ args w,(callFunc fid args).run prog w=.ok (.enter fid args) w) (C:∀ t∈T,∀ F,PH.le u F->Fn0 prog fid [Bgw t] F fun v _=>v=.bool (p t)) :
 Fn0 prog 140 [v,.func (.func fid) #[] #[]] u fun P _=>∃ z:Int,P=.int .i64 z/\(0<=z↔∃ t∈T,p t=true):=by
 obtain⟨a,c,rfl⟩:=h.opn;rw[A03]at h⊢;refine Fn0.o func140<|G.l (ι:=Nat) (fun i=>[(0,sV a T.length c),(1,.v (.func (.func fid) #[] #[])),(7,iV T.length),(8,iV i)]) (fun _=>[])
  (fun i F N=>i<=T.length/\(∀ j (g:j<T.length),j<i->p (T[j]'g)=false)/\N=PH.mt) (fun i=>T.length-i) 0 ⟨oV,fun j g h=>oV,rfl⟩ ?_
 rintro J i L O R E ⟨hi,h0,rfl⟩;by_cases m:i<T.length
 ·refine G.lT i T.length ?_;have n:T[i]?=some T[i]:=A01 m;obtain⟨H,I,rfl,K⟩:=Ac.at' (h.mono E) (j:=i) (e:=Bgw T[i]) (by simp[n]);refine G.a H I T.length c i 5 oV<|G.lU (some 5) H (I+i*5) (Bgw T[i]) K<|G.call0 fid [Bgw T[i]] kV d (C T[i] (A09 m) O E) ?_;rintro V U l2 rfl;cases hp:p T[i] with
  |true=>exact G.r (.int .i64 i) ⟨rfl,_,rfl,fun _=>⟨_,A09 m,hp⟩,fun _=>oV⟩
  |false =>
   refine G.i i ?_;exact G.b (L (i+1) _ _ _ cV (E.trans l2) ⟨oV,fun j g h=>by
    rcases (by omega:j<i\/j=i) with e|rfl
    ·exact h0 j g e
    exact hp,rfl⟩ oV)
 obtain rfl:i=T.length:=oV;refine G.lF T.length T.length ?_;exact G.r (.int .i64 (-1)) ⟨rfl,_,rfl,fun h=>oV,fun⟨f,C,hp⟩=>by
  obtain⟨j,g,rfl⟩:=A2y C;rw[h0 j g g]at hp;cases hp⟩
def Bl4 {u:PH}{v:Value}{T:List H3}{fid:Nat}(p:H3->Bool)(h:Ac u v 5 (T.map Bgw))(n:T.length<=1000000)
 (d:∀ args w,(callFunc fid args).run prog w=.ok (.enter fid args) w) (m:∀ t∈T,∀ j,PH.le u j->Fn0 prog fid [Bgw t] j fun v _=>v=.bool (p t)) :
 Fn0 prog 79 [v,.func (.func fid) #[] #[]] u fun C _=>C=.bool (T.any p):=by
 refine Fn0.o func79<|G.c call140 (Bre p h n d m) ?_;rintro H F E ⟨z,rfl,g⟩;by_cases h0:0<=z
 ·exact G.hT' z 0 h0<|G.r (.bool true) ⟨rfl,by rw[A5h.2 (g.1 h0)]⟩
 refine G.hF' z 0 h0<|G.r (.bool false) ⟨rfl,?_⟩;cases e:T.any p with
 |false=>rfl
 |true=>exact absurd (g.2 (A5h.1 e)) h0
def Blh {u:PH}{v:Value}{T:List H3}{fid:Nat}(l:H3->H3->Bool)(h:Ac u v 5 (T.map Bgw))(R:T.length<=1000000)
 (d:∀ args w,(callFunc fid args).run prog w=.ok (.enter fid args) w) (O:∀ x y F,Fn0 prog fid [Bgw x,Bgw y] F fun v _=>v=.bool (l x y)) :
 Fn0 prog 83 [v,.func (.func fid) #[] #[]] u fun H _=>Bm4 l T/\H=.bool true\/¬ Bm4 l T/\H=.bool false:=by
 obtain⟨a,c,rfl⟩:=h.opn;rw[A03]at h⊢;refine Fn0.o func83<|G.l (ι:=Nat) (fun i=>[(0,sV a T.length c),(1,.v (.func (.func fid) #[] #[])),(5,iV (i+1:Nat))]) (fun _=>[])
  (fun i F P=>i<=T.length/\(∀ j (g:j+1<T.length),j<i->l (T[j]'oV) T[j+1]=true)/\P=PH.mt) (fun i=>T.length-i) 0 ⟨oV,fun j g h=>oV,rfl⟩ ?_
 rintro J i N Q U E ⟨hi,h0,rfl⟩;by_cases m:i+1<T.length
 ·refine G.lT (i+1:Nat) T.length ?_;have z:T[i]?=some T[i]:=A01 oV;have C:T[i+1]?=some T[i+1]:=A01 m;obtain⟨n,t,rfl,K⟩:=Ac.at' (h.mono E) (j:=i) (e:=Bgw T[i]) (by simp[z]);obtain⟨_,_,I,L⟩:=Ac.at' (h.mono E) (j:=i+1) (e:=Bgw T[i+1]) (by simp[C]);cases I;refine G.s (i+1:Nat) 1 i<|G.a n t T.length c i 5 oV<|G.lU (some 5) n (t+i*5) (Bgw T[i]) K<|G.a n t T.length c (i+1) 5 oV<|G.lU (some 5) n (t+(i+1)*5) (Bgw T[i+1]) L<|G.call0 fid [Bgw T[i],Bgw T[i+1]] kV d (O T[i] T[i+1] Q) ?_;rintro W V l2 rfl;cases hl2:l T[i] T[i+1] with
  |false=>exact G.r (.bool false) ⟨rfl,.inr ⟨fun h=>absurd (h i m) (by rw[hl2];simp),rfl⟩⟩
  |true =>
   refine G.p (i+1:Nat) 1 (i+1+1:Nat) ?_;exact G.b (N (i+1) _ _ _ cV (E.trans l2) ⟨oV,fun j g h=>by
    rcases (by omega:j<i\/j=i) with e|rfl
    ·exact h0 j g e
    exact hl2,rfl⟩ oV)
 exact G.lF (i+1:Nat) T.length<|G.r (.bool true) ⟨rfl,.inl ⟨fun j g=>h0 j g oV,rfl⟩⟩
def Bim (u:PH)(v:Value)(c:List UInt8)(S:List K3)(Q:List H3):Prop :=
 ∃ a1 c1 a2 c2,v=.agg #[.string (mkS c),.slice a1 S.length c1,.slice a2 Q.length c2]/\Ac u (.slice a1 S.length c1) 3 (S.map E3)/\Ac u (.slice a2 Q.length c2) 5 (Q.map Bgw)
def Bim.mono {u g:PH}{v:Value}{c:List UInt8}{S:List K3}{Q:List H3}(h:Bim u v c S Q)(d:PH.le u g):Bim g v c S Q:=by
 obtain⟨j,n,m,t,e,z,C⟩:=h;exact⟨j,n,m,t,e,z.mono d,C.mono d⟩
structure Bka (c:List UInt8)(S:List K3)(Q:List H3):Prop where
 c:c.length<=9223372036854775807
 s:∀ t∈S,t.1.2.length<=9223372036854775807/\t.2.length<=9223372036854775807
 q:∀ t∈Q,t.1.1.2.length<=9223372036854775807/\t.1.2.2.length<=9223372036854775807/\t.2.length<=9223372036854775807
 sl:S.length<=10000
 ql:Q.length<=10000
def Bj7 (c:List UInt8)(S:List K3)(Q:List H3):Prop:=Bhb c/\(∀ t∈S,tOK t=true)/\(∀ t∈Q,qOK t=true)/\Bm4 tLt S/\Bm4 qLt Q
def Biy {α:Type}{p:α->Bool}{T:List α}:T.any (fun t=>!p t)=false↔∀ t∈T,p t=true:=by
 rw[List.any_eq_false];exact⟨fun h t d=>by have:=h t d;simpa using this,fun h t d=>by rw[h t d];simp⟩
def Bpj {v:Value}{c:List UInt8}{S:List K3}{Q:List H3}(h:Bim u v c S Q)(d:Bka c S Q):Fn0 prog 40 [v] u fun z _=>Bj7 c S Q/\z=.bool true\/¬ Bj7 c S Q/\z=.bool false:=by
 obtain⟨E,H,F,I,rfl,hT,m⟩:=h;have L:=d.sl;have K:=d.ql;refine Fn0.o func40<|G.c call75 (Bkh c d.c) ?_;rintro U N g (⟨q1,rfl⟩|⟨q1,rfl⟩)
 case inr=>exact G.r (.bool false) ⟨rfl,.inr ⟨fun h=>q1 h.1,rfl⟩⟩
 refine G.c call41 (Bmt (fid:=76) (fun t=>!tOK t) (hT.mono g) oV call76 (fun t e j _=>Bsl t (d.s t e).1 (d.s t e).2)) ?_;rintro V O l2 rfl;cases q2:S.any fun t=>!tOK t with
 |true=>exact G.r (.bool false) ⟨rfl,.inr ⟨fun h=>absurd (Biy.2 h.2.1) (by rw[q2];simp),rfl⟩⟩
 |false =>
 refine G.c call79 (Bl4 (fid:=80) (fun t=>!qOK t) (m.mono (g.trans l2)) oV call80 (fun t e j _=>Bsj t (d.q t e).1 (d.q t e).2.1 (d.q t e).2.2)) ?_;rintro W P n rfl;cases q3:Q.any fun t=>!qOK t with
 |true=>exact G.r (.bool false) ⟨rfl,.inr ⟨fun h=>absurd (Biy.2 h.2.2.1) (by rw[q3];simp),rfl⟩⟩
 |false =>
 refine G.c call81 (Bls (fid:=82) tLt (hT.mono ((g.trans l2).trans n)) oV call82 (fun x y j=>Brv x y)) ?_;rintro X R C (⟨q4,rfl⟩|⟨q4,rfl⟩)
 case inr=>exact G.r (.bool false) ⟨rfl,.inr ⟨fun h=>q4 h.2.2.2.1,rfl⟩⟩
 refine G.c call83 (Blh (fid:=84) qLt (m.mono (((g.trans l2).trans n).trans C)) oV call84 (fun x y j=>Brs x y)) ?_;rintro Y T J (⟨q5,rfl⟩|⟨q5,rfl⟩)
 ·exact G.r (.bool true) ⟨rfl,.inl ⟨⟨q1,Biy.1 q2,Biy.1 q3,q4,q5⟩,rfl⟩⟩
 exact G.r (.bool false) ⟨rfl,.inr ⟨fun h=>q5 h.2.2.2.2,rfl⟩⟩
end
section
section
variable {P:Program}
def Ahc {t e ti ts:TypeId}{k:IntKind}(R:P.underlying t=some (.array 2 e))(hi:(P.info? e).isSome=true)(Q:P.cellsOf e=2)(h:szB P e=some 2)
 (H:(P.fieldsOf e).toList.map Abc = [(true,ti,0),(true,ts,1)]) (j:P.underlying e=some (.struct (P.fieldsOf e))) (I:P.stoodInHeld e=false) (J:P.underlying ti=some (.int k)) (L:P.underlying ts=some .string) (d:Nat) (a b:Par×Par) (w:World) :
 (Op.equalIn (d+3) t (prV a) (prV b)).run P w=.ok (decide (a=b)) w:=by
 have g:Qj P e=some true:=by unfold Qj;rw[j]
 obtain⟨i,hi⟩:=A6a.1 hi;unfold prV;rw[run_equalIn_array w (d+2) _ _ R hi,Q];obtain⟨⟨m,n⟩,u,v⟩:=a;obtain⟨⟨z,C⟩,E,F⟩:=b;rw[show List.range 2 = [0,1] from rfl];simp only[Op.eqItems,Sem.run_bind,A58,A3i];rw[Jq g h,Result.andThen_ok,Jq g h,Result.andThen_ok];have N:=Qn H j I J L d (m,n) (z,C) w;have O:=Qn H j I J L d (u,v) (E,F) w;unfold Ap at N O;have T:(#[Value.int .i64 m,.string (mkS n),.int .i64 u,.string (mkS v)].extract 0 (0+2)) = #[.int .i64 m,.string (mkS n)]:=rfl;have U:(#[Value.int .i64 z,.string (mkS C),.int .i64 E,.string (mkS F)].extract 0 (0+2)) = #[.int .i64 z,.string (mkS C)]:=rfl;have V:(#[Value.int .i64 m,.string (mkS n),.int .i64 u,.string (mkS v)].extract 2 (2+2)) = #[.int .i64 u,.string (mkS v)]:=rfl;have W:(#[Value.int .i64 z,.string (mkS C),.int .i64 E,.string (mkS F)].extract 2 (2+2)) = #[.int .i64 E,.string (mkS F)]:=rfl;simp only[T,U,N,Result.andThen_ok];by_cases e:((m,n):Par)=(z,C)
 ·simp only[e,decide_true,A72,A4z,if_false,Sem.run_bind];rw[Jq g h,Result.andThen_ok,Jq g h,Result.andThen_ok];simp only[V,W,O,Result.andThen_ok];by_cases K:((u,v):Par)=(E,F)
  ·simp[K]
  simp[K]
 simp[e]
def Agq {t e ti ts:TypeId}{k:IntKind}(E:P.underlying t=some (.array 2 e))(g:szB P e=some 2)
 (n:(P.fieldsOf e).toList.map Abc = [(true,ti,0),(true,ts,1)]) (j:P.underlying e=some (.struct (P.fieldsOf e))) (u:P.underlying ti=some (.int k)) (v:P.underlying ts=some .string) (h:Bool) (d:Nat) (a:Par×Par) (w:World) :
 (Instr.checkKey h (d+3) t (prV a)).run P w=.ok () w:=by
 have m:Qj P e=some true:=by unfold Qj;rw[j]
 unfold prV;rw[Instr.checkKey];simp only[Sem.run_bind,run_underlying E,Result.andThen_ok];have z:=Ns n j u v h d a.1 w;have C:=Ns n j u v h d a.2 w;unfold Ap at z C;have F:(#[Value.int .i64 a.1.1,.string (mkS a.1.2),.int .i64 a.2.1,.string (mkS a.2.2)].extract 0 (0+2)) = #[.int .i64 a.1.1,.string (mkS a.1.2)]:=rfl;have H:(#[Value.int .i64 a.1.1,.string (mkS a.1.2),.int .i64 a.2.1,.string (mkS a.2.2)].extract 2 (2+2)) = #[.int .i64 a.2.1,.string (mkS a.2.2)]:=rfl;simp only[Std.Legacy.Range.forIn_eq_forIn_range',Std.Legacy.Range.size,A6t,Nat.add_one_sub_one,Ba5,show List.range' 0 2 1 = [0,1] from rfl,Bbq,Bby,Sem.run_bind,Bf g,Result.andThen_ok,A58,A3i];rw[Jq m g,Result.andThen_ok,F,z];simp only[Result.andThen_ok,Sem.run_pure,Sem.run_bind,Bf g,A3i];rw[Jq m g,Result.andThen_ok,H,C];simp
end
theorem I1:Zk prog 137 prV :=
 ⟨fun a b w=>Ahc (P:=prog) (t:=137) (e:=77) (ti:=3) (ts:=9) (k:=.i64) kV kV kV kV kV kV kV kV kV 9997 a b w,
  ⟨_,(by kernel_rfl:prog.underlying 137=some (.array 2 77)),.inl fun _ _=>rfl⟩,
  fun e a w=>Agq (P:=prog) (t:=137) (e:=77) (ti:=3) (ts:=9) (k:=.i64) kV kV kV kV kV kV e 9997 a w,Ava,Auq⟩
end
section
variable {F:CF}{N' g:Nat}{q:Rat}{v x:Value}{y1 y3:Bool}{y2 y4:SlI}
section
variable {P:Program} [A6 P] {fn:Func} {Post:Ce} {st:List KI×S} {u m:PH}
theorem Ai1 {d:Operand->Value}{o:Op}{t:TypeId}{L:List (Nat×Value)}(h:Bc P d o=.build t L):∃ e:Array (Nat×Operand),o=.build t e/\e.toList.map (fun x=>(x.1,d x.2))=L:=by
 cases o<;>simp only[Bc]at h<;>try cases h
 any_goals ((repeat' split at h)<;>cases h;done)
 grind
def G.buildArr (t e:TypeId)(p q:Par)(h:Aj P (adv P st)=.build t [(0,Ap p),(1,Ap q)])(E:P.underlying t=some (.array 2 e))(C:szB P e=some 2)(H:Z0 P t=some (.agg #[.int .i64 0,.string (mkS []),.int .i64 0,.string (mkS [])]))
 (k:G P fn Post (nx (adv P st) (.agg #[.int .i64 p.1,.string (mkS p.2),.int .i64 q.1,.string (mkS q.2)])) u m):G P fn Post st u m:=by
 refine G.ask h mV (fun j o d w hp=>?_) k;obtain⟨J,n,L⟩:=Ai1 d;obtain⟨dst,I,type,pos,after,guard⟩:=o;simp only at n;subst n;have z:(J.map fun x=>(x.1,j x.2)).toList = [(0,Ap p),(1,Ap q)]:=by simp_all
 simp only[execOp,Instr.build,Sem.run_bind,Abk H,Result.andThen_ok,run_underlying E,Bf C,z];rfl
end
def D7 {κ:Type}(enc:κ->Value)(K:κ->Prop)(u:PH)(o:Obj)(f:κ->Rat)(N:Nat):Prop :=
 ∃ l:List (κ×Value),Hu enc o l/\(∀ p∈l,QP u p.2 (f p.1)/\K p.1/\Sz (f p.1) 12)/\(∀ k,k∉l.map (·.1)->f k=0)/\l.length<=N
section
variable {κ:Type} [DecidableEq κ] {enc:κ->Value} {K:κ->Prop} {u:PH} {o:Obj} {f:κ->Rat} {N:Nat}
def D7.mono {e:PH}(h:D7 enc K u o f N)(z:PH.le u e):D7 enc K e o f N:=by
 obtain⟨l,j,d,n,t⟩:=h;exact⟨l,j,fun p hp=>⟨(d p hp).1.mono z,(d p hp).2⟩,n,t⟩
def D7.up (h:D7 enc K u o f N)(t:N<=N'):D7 enc K u o f N':=by
 obtain⟨l,d,e,j,n⟩:=h;exact⟨l,d,e,j,A04 n t⟩
def D7.congr {f':κ->Rat}(h:D7 enc K u o f N)(e:∀ k,f k=f' k):D7 enc K u o f' N:=by
 rw[<-funext e];exact h
def D7.empty:D7 enc K u (.map #[] 0) (fun _=>0) 0:=⟨[],Hu.empty,mV,fun _ _=>rfl,A08 _⟩
theorem D7.put {o':Obj}{a:κ}{x:Value}{q:Rat}{l:List (κ×Value)}(n:Hu enc o l)(t:∀ p∈l,QP u p.2 (f p.1)/\K p.1/\Sz (f p.1) 12)(h:∀ k,k∉l.map (·.1)->f k=0)(z:l.length<=N)
 (e:Hu enc o' (Lr a x l)) (E:QP u x q) (d:K a) (C:Sz q 12):D7 enc K u o' (Nh f a q) (N+1):=by
 refine⟨_,e,fun p hp=>?_,fun k d=>?_,A04 U1 oV⟩
 ·unfold Nh;rcases Ae0 n.nodup hp with rfl|⟨hp,j⟩
  ·grind
  grind
 rw[Aaq,not_or]at d;unfold Nh;rw[if_neg d.1];exact h k d.2
end
def KT {κ:Type}(_:κ):Prop:=True
def KO (k:Par×Par):Prop:=¬ 0<Bk k.1 k.2
theorem KO.pair (p q:Par):KO (Ay p q):=by
 unfold KO Ay;have d:=Et.sym p q;by_cases h:0<Bk p q
 ·grind
 grind
def Kk (m' u:PH)(v:Value)(F:CF)(N:Nat):Prop :=
 ∃ b a n c b' a' n' c' g1 g2 o1 o2,v=.agg #[.bool b,.slice a n c,.bool b',.slice a' n' c',.map (some g1),.map (some g2)]/\QP u (.agg #[.bool b,.slice a n c,.bool b',.slice a' n' c']) F.c/\g1≠g2/\m'=(PH.mt.upd g1 o1).upd g2 o2/\D7 Ap KT u o1 F.s N/\D7 prV KO u o2 F.t N
def R9 (u:PH)(v:Value)(F:CF)(N:Nat):Prop :=
 ∃ b a n c b' a' n' c' g1 g2 o1 o2,v=.agg #[.bool b,.slice a n c,.bool b',.slice a' n' c',.map (some g1),.map (some g2)]/\QP u (.agg #[.bool b,.slice a n c,.bool b',.slice a' n' c']) F.c/\u g1=some o1/\u g2=some o2/\D7 Ap KT u o1 F.s N/\D7 prV KO u o2 F.t N
def R9.mono {u j:PH}{v:Value}{F:CF}{N:Nat}(h:R9 u v F N)(d:PH.le u j):R9 j v F N:=by
 obtain⟨b,a,n,c,b',t,L,z,g1,g2,O,Q,e,C,E,H,I,J⟩:=h;exact⟨b,a,n,c,b',t,L,z,g1,g2,O,Q,e,C.mono d,d _ _ E,d _ _ H,I.mono d,J.mono d⟩
def Kk.give {z u j:PH}{N:Nat}(h:Kk z u v F N)(d:PH.le u j)(t:PH.le z j):R9 j v F N:=by
 obtain⟨b,a,n,c,b',C,O,E,g1,g2,Q,R,e,H,I,rfl,J,L⟩:=h;exact⟨b,a,n,c,b',C,O,E,g1,g2,Q,R,e,H.mono d,t _ _ (by rw[Ad _ _ I,Ab]),t _ _ (Ab _ _ _),J.mono d,L.mono d⟩
def Kk.congr {t u:PH}{F d:CF}{N N':Nat}(h:Kk t u v F N)(e:F=d)(j:N<=N'):Kk t u v d N':=by
 subst e;obtain⟨b,a,n,c,b',z,O,C,g1,g2,Q,R,e,E,H,I,J,L⟩:=h;exact⟨b,a,n,c,b',z,O,C,g1,g2,Q,R,e,E,H,I,J.up j,L.up j⟩
def Sw {u:PH}{N:Nat}(h:R9 u v F N):∃ b a n c b' d t j g1 g2,v=.agg #[.bool b,.slice a n c,.bool b',.slice d t j,.map (some g1),.map (some g2)]:=by
 obtain⟨b,a,n,c,b',d,t,j,g1,g2,z,C,e,_⟩:=h;exact⟨b,a,n,c,b',d,t,j,g1,g2,e⟩
def Oe {z u:PH}{N:Nat}(h:Kk z u v F N):∃ b a n c b' d t j g1 g2,v=.agg #[.bool b,.slice a n c,.bool b',.slice d t j,.map (some g1),.map (some g2)]:=by
 obtain⟨b,a,n,c,b',d,t,j,g1,g2,C,E,e,_⟩:=h;exact⟨b,a,n,c,b',d,t,j,g1,g2,e⟩
def Jm {u:PH}{n:Int}(H:-9223372036854775807<=n)(I:n<=9223372036854775807):Ag prog 63 [.int .i64 n] u PH.mt fun v R Q=>Kk Q R v ⟨(n:Rat),fun _=>0,fun _=>0⟩ 0:=by
 refine Ag.o func63<|G.c call120 (P6 H I) ?_;intro V U T z;obtain⟨b,a,E,c,j,C,t,rfl,_⟩:=z.opn;refine G.mapMk kV ?_;intro g1 J L;refine G.mapMk kV ?_;intro g2 d O;have h:g1≠g2:=fun e=>by subst e;rw[Ab]at d;cases d
 exact G.r (.agg #[.bool b,.slice a E c,.bool false,.slice j C t,.map (some g1),.map (some g2)]) ⟨b,a,E,c,false,j,C,t,g1,g2,_,_,rfl,z,h,rfl,D7.empty,D7.empty⟩
theorem Oi {u:PH}{g2:Option Nat}{o:Obj}{f:Par->Rat}{N:Nat}{a:Par}(h:D7 Ap KT u o f N)(J:QP u x q)(hq:SB q)(hf:SB (f a))(I:SB (q+f a)) :
 Ag prog 122 [.agg #[.bool y1,.slice y2.1 y2.2.1 y2.2.2,.bool y3,.slice y4.1 y4.2.1 y4.2.2,.map (some g),.map g2],Ap a,x] u (Pj g o) fun v u' m'=>∃ o',m'=Pj g o'/\D7 Ap KT u' o' (Nh f a (q+f a)) (N+1):=by
 obtain⟨l,e,j,H,Q⟩:=id h;obtain⟨b,X,n,c,U,n',c',rfl,_⟩:=J.opn;refine Ag.o func122 ?_;cases hx':Ik a l with
 |none =>
  have a0:f a=0:=H a (M8.1 hx');have e0:q+f a=q:=by grind
  rw[e0]at I⊢;refine G.mapNot (et:=90) Bq fz g o l a kV kV (.inr (Ck _ _)) e hx'<|G.mapPut (et:=90) Bq g o l a (.agg #[.bool b,.slice X n c,.bool false,.slice U n' c']) kV kV (Ck _ _) e ?_;intro o' d;exact G.r (.tuple #[]) ⟨o',Dp _ _ _ _,D7.put e j H Q d J trivial I.sz⟩
 |some xv =>
  obtain⟨R,_,_⟩:=j _ (O4 hx');obtain⟨Y,V,n1,c1,t,L,C,rfl,_⟩:=R.opn;refine G.mapHas (et:=90) Bq fz g o l a (.agg #[.bool Y,.slice V n1 c1,.bool false,.slice t L C]) kV kV (.inr (Ck _ _)) e hx'<|G.c call124 (Pd J R (hq.sz.mono oV) (hf.sz.mono oV)) ?_;intro v1 u1 l1 T;obtain⟨Z,W,n2,c2,z,O,E,rfl,_⟩:=T.opn;refine G.mapPut (et:=90) Bq g o l a (.agg #[.bool Z,.slice W n2 c2,.bool false,.slice z O E]) kV kV (Ck _ _) e ?_;intro o' d;exact G.r (.tuple #[]) ⟨o',Dp _ _ _ _,D7.put e (fun p hp=>⟨(j p hp).1.mono l1,(j p hp).2⟩) H Q d T trivial I.sz⟩
theorem H7 {u:PH}{g1:Option Nat}{o:Obj}{f:Par×Par->Rat}{N:Nat}{p r:Par}(h:D7 prV KO u o f N)(C:QP u x q)(hq:SB q)(Y:SB (f (Ay p r)))(E:SB (q+f (Ay p r))) :
 Ag prog 123 [.agg #[.bool y1,.slice y2.1 y2.2.1 y2.2.2,.bool y3,.slice y4.1 y4.2.1 y4.2.2,.map g1,.map (some g)],Ap p,Ap r,x] u (Pj g o) fun v u' m'=>∃ o',m'=Pj g o'/\D7 prV KO u' o' (Nh f (Ay p r) (q+f (Ay p r))) (N+1):=by
 obtain⟨b,aa,n,c,a',n',c',rfl,_⟩:=C.opn;refine Ag.o func123 ?_;have T:=KO.pair p r;by_cases z:Bk r p<0
 ·have he:Ay p r=(r,p):=by unfold Ay;rw[if_pos ((Et.sym r p).1 z)]
  rw[he]at Y E T⊢;refine G.c call68 (Fp r p true (decide_eq_true z)) ?_;rintro v0 u0 X rfl;obtain⟨l,j,t,O,U⟩:=h.mono X;have C:=C.mono X;cases hx':Ik (r,p) l with
  |none =>
   have a0:f (r,p)=0:=O _ (M8.1 hx');have e0:q+f (r,p)=q:=by grind
   rw[e0]at E⊢;refine G.buildArr 137 77 r p kV kV kV kV<|G.mapNot (et:=90) I1 fz g o l (r,p) kV kV (.inr (Ck _ _)) j hx'<|G.mapPut (et:=90) I1 g o l (r,p) (.agg #[.bool b,.slice aa n c,.bool false,.slice a' n' c']) kV kV (Ck _ _) j ?_;intro o' d;exact G.r (.tuple #[]) ⟨o',Dp _ _ _ _,D7.put j t O U d C T E.sz⟩
  |some xv =>
   obtain⟨V,_,_⟩:=t _ (O4 hx');obtain⟨b1,Z,n1,c1,H,Q,J,rfl,_⟩:=V.opn;refine G.buildArr 137 77 r p kV kV kV kV<|G.mapHas (et:=90) I1 fz g o l (r,p) (.agg #[.bool b1,.slice Z n1 c1,.bool false,.slice H Q J]) kV kV (.inr (Ck _ _)) j hx'<|G.c call124 (Pd C V (hq.sz.mono oV) (Y.sz.mono oV)) ?_;intro v1 u1 l1 W;obtain⟨b2,a2,n2,c2,I,R,L,rfl,_⟩:=W.opn;refine G.mapPut (et:=90) I1 g o l (r,p) (.agg #[.bool b2,.slice a2 n2 c2,.bool false,.slice I R L]) kV kV (Ck _ _) j ?_;intro o' d;exact G.r (.tuple #[]) ⟨o',Dp _ _ _ _,D7.put j (fun p hp=>⟨(t p hp).1.mono l1,(t p hp).2⟩) O U d W T E.sz⟩
 have he:Ay p r=(p,r):=by unfold Ay;rw[if_neg (fun e=>z ((Et.sym r p).2 e))]
 rw[he]at Y E T⊢;refine G.c call68 (Fp r p false (decide_eq_false z)) ?_;rintro v0 u0 X rfl;obtain⟨l,j,t,O,U⟩:=h.mono X;have C:=C.mono X;cases hx':Ik (p,r) l with
 |none =>
  have a0:f (p,r)=0:=O _ (M8.1 hx');have e0:q+f (p,r)=q:=by grind
  rw[e0]at E⊢;refine G.buildArr 137 77 p r kV kV kV kV<|G.mapNot (et:=90) I1 fz g o l (p,r) kV kV (.inr (Ck _ _)) j hx'<|G.mapPut (et:=90) I1 g o l (p,r) (.agg #[.bool b,.slice aa n c,.bool false,.slice a' n' c']) kV kV (Ck _ _) j ?_;intro o' d;exact G.r (.tuple #[]) ⟨o',Dp _ _ _ _,D7.put j t O U d C T E.sz⟩
 |some xv =>
  obtain⟨V,_,_⟩:=t _ (O4 hx');obtain⟨b1,Z,n1,c1,H,Q,J,rfl,_⟩:=V.opn;refine G.buildArr 137 77 p r kV kV kV kV<|G.mapHas (et:=90) I1 fz g o l (p,r) (.agg #[.bool b1,.slice Z n1 c1,.bool false,.slice H Q J]) kV kV (.inr (Ck _ _)) j hx'<|G.c call124 (Pd C V (hq.sz.mono oV) (Y.sz.mono oV)) ?_;intro v1 u1 l1 W;obtain⟨b2,a2,n2,c2,I,R,L,rfl,_⟩:=W.opn;refine G.mapPut (et:=90) I1 g o l (p,r) (.agg #[.bool b2,.slice a2 n2 c2,.bool false,.slice I R L]) kV kV (Ck _ _) j ?_;intro o' d;exact G.r (.tuple #[]) ⟨o',Dp _ _ _ _,D7.put j (fun p hp=>⟨(t p hp).1.mono l1,(t p hp).2⟩) O U d W T E.sz⟩
end
section
variable {k:Par×Par}
def Awv (T:TypeId):Op->Bool
 |.indexAddr t _ _=>Nat.beq t T
 |_=>false
section
variable {P:Program} [A6 P] {fn:Func} {Post:Ce} {st:List KI×S} {u m:PH}
def G.addrA (t e:TypeId)(n b off j sz:Nat)(h:Aj P (adv P st)=.addr none (.pointer (some ⟨b,off,none⟩)) (.int .i64 j))(F:Yr (Awv t) (adv P st)=true)(K:P.underlying t=some (.array n e))(H:szB P e=some sz)(O:j<n)
 (k:G P fn Post (nx (adv P st) (.pointer (some ⟨b,off+j*sz,none⟩))) u m):G P fn Post st u m:=by
 refine G.askQ (Awv t) h F mV (fun E o d v w _=>?_) k;obtain⟨Q,X,I,g,z,C,_⟩:=Z1 d;rw[g]at v;have J:=A1y v;subst J;obtain⟨dst,L,type,pos,after,guard⟩:=o;simp only at g;subst g;simp[execOp,Instr.indexAt,Instr.sureAddr,asIntOf,z,C,run_underlying K,Bf H,Ed];intro N;omega
end
def Aly {m:PH}{b:Nat}{t:TypeId}(h:m b=some (.cells [Value.int .i64 k.1.1,.string (mkS k.1.2),.int .i64 k.2.1,.string (mkS k.2.2)].toArray t (0,0))):ElP m b (0+0*2) (Ap k.1)/\ElP m b (0+1*2) (Ap k.2):=by
 have h0:ElP m b 0 (.agg #[.int .i64 k.1.1,.string (mkS k.1.2),.int .i64 k.2.1,.string (mkS k.2.2)]):=My h rfl;refine⟨h0.sub (k:=0) fun i y d=>?_,h0.sub (k:=2) fun i y d=>?_⟩
 ·match i,d with
  |0,d=>simpa[Ap,Value.cells] using d
  |1,d=>simpa[Ap,Value.cells] using d
 match i,d with
 |0,d=>simpa[Ap,Value.cells] using d
 |1,d=>simpa[Ap,Value.cells] using d
def SB.ten {q:Rat}(h:SB q):Sz q 10000000000:=h.sz.mono oV
def KO.fix (h:KO k):Ay k.1 k.2=k:=by unfold Ay;rw[if_neg h]
def D7.at {κ:Type}[DecidableEq κ]{enc:κ->Value}{K:κ->Prop}{u:PH}{o:Obj}{f:κ->Rat}{N:Nat}(h:D7 enc K u o f N) :
 ∃ l:List (κ×Value),Hu enc o l/\(∀ p∈l,QP u p.2 (f p.1)/\K p.1)/\(∀ k,k∉l.map (·.1)->f k=0)/\l.length<=N:=by
 obtain⟨l,e,d,g,j⟩:=h;exact⟨l,e,fun p hp=>⟨(d p hp).1,(d p hp).2.1⟩,g,j⟩
end
theorem Arj {u:PH}{F H:CF}{N M:Nat}{v w:Value}(hv:R9 u v F N)(hw:R9 u w H M)(ok:Aw3 F H) :
 Ag prog 64 [v,w] u PH.mt fun v' u' T=>Kk T u' v' (F.mul H) (M+N+N*M):=by
 obtain⟨vb,va,vn,vc,ay,ax,b0,az,v1,v2,q1,q2,rfl,cu,f1,f2,s1,s2⟩:=id hv;obtain⟨wb,wa,wn,wc,b3,b1,b6,b5,w1,w2,p1,p2,rfl,cv,e1,e2,t1,t2⟩:=id hw;obtain⟨lv,⟨a8,O,rfl,cq,bg⟩,d8,dg,ew⟩:=s1.at;obtain⟨lw,⟨aa,U,rfl,cr,bi⟩,da,di,e4⟩:=t1.at;obtain⟨kv,⟨b7,ac,rfl,c8,bh⟩,d9,dh,ek⟩:=s2.at;obtain⟨kw,⟨b8,ad,rfl,ca,bj⟩,db,dj,em⟩:=t2.at;have cb:(lv.map (·.1)).Nodup:=Hu.nodup (enc:=Ap) ⟨a8,O,rfl,cq,bg⟩;have cc:(lw.map (·.1)).Nodup:=Hu.nodup (enc:=Ap) ⟨aa,U,rfl,cr,bi⟩;have cs:(kv.map (·.1)).Nodup:=Hu.nodup (enc:=prV) ⟨b7,ac,rfl,c8,bh⟩;have ct:(kw.map (·.1)).Nodup:=Hu.nodup (enc:=prV) ⟨b8,ad,rfl,ca,bj⟩;refine Ag.o func64<|G.callO _ _ kV call63 (Jm (n:=0) oV oV) ?_;rintro v3 u3 m3 l3 ⟨b,a,n,c,b',a',n',c',g1,g2,o1,o2,rfl,_,aj,rfl,h1,h2⟩ _;rw[By];refine G.c call121 (Gh (cu.mono l3) (cv.mono l3) (SB.ten ok.a.c) (SB.ten ok.b.c)) ?_;intro v5 u5 l5 r5;obtain⟨b2,a2,x2,c2,E,K,I,rfl,_⟩:=r5.opn;have d0:=l3.trans l5;obtain⟨m5,e3,co,cp⟩:∃ m5:PH,m5=(PH.mt.upd g1 o1).upd g2 o2/\m5 g1=some o1/\m5 g2=some o2:=⟨_,rfl,by rw[Ad _ _ aj,Ab],Ab _ _ _⟩;rw[<-e3];have an:CFS (F.scale H.c):=ok.d;have d6:CFS (H.scale F.c):=ok.c;have cd:∀ k,SB ((F.scale H.c).s k+H.s k*F.c):=fun k=>by rw[A46];exact ok.e.s k
 have bf:∀ k,SB ((F.scale H.c).t k+H.t k*F.c):=fun k=>by rw[A46];exact ok.e.t k
 have dd:∀ k:Par,SB ((fun _:Par=>(0:Rat)) k+F.s k*H.c):=fun k=>by show SB (0+F.s k*H.c);rw[A9f];exact an.s k
 have df:∀ k:Par×Par,SB ((fun _:Par×Par=>(0:Rat)) k+F.t k*H.c):=fun k=>by show SB (0+F.t k*H.c);rw[A9f];exact an.t k
 have dw:D7 Ap KT u5 o1 (fun _=>0) 0:=h1.mono l5;have ds:D7 prV KO u5 o2 (fun _=>0) 0:=h2.mono l5;have ex:=d0;refine G.mapRange v1 a8 O 77 90 kV (.inl (d0 _ _ f1)) ?_;intro ao c3 eg;have cw:g1≠ao:=fun e=>by subst e;rw[c3]at co;cases co
 have dk:g2≠ao:=fun e=>by subst e;rw[c3]at cp;cases cp
 refine G.l (ι:=List MapEntry×List ((Par)×Value)) (fun _=>[(2,.p 0 0),(3,.p 1 0),(4,.p 2 0),(5,.p 1001 0),(28,.v (.pointer (some ⟨ao,0,none⟩)))])
  (fun _=>[(0,⟨94,[bV vb,sV va vn vc,bV ay,sV ax b0 az,.v (.map (some v1)),.v (.map (some v2))]⟩),(1,⟨94,[bV wb,sV wa wn wc,bV b3,sV b1 b6 b5,.v (.map (some w1)),.v (.map (some w2))]⟩),(2,⟨94,[bV false,sV none 0 0,bV false,sV none 0 0,.v (.map none),.v (.map none)]⟩),(1001,⟨94,[bV b2,sV a2 x2 c2,bV false,sV E K I,.v (.map (some g1)),.v (.map (some g2))]⟩)])
  (fun i u' T=>Gj Ap a8 lv i.1 i.2/\T ao=some (.mapIter (some v1) O (Ar i.1) O)/\T g2=some o2/\∃ oo,T g1=some oo/\D7 Ap KT u' oo (Ek (fun _=>0) F.s H.c (i.2.map (·.1))) (0+i.2.length))
  (fun i=>lv.length-i.2.length) ([],[])
  ⟨Gj.nil _ _,Ab _ _ _,by rw[Ad _ _ dk];exact cp,_,by rw[Ad _ _ cw];exact co,by
   have:Ek (fun _=>0) F.s H.c (([]:List ((Par)×Value)).map (·.1))=(fun _=>0):=by funext k;simp[Ek]
   dsimp only;rw[this];exact dw⟩ ?_
 rintro JA ⟨D,LA⟩ ci uA mA lA ⟨V,C,Y,oA,af,ba⟩;simp only at V C Y af ba ci;have aq:=d0.trans lA;refine G.mapNextL Bq.inj ao v1 a8 O lv D LA kV kV C (.inl (aq _ _ f1)) bg cq cb V ?doneA ?nextA
 case nextA =>
  rintro⟨k,xv⟩ e hp hkn he hek hev hS';simp only at hkn hek hev;obtain⟨hx,ab⟩:=d8 _ hp;simp only at hx ab;obtain⟨yb,ya,yn,yc,bk,bm,bl,rfl,_⟩:=hx.opn;refine G.mapEntry ao v1 a8 O D e kV (Ab _ _ _) (.inl (aq _ _ f1)) bg he ?_;rw[hek,hev];refine G.c call121 (Gh (hx.mono aq) (cv.mono aq) (SB.ten (ok.a.s k)) (SB.ten ok.b.c)) ?_;intro v4 u4 a0 r4;obtain⟨b4,a4,x4,c4,cg,d3,ch,rfl,_⟩:=r4.opn;refine G.callG _ _ kV kV call122 (g:=g1) (o:=oA) (by rw[Ad _ _ cw];exact af)
   (Oi (g2:=some g2) (y1:=b2) (y2:=(a2,x2,c2)) (y3:=false) (y4:=(E,K,I)) (ba.mono a0) r4 (an.s k) (O3 (fun _=>SB.zero) dd k) (by
    have:Ek (fun _=>0) F.s H.c (LA.map (·.1)) k=(fun _=>0) k:=by unfold Ek;rw[if_neg hkn]
    rw[this,A46];exact dd k)) ?_
  intro v5 u5 o5 a1 a3;rw[Jo _ _ _ hkn]at a3;refine G.b (ci (D++[e],LA++[(k,_)]) _ _ _ cV ((lA.trans a0).trans a1)
   ⟨hS',by rw[Ad _ _ (Ne.symm cw),Ab],by rw[Ad _ _ (Ne.symm aj),Ad _ _ dk];exact Y,o5,Ab _ _ _,by
    simpa[A3p] using a3⟩ (by have:=hS'.len;simp at this;dsimp only;simp;omega))
 case doneA =>
 intro z;rw[Me _ _ _ fun k hk=>dg k fun hm=>hk (by
  obtain⟨p,hp,rfl⟩:=A1b.1 hm;exact A1b.2 ⟨p,z p hp,rfl⟩)]at ba
 have eb:=V.len;have dx:=ba.congr (f':=(F.scale H.c).s) (fun k=>by show 0+F.s k*H.c=F.s k*H.c;rw[A9f]);have dt:=ds.mono lA;clear ci V C z ba;refine G.mapRange w1 aa U 77 90 kV (.inl (aq _ _ e1)) ?_;intro ap c5 eh;have cx:g1≠ap:=fun e=>by subst e;rw[c5]at af;cases af
 have dl:g2≠ap:=fun e=>by subst e;rw[c5]at Y;cases Y
 refine G.l (ι:=List MapEntry×List ((Par)×Value)) (fun _=>[(2,.p 0 0),(3,.p 1 0),(4,.p 2 0),(5,.p 1001 0),(43,.v (.pointer (some ⟨ap,0,none⟩)))])
  (fun _=>[(0,⟨94,[bV vb,sV va vn vc,bV ay,sV ax b0 az,.v (.map (some v1)),.v (.map (some v2))]⟩),(1,⟨94,[bV wb,sV wa wn wc,bV b3,sV b1 b6 b5,.v (.map (some w1)),.v (.map (some w2))]⟩),(2,⟨94,[bV false,sV none 0 0,bV false,sV none 0 0,.v (.map none),.v (.map none)]⟩),(1001,⟨94,[bV b2,sV a2 x2 c2,bV false,sV E K I,.v (.map (some g1)),.v (.map (some g2))]⟩)])
  (fun i u' T=>Gj Ap aa lw i.1 i.2/\T ap=some (.mapIter (some w1) U (Ar i.1) U)/\T g2=some o2/\∃ oo,T g1=some oo/\D7 Ap KT u' oo (Ek (F.scale H.c).s H.s F.c (i.2.map (·.1))) (0+LA.length+i.2.length))
  (fun i=>lw.length-i.2.length) ([],[])
  ⟨Gj.nil _ _,Ab _ _ _,by rw[Ad _ _ dl];exact Y,_,by rw[Ad _ _ cx];exact af,by
   have:Ek (F.scale H.c).s H.s F.c (([]:List ((Par)×Value)).map (·.1))=(F.scale H.c).s:=by funext k;simp[Ek]
   dsimp only;rw[this];exact dx⟩ ?_
 rintro JB ⟨D,LB⟩ cj uB mB lB ⟨V,C,Z,oB,ag,bb⟩;simp only at V C Z ag bb cj;have ar:=aq.trans lB;refine G.mapNextL Bq.inj ap w1 aa U lw D LB kV kV C (.inl (ar _ _ e1)) bi cr cc V ?doneB ?nextB
 case nextB =>
  rintro⟨k,xv⟩ e hp hkn he hek hev hS';simp only at hkn hek hev;obtain⟨hx,ab⟩:=da _ hp;simp only at hx ab;obtain⟨yb,ya,yn,yc,bk,bm,bl,rfl,_⟩:=hx.opn;refine G.mapEntry ap w1 aa U D e kV (Ab _ _ _) (.inl (ar _ _ e1)) bi he ?_;rw[hek,hev];refine G.c call121 (Gh (hx.mono ar) (cu.mono ar) (SB.ten (ok.b.s k)) (SB.ten ok.a.c)) ?_;intro v4 u4 a0 r4;obtain⟨b4,a4,x4,c4,cg,d3,ch,rfl,_⟩:=r4.opn;refine G.callG _ _ kV kV call122 (g:=g1) (o:=oB) (by rw[Ad _ _ cx];exact ag)
   (Oi (g2:=some g2) (y1:=b2) (y2:=(a2,x2,c2)) (y3:=false) (y4:=(E,K,I)) (bb.mono a0) r4 (d6.s k) (O3 an.s cd k) (by
    have:Ek (F.scale H.c).s H.s F.c (LB.map (·.1)) k=(F.scale H.c).s k:=by unfold Ek;rw[if_neg hkn]
    rw[this,A46];exact cd k)) ?_
  intro v5 u5 o5 a1 a3;rw[Jo _ _ _ hkn]at a3;refine G.b (cj (D++[e],LB++[(k,_)]) _ _ _ cV ((lB.trans a0).trans a1)
   ⟨hS',by rw[Ad _ _ (Ne.symm cx),Ab],by rw[Ad _ _ (Ne.symm aj),Ad _ _ dl];exact Z,o5,Ab _ _ _,by
    simpa[A3p] using a3⟩ (by have:=hS'.len;simp at this;dsimp only;simp;omega))
 case doneB =>
 intro z;rw[Me _ _ _ fun k hk=>di k fun hm=>hk (by
  obtain⟨p,hp,rfl⟩:=A1b.1 hm;exact A1b.2 ⟨p,z p hp,rfl⟩)]at bb
 have ec:=V.len;have dy:=bb.congr (f':=(F.mul H).s) (fun k=>by show F.s k*H.c+H.s k*F.c=H.s k*F.c+F.s k*H.c;rw[A46]);have du:=dt.mono lB;clear cj V C z bb;refine G.mapRange v2 b7 ac 137 90 kV (.inl (ar _ _ f2)) ?_;intro ah c6 ei;have cy:g1≠ah:=fun e=>by subst e;rw[c6]at ag;cases ag
 have bs:g2≠ah:=fun e=>by subst e;rw[c6]at Z;cases Z
 refine G.l (ι:=List MapEntry×List ((Par×Par)×Value)) (fun _=>[(2,.p 0 0),(3,.p 1 0),(4,.p 2 0),(5,.p 1001 0),(58,.v (.pointer (some ⟨ah,0,none⟩)))])
  (fun _=>[(0,⟨94,[bV vb,sV va vn vc,bV ay,sV ax b0 az,.v (.map (some v1)),.v (.map (some v2))]⟩),(1,⟨94,[bV wb,sV wa wn wc,bV b3,sV b1 b6 b5,.v (.map (some w1)),.v (.map (some w2))]⟩),(2,⟨94,[bV false,sV none 0 0,bV false,sV none 0 0,.v (.map none),.v (.map none)]⟩),(1001,⟨94,[bV b2,sV a2 x2 c2,bV false,sV E K I,.v (.map (some g1)),.v (.map (some g2))]⟩)])
  (fun i u' T=>Gj prV b7 kv i.1 i.2/\T ah=some (.mapIter (some v2) ac (Ar i.1) ac)/\T g1=some oB/\∃ oo,T g2=some oo/\D7 prV KO u' oo (Ek (fun _=>0) F.t H.c (i.2.map (·.1))) (0+i.2.length))
  (fun i=>kv.length-i.2.length) ([],[])
  ⟨Gj.nil _ _,Ab _ _ _,by rw[Ad _ _ cy];exact ag,_,by rw[Ad _ _ bs];exact Z,by
   have:Ek (fun _=>0) F.t H.c (([]:List ((Par×Par)×Value)).map (·.1))=(fun _=>0):=by funext k;simp[Ek]
   dsimp only;rw[this];exact du⟩ ?_
 rintro JC ⟨D,LC⟩ ck uC mC lC ⟨V,C,P,oC,a6,bc⟩;simp only at V C P a6 bc ck;have au:=ar.trans lC;refine G.mapNextL I1.inj ah v2 b7 ac kv D LC kV kV C (.inl (au _ _ f2)) bh c8 cs V ?doneC ?nextC
 case nextC =>
  rintro⟨k,xv⟩ e hp hkn he hek hev hS';simp only at hkn hek hev;obtain⟨hx,ab⟩:=d9 _ hp;simp only at hx ab;obtain⟨yb,ya,yn,yc,bk,bm,bl,rfl,_⟩:=hx.opn;refine G.mapEntry ah v2 b7 ac D e kV (Ab _ _ _) (.inl (au _ _ f2)) bh he ?_;rw[hek,hev];have X:=ab.fix;refine G.pub 13003 137 [.int .i64 k.1.1,.string (mkS k.1.2),.int .i64 k.2.1,.string (mkS k.2.2)] kV kV ?_;intro bq e5 R;have q1:g1≠bq:=fun e=>by subst e;rw[Ad _ _ cy,P]at R;cases R
  have q2:g2≠bq:=fun e=>by subst e;rw[Ad _ _ bs,a6]at R;cases R
  have q3:ah≠bq:=fun e=>by subst e;rw[Ab]at R;cases R
  obtain⟨d1,d2⟩:=Aly (m:=(mC.upd ah (.mapIter (some v2) ac (Ar (D++[e])) ac)).upd bq (.cells [Value.int .i64 k.1.1,.string (mkS k.1.2),.int .i64 k.2.1,.string (mkS k.2.2)].toArray 137 (0,0))) (Ab _ _ _);refine G.addrA 137 77 2 bq 0 0 2 kV kV kV kV oV<|G.lM (some 2) bq (0+0*2) (.agg #[.int .i64 k.1.1,.string (mkS k.1.2)]) d1<|G.addrA 137 77 2 bq 0 1 2 kV kV kV kV oV<|G.lM (some 2) bq (0+1*2) (.agg #[.int .i64 k.2.1,.string (mkS k.2.2)]) d2<|G.c call121 (Gh (hx.mono au) (cv.mono au) (SB.ten (ok.a.t k)) (SB.ten ok.b.c)) ?_;intro v4 u4 a0 r4;obtain⟨b4,a4,x4,c4,cg,d3,ch,rfl,_⟩:=r4.opn;refine G.callG _ _ kV kV call123 (g:=g2) (o:=oC) (by rw[Ad _ _ q2,Ad _ _ bs];exact a6)
   (H7 (g1:=some g1) (y1:=b2) (y2:=(a2,x2,c2)) (y3:=false) (y4:=(E,K,I)) (p:=k.1) (r:=k.2) (bc.mono a0) r4 (an.t k) (by rw[X];exact O3 (fun _=>SB.zero) df k) (by
    have:Ek (fun _=>0) F.t H.c (LC.map (·.1)) k=(fun _=>0) k:=by unfold Ek;rw[if_neg hkn]
    rw[X,this,A46];exact df k)) ?_
  intro v5 u5 o5 a1 a3;rw[X,Jo _ _ _ hkn]at a3;refine G.b (ck (D++[e],LC++[(k,_)]) _ _ _ cV ((lC.trans a0).trans a1)
   ⟨hS',by rw[Ad _ _ (Ne.symm bs),Ad _ _ q3,Ab],by rw[Ad _ _ aj,Ad _ _ q1,Ad _ _ cy];exact P,o5,Ab _ _ _,by
    simpa[A3p] using a3⟩ (by have:=hS'.len;simp at this;dsimp only;simp;omega))
 case doneC =>
 intro z;rw[Me _ _ _ fun k hk=>dh k fun hm=>hk (by
  obtain⟨p,hp,rfl⟩:=A1b.1 hm;exact A1b.2 ⟨p,z p hp,rfl⟩)]at bc
 have ed:=V.len;have dv:=bc.congr (f':=(F.scale H.c).t) (fun k=>by show 0+F.t k*H.c=F.t k*H.c;rw[A9f]);have dz:=dy.mono lC;clear ck V C z bc;refine G.mapRange w2 b8 ad 137 90 kV (.inl (au _ _ e2)) ?_;intro ai c7 ej;have cz:g1≠ai:=fun e=>by subst e;rw[c7]at P;cases P
 have bt:g2≠ai:=fun e=>by subst e;rw[c7]at a6;cases a6
 refine G.l (ι:=List MapEntry×List ((Par×Par)×Value)) (fun _=>[(2,.p 0 0),(3,.p 1 0),(4,.p 2 0),(5,.p 1001 0),(76,.v (.pointer (some ⟨ai,0,none⟩)))])
  (fun _=>[(0,⟨94,[bV vb,sV va vn vc,bV ay,sV ax b0 az,.v (.map (some v1)),.v (.map (some v2))]⟩),(1,⟨94,[bV wb,sV wa wn wc,bV b3,sV b1 b6 b5,.v (.map (some w1)),.v (.map (some w2))]⟩),(2,⟨94,[bV false,sV none 0 0,bV false,sV none 0 0,.v (.map none),.v (.map none)]⟩),(1001,⟨94,[bV b2,sV a2 x2 c2,bV false,sV E K I,.v (.map (some g1)),.v (.map (some g2))]⟩)])
  (fun i u' T=>Gj prV b8 kw i.1 i.2/\T ai=some (.mapIter (some w2) ad (Ar i.1) ad)/\T g1=some oB/\∃ oo,T g2=some oo/\D7 prV KO u' oo (Ek (F.scale H.c).t H.t F.c (i.2.map (·.1))) (0+LC.length+i.2.length))
  (fun i=>kw.length-i.2.length) ([],[])
  ⟨Gj.nil _ _,Ab _ _ _,by rw[Ad _ _ cz];exact P,_,by rw[Ad _ _ bt];exact a6,by
   have:Ek (F.scale H.c).t H.t F.c (([]:List ((Par×Par)×Value)).map (·.1))=(F.scale H.c).t:=by funext k;simp[Ek]
   dsimp only;rw[this];exact dv⟩ ?_
 rintro JD ⟨D,LD⟩ cl uD mD lD ⟨V,C,Q,oD,a7,bd⟩;simp only at V C Q a7 bd cl;have av:=au.trans lD;refine G.mapNextL I1.inj ai w2 b8 ad kw D LD kV kV C (.inl (av _ _ e2)) bj ca ct V ?doneD ?nextD
 case nextD =>
  rintro⟨k,xv⟩ e hp hkn he hek hev hS';simp only at hkn hek hev;obtain⟨hx,ab⟩:=db _ hp;simp only at hx ab;obtain⟨yb,ya,yn,yc,bk,bm,bl,rfl,_⟩:=hx.opn;refine G.mapEntry ai w2 b8 ad D e kV (Ab _ _ _) (.inl (av _ _ e2)) bj he ?_;rw[hek,hev];have X:=ab.fix;refine G.pub 17003 137 [.int .i64 k.1.1,.string (mkS k.1.2),.int .i64 k.2.1,.string (mkS k.2.2)] kV kV ?_;intro bq e5 R;have q1:g1≠bq:=fun e=>by subst e;rw[Ad _ _ cz,Q]at R;cases R
  have q2:g2≠bq:=fun e=>by subst e;rw[Ad _ _ bt,a7]at R;cases R
  have q3:ai≠bq:=fun e=>by subst e;rw[Ab]at R;cases R
  obtain⟨d1,d2⟩:=Aly (m:=(mD.upd ai (.mapIter (some w2) ad (Ar (D++[e])) ad)).upd bq (.cells [Value.int .i64 k.1.1,.string (mkS k.1.2),.int .i64 k.2.1,.string (mkS k.2.2)].toArray 137 (0,0))) (Ab _ _ _);refine G.addrA 137 77 2 bq 0 0 2 kV kV kV kV oV<|G.lM (some 2) bq (0+0*2) (.agg #[.int .i64 k.1.1,.string (mkS k.1.2)]) d1<|G.addrA 137 77 2 bq 0 1 2 kV kV kV kV oV<|G.lM (some 2) bq (0+1*2) (.agg #[.int .i64 k.2.1,.string (mkS k.2.2)]) d2<|G.c call121 (Gh (hx.mono av) (cu.mono av) (SB.ten (ok.b.t k)) (SB.ten ok.a.c)) ?_;intro v4 u4 a0 r4;obtain⟨b4,a4,x4,c4,cg,d3,ch,rfl,_⟩:=r4.opn;refine G.callG _ _ kV kV call123 (g:=g2) (o:=oD) (by rw[Ad _ _ q2,Ad _ _ bt];exact a7)
   (H7 (g1:=some g1) (y1:=b2) (y2:=(a2,x2,c2)) (y3:=false) (y4:=(E,K,I)) (p:=k.1) (r:=k.2) (bd.mono a0) r4 (d6.t k) (by rw[X];exact O3 an.t bf k) (by
    have:Ek (F.scale H.c).t H.t F.c (LD.map (·.1)) k=(F.scale H.c).t k:=by unfold Ek;rw[if_neg hkn]
    rw[X,this,A46];exact bf k)) ?_
  intro v5 u5 o5 a1 a3;rw[X,Jo _ _ _ hkn]at a3;refine G.b (cl (D++[e],LD++[(k,_)]) _ _ _ cV ((lD.trans a0).trans a1)
   ⟨hS',by rw[Ad _ _ (Ne.symm bt),Ad _ _ q3,Ab],by rw[Ad _ _ aj,Ad _ _ q1,Ad _ _ cz];exact Q,o5,Ab _ _ _,by
    simpa[A3p] using a3⟩ (by have:=hS'.len;simp at this;dsimp only;simp;omega))
 case doneD =>
 intro z;rw[Me _ _ _ fun k hk=>dj k fun hm=>hk (by
  obtain⟨p,hp,rfl⟩:=A1b.1 hm;exact A1b.2 ⟨p,z p hp,rfl⟩)]at bd
 have ee:=V.len;have d4:=bd.congr (f':=((H.scale F.c).add (F.scale H.c)).t) (fun k=>by show F.t k*H.c+H.t k*F.c=H.t k*F.c+F.t k*H.c;rw[A46]);have e0:=dz.mono lD;clear cl V C z bd;obtain⟨base,be⟩:∃ base:Par×Par->Rat,base=((H.scale F.c).add (F.scale H.c)).t:=⟨_,rfl⟩;have ae:=ok.acc;rw[<-be]at d4 ae;have dq:=ok.pr;have dp:=ok.con;refine G.mapRange v1 a8 O 77 90 kV (.inl (av _ _ f1)) ?_;intro it d7 eu;have i1:g1≠it:=fun e=>by subst e;rw[d7]at Q;cases Q
 have i2:g2≠it:=fun e=>by subst e;rw[d7]at a7;cases a7
 refine G.l (ι:=List MapEntry×List (Par×Value)) (fun _=>[(2,.p 0 0),(3,.p 1 0),(4,.p 2 0),(5,.p 1001 0),(94,.v (.pointer (some ⟨it,0,none⟩)))])
  (fun _=>[(0,⟨94,[bV vb,sV va vn vc,bV ay,sV ax b0 az,.v (.map (some v1)),.v (.map (some v2))]⟩),(1,⟨94,[bV wb,sV wa wn wc,bV b3,sV b1 b6 b5,.v (.map (some w1)),.v (.map (some w2))]⟩),(2,⟨94,[bV false,sV none 0 0,bV false,sV none 0 0,.v (.map none),.v (.map none)]⟩),(1001,⟨94,[bV b2,sV a2 x2 c2,bV false,sV E K I,.v (.map (some g1)),.v (.map (some g2))]⟩)])
  (fun i u' T=>Gj Ap a8 lv i.1 i.2/\T it=some (.mapIter (some v1) O (Ar i.1) O)/\T g1=some oB/\∃ Ps:List (Par×Par),Ps.Nodup/\(∀ x:Par×Par,x∈Ps↔x.1∈i.2.map (·.1)/\x.2∈lw.map (·.1))/\∃ aw,T g2=some aw/\D7 prV KO u' aw (fun k=>base k+Er F H Ps k) (0+LC.length+LD.length+i.2.length*lw.length))
  (fun i=>lv.length-i.2.length) ([],[])
  ⟨Gj.nil _ _,Ab _ _ _,by rw[Ad _ _ i1];exact Q,[],mV,mV,oD,by rw[Ad _ _ i2];exact a7,(d4.congr fun k=>by simp only[Er];grind).up mV⟩ ?_
 rintro J ⟨D,L⟩ hJ u6 m6 l6 ⟨V,C,am,Ps,d5,cm,aw,bp,hR⟩;simp only at V C am cm bp hR hJ;have bz:=av.trans l6;refine G.mapNextL Bq.inj it v1 a8 O lv D L kV kV C (.inl (bz _ _ f1)) bg cq cb V ?done1 ?next1
 case next1 =>
  rintro⟨p,xv⟩ e hp hpn he hek hev hS';simp only at hpn hek hev;have hx:=(d8 _ hp).1;simp only at hx;obtain⟨yb,ya,yn,yc,bk,bm,bl,rfl,_⟩:=hx.opn;refine G.mapEntry it v1 a8 O D e kV (Ab _ _ _) (.inl (bz _ _ f1)) bg he ?_;rw[hek,hev];refine G.mapRange w1 aa U 77 90 kV (.inl (bz _ _ e1)) ?_;intro ak a5 ef;have j1:g1≠ak:=fun e=>by subst e;rw[Ad _ _ i1,am]at a5;cases a5
  have j2:g2≠ak:=fun e=>by subst e;rw[Ad _ _ i2,bp]at a5;cases a5
  have k1:it≠ak:=fun e=>by subst e;rw[Ab]at a5;cases a5
  refine G.l (ι:=List MapEntry×List (Par×Value)) (fun _=>[(2,.p 0 0),(3,.p 1 0),(4,.p 2 0),(5,.p 1001 0),(14,.p 21003 0),(15,.p 21004 0),(94,.v (.pointer (some ⟨it,0,none⟩))),(102,.v (.pointer (some ⟨ak,0,none⟩)))])
   (fun _=>[(0,⟨94,[bV vb,sV va vn vc,bV ay,sV ax b0 az,.v (.map (some v1)),.v (.map (some v2))]⟩),(1,⟨94,[bV wb,sV wa wn wc,bV b3,sV b1 b6 b5,.v (.map (some w1)),.v (.map (some w2))]⟩),(2,⟨94,[bV false,sV none 0 0,bV false,sV none 0 0,.v (.map none),.v (.map none)]⟩),(1001,⟨94,[bV b2,sV a2 x2 c2,bV false,sV E K I,.v (.map (some g1)),.v (.map (some g2))]⟩),(21003,⟨77,[iV p.1,tV p.2]⟩),(21004,⟨90,[bV yb,sV ya yn yc,bV false,sV bk bm bl]⟩)])
   (fun i u' T=>Gj Ap aa lw i.1 i.2/\T ak=some (.mapIter (some w1) U (Ar i.1) U)/\T it=some (.mapIter (some v1) O (Ar (D++[e])) O)/\T g1=some oB/\∃ Qs:List (Par×Par),Qs.Nodup/\(∀ x:Par×Par,x∈Qs↔(x.1∈L.map (·.1)/\x.2∈lw.map (·.1))\/(x.1=p/\x.2∈i.2.map (·.1)))/\∃ oi,T g2=some oi/\D7 prV KO u' oi (fun k=>base k+Er F H Qs k) (0+LC.length+LD.length+L.length*lw.length+i.2.length))
   (fun i=>lw.length-i.2.length) ([],[])
   ⟨Gj.nil _ _,Ab _ _ _,by rw[Ad _ _ k1,Ab],by rw[Ad _ _ j1,Ad _ _ i1];exact am,Ps,d5,by intro x;rw[cm];simp,aw,by rw[Ad _ _ j2,Ad _ _ i2];exact bp,hR⟩ ?_
  rintro J2 ⟨D2,L2⟩ iJ ui mi bx ⟨iS,ce,bw,bu,Qs,bo,bn,oi,bv,iR⟩;simp only at iS ce bw bu bn bv iR iJ;have c0:=bz.trans bx;refine G.mapNextL Bq.inj ak w1 aa U lw D2 L2 kV kV ce (.inl (c0 _ _ e1)) bi cr cc iS ?done2 ?next2
  case next2 =>
   rintro⟨k,yv⟩ e2 hk hkn he2 hek2 hev2 iS';simp only at hkn hek2 hev2;have hy:=(da _ hk).1;simp only at hy;obtain⟨zb,za,zn,zc,e6,e8,e7,rfl,_⟩:=hy.opn;have dc:(p,k)∉Qs:=fun h=>by
    rcases (bn _).1 h with h|h
    ·exact hpn h.1
    exact hkn h.2
   have al:(Qs++[(p,k)]).Nodup:=by
    rw[A4p];exact⟨bo,mV,fun a ha b hb e'=>dc (by simp at hb;rw[<-hb,<-e'];exact ha)⟩
   have c1:∀ x:Par×Par,x∈Qs++[(p,k)]↔(x.1∈L.map (·.1)/\x.2∈lw.map (·.1))\/(x.1=p/\x.2∈(L2++[(k,Value.agg #[.bool zb,.slice za zn zc,.bool false,.slice e6 e8 e7])]).map (·.1)):=fun x=>by
    obtain⟨x1,x2⟩:=x;rw[A1h,bn];simp only[A1i,A1h,A2u,A7m,A12,A2i];constructor
    ·rintro ((h|⟨h1,h2⟩)|⟨h1,h2⟩)
     ·exact .inl h
     ·exact .inr ⟨h1,.inl h2⟩
     exact .inr ⟨h1,.inr h2⟩
    rintro (h|⟨h1,h2|h2⟩)
    ·exact .inl (.inl h)
    ·exact .inl (.inr ⟨h1,h2⟩)
    exact .inr ⟨h1,h2⟩
   refine G.mapEntry ak w1 aa U D2 e2 kV (Ab _ _ _) (.inl (c0 _ _ e1)) bi he2 ?_;rw[hek2,hev2];refine G.c call121 (Gh (hx.mono c0) (hy.mono c0) (SB.ten (ok.a.s p)) (SB.ten (ok.b.s k))) ?_;intro v9 u9 l9 r9;obtain⟨b9,a9,n9,c9,ep,ez,et,rfl,_⟩:=r9.opn;by_cases br:p=k
   ·have W:con F H (p,k)=F.s p*H.s k+F.s p*H.s k:=by unfold con;rw[if_pos br]
    refine G.eqAgg 77 #[.int .i64 p.1,.string (mkS p.2)] #[.int .i64 k.1,.string (mkS k.2)] true kV kV kV (fun w=>by rw[<-decide_eq_true br];exact Bq.eq p k w)<|G.c call124 (Pd r9 r9 (SB.ten (dq p k)) (SB.ten (dq p k))) ?_;intro f3 f0 dm dr;obtain⟨er,eo,ey,es,e9,en,ea,rfl,_⟩:=dr.opn;refine G.callG _ _ kV kV call123 (g:=g2) (o:=oi) (by rw[Ad _ _ j2];exact bv)
     (H7 (g1:=some g1) (y1:=b2) (y2:=(a2,x2,c2)) (y3:=false) (y4:=(E,K,I)) (p:=p) (r:=k) (iR.mono (l9.trans dm)) dr (by have:=dp (p,k);rw[W]at this;exact this) (ae Qs bo _) (by
      have:=ae (Qs++[(p,k)]) al (Ay p k);rw[Jt,if_pos rfl,W]at this;rw[show (F.s p*H.s k+F.s p*H.s k)+(base (Ay p k)+Er F H Qs (Ay p k))=base (Ay p k)+((F.s p*H.s k+F.s p*H.s k)+Er F H Qs (Ay p k)) by grind];exact this)) ?_
    intro v8 u8 o8 l8 r8;refine G.b (iJ (D2++[e2],L2++[(k,_)]) _ _ _ cV ((bx.trans (l9.trans dm)).trans l8)
     ⟨iS',by rw[Ad _ _ (Ne.symm j2),Ab],by rw[Ad _ _ (Ne.symm i2),Ad _ _ k1];exact bw,by rw[Ad _ _ aj,Ad _ _ j1];exact bu,Qs++[(p,k)],al,c1,o8,Ab _ _ _,?_⟩ (by have:=iS'.len;simp at this;dsimp only;simp;omega))
    refine (r8.congr fun j=>?_).up (by simp[A3p]);rw[Jt,W];unfold Nh;by_cases e:j=Ay p k
    ·rw[if_pos e,if_pos e,e];grind
    rw[if_neg e,if_neg e]
   have W:con F H (p,k)=F.s p*H.s k:=by unfold con;rw[if_neg br]
   refine G.eqAgg 77 #[.int .i64 p.1,.string (mkS p.2)] #[.int .i64 k.1,.string (mkS k.2)] false kV kV kV (fun w=>by rw[<-decide_eq_false br];exact Bq.eq p k w)<|G.callG _ _ kV kV call123 (g:=g2) (o:=oi) (by rw[Ad _ _ j2];exact bv)
    (H7 (g1:=some g1) (y1:=b2) (y2:=(a2,x2,c2)) (y3:=false) (y4:=(E,K,I)) (p:=p) (r:=k) (iR.mono (l9)) r9 (by have:=dp (p,k);rw[W]at this;exact this) (ae Qs bo _) (by
     have:=ae (Qs++[(p,k)]) al (Ay p k);rw[Jt,if_pos rfl,W]at this;rw[show (F.s p*H.s k)+(base (Ay p k)+Er F H Qs (Ay p k))=base (Ay p k)+((F.s p*H.s k)+Er F H Qs (Ay p k)) by grind];exact this)) ?_
   intro v8 u8 o8 l8 r8;refine G.b (iJ (D2++[e2],L2++[(k,_)]) _ _ _ cV ((bx.trans (l9)).trans l8)
    ⟨iS',by rw[Ad _ _ (Ne.symm j2),Ab],by rw[Ad _ _ (Ne.symm i2),Ad _ _ k1];exact bw,by rw[Ad _ _ aj,Ad _ _ j1];exact bu,Qs++[(p,k)],al,c1,o8,Ab _ _ _,?_⟩ (by have:=iS'.len;simp at this;dsimp only;simp;omega))
   refine (r8.congr fun j=>?_).up (by simp[A3p]);rw[Jt,W];unfold Nh;by_cases e:j=Ay p k
   ·rw[if_pos e,if_pos e,e];grind
   rw[if_neg e,if_neg e]
  case done2 =>
  intro cn;refine G.b (hJ (D++[e],L++[(p,_)]) _ _ _ cV (l6.trans bx) ⟨hS',bw,bu,Qs,bo,fun x=>?_,oi,bv,iR.up ?_⟩ (by have:=hS'.len;simp at this;dsimp only;simp;omega))
  ·rw[bn];simp only[A1i,A1h,A2u,A7m,A12];constructor
   ·rintro (h|⟨h1,h2⟩)
    ·exact⟨.inl h.1,h.2⟩
    obtain⟨y,hy,e'⟩:=A1b.1 h2;exact⟨.inr h1,A1b.2 ⟨y,iS.sub y hy,e'⟩⟩
   rintro⟨h1|h1,h2⟩
   ·exact .inl ⟨h1,h2⟩
   obtain⟨y,hy,e'⟩:=A1b.1 h2;exact .inr ⟨h1,A1b.2 ⟨y,cn y hy,e'⟩⟩
  have:=iS.len;simp only[A1d,A3f,A30,A16];omega
 case done1 =>
 intro z;refine G.drop ((PH.mt.upd g1 oB).upd g2 aw) kV (fun g o hg=>?_) ?_
 ·by_cases e:g=g2
  ·subst e;rw[Ab]at hg;cases hg;exact bp
  rw[Ad _ _ e]at hg;by_cases e:g=g1
  ·subst e;rw[Ab]at hg;cases hg;exact am
  rw[Ad _ _ e]at hg;cases hg
 refine G.r (.agg #[.bool b2,.slice a2 x2 c2,.bool false,.slice E K I,.map (some g1),.map (some g2)]) ⟨b2,a2,x2,c2,false,E,K,I,g1,g2,oB,aw,rfl,r5.mono ((((lA.trans lB).trans lC).trans lD).trans l6),aj,rfl,(e0.mono l6).up oV,(hR.congr fun k=>?_).up ?_⟩
 ·rw[Amk F H d5 (fun p q h1 h2=>(cm _).2 ⟨?_,?_⟩) k,be]
  ·rfl
  ·have:p∈lv.map (·.1):=A3m fun h=>h1 (dg p h);obtain⟨y,hy,e'⟩:=A1b.1 this;exact A1b.2 ⟨y,z y hy,e'⟩
  exact A3m fun h=>h2 (di q h)
 have h1:=V.len;have h2:L.length*lw.length<=N*M:=A25 oV e4;omega
section
variable {p q:Par×Par}{κ:Type}
def Aox {κ:Type}{c:κ->κ->Int}(v:Ord c){S:List (κ×Rat)}{k:κ}{q:Rat}{n:Nat}(J:Hb c (S.map (·.1)))(L:k∉S.map (·.1))
 (E:∀ j x,j<n->S[j]?=some x->c x.1 k<0) (F:∀ x,S[n]?=some x->¬ c x.1 k<0):Hb c ((S.take n++[(k,q)]++S.drop n).map (·.1)):=by
 have h:Hb c ((S.take n).map (·.1)++(S.drop n).map (·.1)):=by rw[<-A1i,A4h];exact J
 unfold Hb at h⊢;rw[A35]at h;obtain⟨O,C,Q⟩:=h;have H:∀ a∈(S.take n).map (·.1),c a k<0:=fun a g=>by
  obtain⟨x,t,rfl⟩:=A1b.1 g;obtain⟨j,K,rfl⟩:=A2y t;rw[A1e]at K;refine E j _ oV ?_;rw[A7w,A01 oV]
 have I:∀ b∈(S.drop n).map (·.1),c k b<0:=by
  cases hd:S.drop n with
  |nil=>intro b d;simp at d
  |cons x B =>
   rw[hd,A2u,A8y]at C;have t:S[n]?=some x:=by
    have:=congrArg (fun l=>l[0]?) hd;simpa using this
   have z:x.1≠k:=fun e=>L (A1b.2 ⟨x,A1k t,e⟩);have R:=F x t;have h0:c k x.1<0:=by
    have N:=v.sym k x.1;have T:c x.1 k≠0:=fun e=>z (v.eq _ _ e);rw[N];omega
   intro b d;rw[A2u,A1g]at d;rcases d with rfl|d
   ·exact h0
   exact v.trans _ _ _ h0 (C.1 b d)
 rw[A1i,A1i,A35,A35];refine⟨⟨O,mV,fun a g b d=>?_⟩,C,fun a g b d=>?_⟩
 ·simp at d;subst d;exact H a g
 rcases A1h.1 g with g|g
 ·exact Q a g b d
 simp at g;subst g;exact I b d
def Vy {α:Type}{S:List α}{x y:α}{n:Nat}:y∈S.take n++[x]++S.drop n↔y∈S\/y=x:=by
 have h:y∈S↔y∈S.take n\/y∈S.drop n:=by rw[<-A1h,A4h]
 rw[h];simp only[A1h,A12];constructor
 ·rintro ((a|a)|a)
  ·exact .inl (.inl a)
  ·exact .inr a
  exact .inl (.inr a)
 rintro ((a|a)|a)
 ·exact .inl (.inl a)
 ·exact .inr a
 exact .inl (.inr a)
structure Biu {κ:Type}(c:κ->κ->Int)(f:κ->Rat)(L:List κ)(S:List (κ×Rat)):Prop where
 srt:Hb c (S.map (·.1))
 val:∀ p∈S,p.2=f p.1/\p.2≠0
 mem:∀ k,k∈S.map (·.1)↔k∈L/\f k≠0
def Biu.nil {κ:Type}{c:κ->κ->Int}{f:κ->Rat}:Biu c f [] []:=⟨List.Pairwise.nil,fun p hp=>by simp at hp,fun k=>mV⟩
def Biu.skip {c:κ->κ->Int}{f:κ->Rat}{L:List κ}{S:List (κ×Rat)}{k:κ}(h:Biu c f L S)(h0:f k=0):Biu c f (L++[k]) S:=⟨h.srt,h.val,fun j=>by
 rw[h.mem,A1h,A12];constructor
 ·rintro⟨a,b⟩;exact⟨.inl a,b⟩
 rintro⟨a|rfl,b⟩
 ·exact⟨a,b⟩
 exact absurd h0 b⟩
def Biu.put {κ:Type}{c:κ->κ->Int}(v:Ord c){f:κ->Rat}{L:List κ}{S:List (κ×Rat)}{k:κ}{n:Nat}(h:Biu c f L S)(h0:f k≠0)(C:k∉L)
 (g:∀ j x,j<n->S[j]?=some x->c x.1 k<0) (t:∀ x,S[n]?=some x->¬ c x.1 k<0):Biu c f (L++[k]) (S.take n++[(k,f k)]++S.drop n) :=
 ⟨Aox v h.srt (fun e=>C ((h.mem k).1 e).1) g t,fun p hp=>by
  rcases Vy.1 hp with e|rfl
  ·exact h.val p e
  ·exact⟨rfl,h0⟩,fun j=>by
  have:=h.mem j;constructor
  ·intro z;obtain⟨p,hp,rfl⟩:=A1b.1 z;rcases Vy.1 hp with e|rfl
   ·obtain⟨a,b⟩:=this.1 (A1b.2 ⟨p,e,rfl⟩);exact⟨A24 _ a,b⟩
   exact⟨mV,h0⟩
  rintro⟨a,b⟩;rcases A1h.1 a with e|e
  ·obtain⟨p,hp,d⟩:=A1b.1 (this.2 ⟨e,b⟩);exact A1b.2 ⟨p,Vy.2 (.inl hp),d⟩
  rw[A12]at e;exact A1b.2 ⟨(k,f k),Vy.2 (.inr rfl),e.symm⟩⟩
def Biu.can {c:κ->κ->Int}{f:κ->Rat}{L:List κ}{S:List (κ×Rat)}(h:Biu c f L S)(d:∀ k,k∉L->f k=0):Can c f S:=⟨h.srt,h.val,fun k g=>by
 rcases Classical.em (k∈L) with e|e
 ·exact A3m fun j=>g ((h.mem k).2 ⟨e,j⟩)
 exact d k e⟩
def Ato (h:Bk p.1 q.1<0):Oc p q<0:=by unfold Oc;rw[if_pos oV];exact h
def Avb (h:¬ Bk p.1 q.1<0)(d:p.1≠q.1):¬ Oc p q<0:=by
 have g:Bk p.1 q.1≠0:=fun e=>d (Et.eq _ _ e);unfold Oc;rw[if_pos g];exact h
def Aux (h:p.1=q.1):Oc p q=Bk p.2 q.2:=by unfold Oc;rw[h,Et.refl,if_neg mV]
def Bj0 {u:PH}(x y:(Par×Par)×Rat)(r:Bool)(h:decide (Oc x.1 y.1<0)=r):Fn0 prog 69 [D8 x,D8 y] u fun v _=>v=.bool r:=by
 obtain⟨⟨⟨d,e⟩,z,C⟩,q⟩:=x;obtain⟨⟨⟨g,j⟩,E,F⟩,K⟩:=y;refine Fn0.o func69 ?_;by_cases n:Bk (d,e) (g,j)<0
 ·rw[decide_eq_true (Ato n)]at h;subst h;refine G.c call68 (Fp (d,e) (g,j) true (decide_eq_true n)) ?_;rintro J I H rfl;exact G.r (.bool true) ⟨rfl,rfl⟩
 refine G.c call68 (Fp (d,e) (g,j) false (decide_eq_false n)) ?_;rintro J I H rfl;by_cases t:((d,e):Par)=(g,j)
 ·refine G.eqAgg 77 #[.int .i64 d,.string (mkS e)] #[.int .i64 g,.string (mkS j)] true kV kV kV (fun w=>by rw[<-decide_eq_true t];exact Bq.eq (d,e) (g,j) w) ?_;rw[Aux t]at h;refine G.c call68 (Fp (z,C) (E,F) r h) ?_;rintro N L l2 rfl;cases r with
  |true=>exact G.r (.bool true) ⟨rfl,rfl⟩
  |false=>exact G.r (.bool false) ⟨rfl,rfl⟩
 rw[decide_eq_false (Avb n t)]at h;subst h;exact G.eqAgg 77 #[.int .i64 d,.string (mkS e)] #[.int .i64 g,.string (mkS j)] false kV kV kV (fun w=>by rw[<-decide_eq_false t];exact Bq.eq (d,e) (g,j) w)<|G.r (.bool false) ⟨rfl,rfl⟩
section
variable {P:Program} [A6 P] {fn:Func} {Post:Ce} {st:List KI×S} {u m:PH}
def G.sliceFromG (a:Option Addr)(n c k sz:Nat)(h:Aj P (adv P st)=.slice (some sz) (.slice a n c) (some (.int .i64 k)) none none)(N:k<=n)(O:n<=c)
 (g:G P fn Post (nx (adv P st) (.slice (if c=k then a else a.map (·.add (k*sz))) (n-k) (c-k))) u m):G P fn Post st u m:=by
 refine G.ask h mV (fun I o j w hp=>?_) g;obtain⟨t,X,L,H,M,v,z,C,E,F,d⟩:=Jx j;obtain⟨dst,K,type,pos,after,guard⟩:=o;simp only at v;subst v;unfold Ot at d;split at d
 ·rename_i e hu;have J:(0:Int)<=k/\(k:Int)<=n:=oV;simp only[execOp,z,C,E,F];simp only[Instr.sliceAt,Sem.run_bind,run_underlying hu,Result.andThen_ok,Instr.slice,Instr.sliceBounds,Instr.sliceBound,asIntOf,Sem.run_pure,if_true,Option.isSome,Sem.run_ite,Bf d,J,and_self,A23]
 cases d
end
end
section
variable {F:CF}{N b sz:Nat}{es:List Value}{v:Value}
def Az4 (u m:PH)(v:Value)(F:CF)(N:Nat):Prop :=
 ∃ b a n c b' a' n' c' g1 g2 o1 o2,v=.agg #[.bool b,.slice a n c,.bool b',.slice a' n' c',.map (some g1),.map (some g2)]/\QP u (.agg #[.bool b,.slice a n c,.bool b',.slice a' n' c']) F.c/\(u g1=some o1\/m g1=some o1)/\(u g2=some o2\/m g2=some o2)/\D7 Ap KT u o1 F.s N/\D7 prV KO u o2 F.t N
def R9.i {u m:PH}(h:R9 u v F N):Az4 u m v F N:=by
 obtain⟨b,a,n,c,b',d,H,g,g1,g2,I,J,e,j,t,z,C,E⟩:=h;exact⟨b,a,n,c,b',d,H,g,g1,g2,I,J,e,j,.inl t,.inl z,C,E⟩
section
variable {P:Program} [A6 P] {fn:Func} {Post:Ce} {st:List KI×S} {u m:PH}
def G.appendMV (e:TypeId)(sz d:Nat)(z:Value)(m0:PH)(es xs:List Value)(v:Value)(a:Option Addr)(n c:Nat)(h:Aj P (adv P st)=.app (some (e,sz,d,z)) true [v,.slice a n c])(T:z.cells.toList.all Ax=true)(E:z.cells.size=sz)(t:0<sz)
 (g:Af m0 m v e sz es) (H:n=xs.length) (R:xs≠[]->∃ b off,a=some ⟨b,off,none⟩/\Hc m b off sz xs) (Q:A9 sz xs) (O:(es.length+xs.length)*d<=140737488355328) (j:es.length+xs.length<=9223372036854775807)
 (k:∀ J I,Af m0 I J e sz (es++xs)->G P fn Post (nx (adv P st) J) u I):G P fn Post st u m:=by
 cases xs with
 |nil =>
  subst H;obtain⟨K,L,rfl⟩:=g.shape;refine G.append0 e sz d z K a es.length L c h g.cap ?_;exact k _ _ (by rw[A1x];exact g)
 |cons x xs =>
  obtain⟨b,off,rfl,C⟩:=R mV;subst H;exact G.appendM e sz d z m0 es (x::xs) v b off _ c h T E t g C Q rfl mV O j k
end
def Af.els {m0 m:PH}{t:TypeId}{b n c:Nat}(h:Af m0 m (.slice (some ⟨b,0,none⟩) n c) t sz es):Hc m b 0 sz es:=fun j e d=>h.el d
def Hc.drop {m:PH}(h:Hc m b 0 sz es)(k:Nat):Hc m b (0+k*sz) sz (es.drop k):=fun j e d=>by
 have:=h (k+j) e (by rw[A39]at d;exact d);rw[A16,A2w]at this;rw[A2w];exact this
theorem An2 (l:List (Par×Rat)):A9 3 (l.map Bt):=fun e he=>by
 obtain⟨p,_,rfl⟩:=A1b.1 he;exact Afk p _ mV
def Ao9 (l:List ((Par×Par)×Rat)):A9 5 (l.map D8):=fun e d=>by
 obtain⟨p,_,rfl⟩:=A1b.1 d;exact Aj6 p _ mV
def Rl {q:Rat}:q.num=0↔q=0:=A4r
def Aod {u m:PH}(h:Az4 u m v F N)(sF:CFS F)(hN:N<=1000000) :
 FnK prog 37 [v] u m fun r u'=>Azl u' r F N:=by
 obtain⟨b,a,n,c,b',a',n',c',g1,g2,o1,o2,rfl,hF,bf,bg,s1,s2⟩:=h;obtain⟨l1,⟨a2,C,rfl,au,ak⟩,bi,am,bx⟩:=s1.at;obtain⟨l2,⟨a3,z,rfl,av,al⟩,bj,an,ae⟩:=s2.at;have b9:(l1.map (·.1)).Nodup:=Hu.nodup (enc:=Ap) ⟨a2,C,rfl,au,ak⟩;have ba:(l2.map (·.1)).Nodup:=Hu.nodup (enc:=prV) ⟨a3,z,rfl,av,al⟩;have ao:∀ {u' m':PH},PH.le u u'->PH.le m m'->u' g1=some (.map a2 C)\/m' g1=some (.map a2 C):=fun a b=>bf.elim (fun e=>.inl (a _ _ e)) (fun e=>.inr (b _ _ e));have ap:∀ {u' m':PH},PH.le u u'->PH.le m m'->u' g2=some (.map a3 z)\/m' g2=some (.map a3 z):=fun a b=>bg.elim (fun e=>.inl (a _ _ e)) (fun e=>.inr (b _ _ e));refine FnK.of func37 kV kV<|G.c call66 (Ox hF (SB.tx sF.c)) ?_;rintro v1 u1 bc rfl;refine G.nF 0 0<|G.mapRange g1 a2 C 77 90 kV (ao bc (fun _ _ h=>h)) ?_;intro it bh bw;have ab:∀ o,PH.le m (m.upd it o):=fun o=>Jw o bh;refine G.l (ι:=List MapEntry×List (Par×Value)×List (Par×Rat)×(Option Addr×Nat)) (fun i=>[(1,.p 0 0),(2,.p 1 0),(6,.p 2002 0),(33,.v (.pointer (some ⟨it,0,none⟩)))])
  (fun i=>[(0,⟨94,[bV b,sV a n c,bV b',sV a' n' c',.v (.map (some g1)),.v (.map (some g2))]⟩),(1,⟨33,[tV [],sV none 0 0,sV none 0 0]⟩),(2002,⟨33,[tV (Ae F.c),sV i.2.2.2.1 i.2.2.1.length i.2.2.2.2,sV none 0 0]⟩)])
  (fun i u' m'=>Gj Ap a2 l1 i.1 i.2.1/\Biu Bk F.s (i.2.1.map (·.1)) i.2.2.1/\i.2.2.1.length<=i.2.1.length/\Af (m.upd it (.mapIter (some g1) C (Ar i.1) C)) m' (.slice i.2.2.2.1 i.2.2.1.length i.2.2.2.2) 79 3 (i.2.2.1.map Bt))
  (fun i=>l1.length-i.2.1.length) ([],[],[],(none,0))
  ⟨Gj.nil _ _,Biu.nil,A08 _,Af.nil _ _ _⟩ ?_
 rintro J ⟨D,L,S,⟨T,O⟩⟩ hJ u2 m2 a1 ⟨hS,hI,aq,hA⟩;simp only at hS hI aq hA hJ;have K:=bc.trans a1;have ar:m2 it=some (.mapIter (some g1) C (Ar D) C):=hA.see (Ab _ _ _);have ac:PH.le m m2:=fun g o Y=>hA.see (ab _ g o Y);refine G.mapNextL Bq.inj it g1 a2 C l1 D L kV kV ar (ao K ac) ak au b9 hS ?done1 ?next1
 case next1 =>
  rintro⟨k,xv⟩ e hp hkn he hek hev hS';simp only at hkn hek hev;have hx:=(bi _ hp).1;simp only at hx;obtain⟨yb,ya,yn,yc,bs,bu,bt,rfl,_⟩:=hx.opn;have U:=hA.base (b:=it) (o:=.mapIter (some g1) C (Ar (D++[e])) C) (by rw[Ab];simp);rw[Dp]at U;have ad:PH.le m (m2.upd it (.mapIter (some g1) C (Ar (D++[e])) C)):=fun g o Y=>U.see (ab _ g o Y);refine G.mapEntry it g1 a2 C D e kV (Ab _ _ _) (ao K ad) ak he ?_;rw[hek,hev];have a4:=hS'.len;simp only[A1d,A3f,A30]at a4;have aj:=sF.s k;refine G.c call67 (Nt (hx.mono K) (by have:=(SB.sz aj).1;omega)) ?_;rintro v3 u3 l3 rfl;by_cases h0:F.s k=0
  ·rw[decide_eq_true (Rl.2 h0)];refine G.b (hJ (D++[e],L++[(k,_)],S,(T,O)) _ _ _ cV (a1.trans l3) ⟨hS',by dsimp only;rw[A1i];exact hI.skip h0,by dsimp only;simp;omega,U⟩ (by have:=hS'.len;simp at this;dsimp only;simp;omega))
  rw[decide_eq_false (fun e=>h0 (Rl.1 e))];refine G.c call66 (Ox (hx.mono (K.trans l3)) (SB.tx aj)) ?_;rintro v4 u4 l4 rfl;refine G.nF 0 0 ?_;have E:=U;generalize bk:m2.upd it (.mapIter (some g1) C (Ar (D++[e])) C)=m3 at E ad;have b4:k∉L.map (·.1):=hkn;refine G.l (ι:=Nat) (fun n=>[(1,.p 0 0),(2,.p 1 0),(6,.p 2002 0),(7,.p 7003 0),(11,.p 12003 0),(12,iV n),(33,.v (.pointer (some ⟨it,0,none⟩)))])
   (fun _=>[(0,⟨94,[bV b,sV a n c,bV b',sV a' n' c',.v (.map (some g1)),.v (.map (some g2))]⟩),(1,⟨33,[tV [],sV none 0 0,sV none 0 0]⟩),(2002,⟨33,[tV (Ae F.c),sV T S.length O,sV none 0 0]⟩),(7003,⟨77,[iV k.1,tV k.2]⟩),(12003,⟨79,[iV k.1,tV k.2,tV (Ae (F.s k))]⟩)])
   (fun n u' m'=>n<=S.length/\(∀ j x,j<n->S[j]?=some x->Bk x.1 k<0)/\m'=m3) (fun n=>S.length-n) 0 ⟨oV,fun j x hj=>oV,rfl⟩ ?_
  rintro J2 d ay u5 m5 l5 ⟨ae,Z,rfl⟩;have bo:=((K.trans l3).trans l4).trans l5;refine G.joinF (ι:=Unit) (fun st=>Ajn prog st [.bool false]) (fun _=>[(1,.p 0 0),(2,.p 1 0),(6,.p 2002 0),(11,.p 12003 0),(12,iV d),(33,.v (.pointer (some ⟨it,0,none⟩)))])
   (fun _=>[(0,⟨94,[bV b,sV a n c,bV b',sV a' n' c',.v (.map (some g1)),.v (.map (some g2))]⟩),(1,⟨33,[tV [],sV none 0 0,sV none 0 0]⟩),(2002,⟨33,[tV (Ae F.c),sV T S.length O,sV none 0 0]⟩),(12003,⟨79,[iV k.1,tV k.2,tV (Ae (F.s k))]⟩)])
   (fun _ u' m'=>m'=m5/\∀ x,S[d]?=some x->¬ Bk x.1 k<0) (fun _=>kV) kV ?tail ?way
  case way =>
   intro R;by_cases a7:d<S.length
   ·refine G.lT d S.length ?_;obtain⟨x,a5⟩:∃ x,S[d]?=some x:=⟨_,A01 a7⟩;obtain⟨gs,cs,Q⟩:=E.ptr (fun e=>by
     have:S.length=0:=by simpa using congrArg List.length e
     omega)
    simp only[Value.slice.injEq]at Q;obtain⟨rfl,_,rfl⟩:=Q;refine G.a gs 0 S.length O d 3 a7<|G.f 79 gs (0+d*3) 0 0 ?_;have b2:ElP m5 gs (0+d*3) (Bt x):=E.el (by rw[A1a,a5];rfl);refine G.lM (some 2) gs (0+d*3+0) (.agg #[.int .i64 x.1.1,.string (mkS x.1.2)]) (b2.sub (k:=0) fun i y H=>by
     match i,H with
     |0,H=>simpa[Bt,Value.cells] using H
     |1,H=>simpa[Bt,Value.cells] using H
     |i+2,H=>simp[Value.cells]at H) ?_
    by_cases hc:Bk x.1 k<0
    ·refine G.c call68 (Fp x.1 k true (decide_eq_true hc)) ?_;rintro v6 u6 l6 rfl;refine G.i d ?_;exact G.b (ay (d+1) _ _ _ cV (l5.trans l6) ⟨oV,fun j y hj H=>by
      rcases (by omega:j<d\/j=d) with e|rfl
      ·exact Z j y e H
      rw[a5]at H;cases H;exact hc,rfl⟩ oV)
    refine G.c call68 (Fp x.1 k false (decide_eq_false hc)) ?_;rintro v6 u6 l6 rfl;exact R () _ _ _ kV cV l6 ⟨rfl,fun y H=>by rw[a5]at H;cases H;exact hc⟩
   refine G.lF d S.length ?_;exact R () _ _ _ kV cV (PH.le_refl _) ⟨rfl,fun y H=>by rw[A1v oV]at H;cases H⟩
  rintro _ u6 m6 l6 ⟨rfl,a6⟩;have ah:=E.cap;refine G.sliceTo 3 T S.length O d kV oV<|G.sliceFromG T S.length O d 3 kV ae ah<|G.buildM 79 3 40 (.agg #[.int .i64 0,.string (mkS []),.string (mkS [])]) [.agg #[.int .i64 k.1,.string (mkS k.2),.string (mkS (Ae (F.s k)))]] kV (Afk (k,F.s k)) rfl oV mV mV ?_;intro gt m7 af;refine G.appendMV 79 3 40 (.agg #[.int .i64 0,.string (mkS []),.string (mkS [])]) m6 [.agg #[.int .i64 k.1,.string (mkS k.2),.string (mkS (Ae (F.s k)))]] ((S.drop d).map Bt) (.slice (some ⟨gt,0,none⟩) 1 1) (if O=d then T else T.map (·.add (d*3))) (S.length-d) (O-d) kV rfl rfl oV af mV (fun b5=>?_) (An2 _) gV gV ?_
  ·have a7:d<S.length:=by
    rcases A2e d S.length with h|h
    ·exact h
    exact absurd (by rw[A2b h];rfl) b5
   obtain⟨gs,cs,Q⟩:=E.ptr (fun e=>by
    have:S.length=0:=by simpa using congrArg List.length e
    omega)
   simp only[Value.slice.injEq]at Q;obtain⟨rfl,_,rfl⟩:=Q;refine⟨gs,0+d*3,?_,?_⟩
   ·rw[if_neg oV];simp[Ed]
   have:=E.els.drop d;rw[<-List.map_drop]at this;exact fun j e hj i y H=>by
    obtain⟨cs,t,fr,q1,q2⟩:=this j e hj i y H;exact⟨cs,t,fr,af.le _ _ q1,q2⟩
  intro v8 m8 V;obtain⟨a8,c8,rfl⟩:=V.ptr mV;have ax:=E.take (k:=d) (by rw[A03];exact ae);obtain⟨mx,bm,bl,ai⟩:=At.swap (x:=⟨.slice T d O,79,3,(S.map Bt).take d⟩) (y:=⟨.slice (some ⟨a8,0,none⟩) _ c8,79,3,_⟩) V ax;refine G.appendM 79 3 40 (.agg #[.int .i64 0,.string (mkS []),.string (mkS [])]) mx ((S.map Bt).take d) _ (.slice T d O) a8 0 _ c8 kV rfl rfl oV bl V.els V.1 rfl mV gV gV ?_;intro v9 m9 aw;obtain⟨mz,am,an⟩:=ai ⟨v9,79,3,_⟩ m9 aw;have b3:(S.map Bt).take d++([.agg #[.int .i64 k.1,.string (mkS k.2),.string (mkS (Ae (F.s k)))]]++(S.drop d).map Bt)=(S.take d++[(k,F.s k)]++S.drop d).map Bt:=by
   rw[A1i,A1i,A5g,A2k];rfl
  have a0:Af (m.upd it (.mapIter (some g1) C (Ar (D++[e])) C)) mz v9 79 3 ((S.take d++[(k,F.s k)]++S.drop d).map Bt):=by rw[<-b3];exact an
  obtain⟨a9,c9,rfl⟩:=a0.shape;rw[A03]at a0⊢;have az:(S.take d++[(k,F.s k)]++S.drop d).length=S.length+1:=gV;refine G.drop mz kV (fun g o Y=>Af.le am g o Y)<|G.b (hJ (D++[e],L++[(k,_)],S.take d++[(k,F.s k)]++S.drop d,(a9,c9)) _ _ _ cV ((((a1.trans l3).trans l4).trans l5).trans l6) ⟨hS',?_,by dsimp only;rw[az];simp;omega,a0⟩ (by have:=hS'.len;simp at this;dsimp only;simp;omega));dsimp only;rw[A1i];exact hI.put Et h0 b4 Z a6
 case done1 =>
 intro aa;have ag:Can Bk F.s S:=hI.can fun k hk=>am k fun hm=>hk (by
  obtain⟨p,hp,rfl⟩:=A1b.1 hm;exact A1b.2 ⟨p,aa p hp,rfl⟩)
 have b7:S.length<=N:=by have:=hS.len;omega
 refine G.give _ _ _ kV hA (fun g=>?_) ?_
 ·cases Y:m g with
  |none=>exact .inl Y
  |some o=>exact .inr (by rw[ab _ g o Y];simp)
 intro u3 l3 hX;refine G.drop m kV (ab _) ?_;have bd:=K.trans l3;clear hJ hA hI aq ar ac hS aa
 revert S T O
 intro X xa xc ag b7 hX;refine G.mapRange g2 a3 z 137 90 kV (ap bd (fun _ _ h=>h)) ?_;intro I b8 bv;have W:∀ o,PH.le m (m.upd I o):=fun o=>Jw o b8;refine G.l (ι:=List MapEntry×List ((Par×Par)×Value)×List ((Par×Par)×Rat)×(Option Addr×Nat)) (fun i=>[(1,.p 0 0),(2,.p 1 0),(6,.p 2002 0),(85,.v (.pointer (some ⟨I,0,none⟩)))])
  (fun i=>[(0,⟨94,[bV b,sV a n c,bV b',sV a' n' c',.v (.map (some g1)),.v (.map (some g2))]⟩),(1,⟨33,[tV [],sV none 0 0,sV none 0 0]⟩),(2002,⟨33,[tV (Ae F.c),sV xa X.length xc,sV i.2.2.2.1 i.2.2.1.length i.2.2.2.2]⟩)])
  (fun i u' m'=>Gj prV a3 l2 i.1 i.2.1/\Biu Oc F.t (i.2.1.map (·.1)) i.2.2.1/\i.2.2.1.length<=i.2.1.length/\Af (m.upd I (.mapIter (some g2) z (Ar i.1) z)) m' (.slice i.2.2.2.1 i.2.2.1.length i.2.2.2.2) 99 5 (i.2.2.1.map D8))
  (fun i=>l2.length-i.2.1.length) ([],[],[],(none,0))
  ⟨Gj.nil _ _,Biu.nil,A08 _,Af.nil _ _ _⟩ ?_
 rintro J ⟨D,L,S,⟨T,O⟩⟩ hJ u2 m2 a1 ⟨hS,hI,aq,hA⟩;simp only at hS hI aq hA hJ;have K:=bd.trans a1;have ar:m2 I=some (.mapIter (some g2) z (Ar D) z):=hA.see (Ab _ _ _);have ac:PH.le m m2:=fun g o Y=>hA.see (W _ g o Y);refine G.mapNextL I1.inj I g2 a3 z l2 D L kV kV ar (ap K ac) al av ba hS ?done2 ?next2
 case next2 =>
  rintro⟨k,xv⟩ e hp hkn he hek hev hS';simp only at hkn hek hev;have hx:=(bj _ hp).1;simp only at hx;obtain⟨yb,ya,yn,yc,bs,bu,bt,rfl,_⟩:=hx.opn;have U:=hA.base (b:=I) (o:=.mapIter (some g2) z (Ar (D++[e])) z) (by rw[Ab];simp);rw[Dp]at U;have ad:PH.le m (m2.upd I (.mapIter (some g2) z (Ar (D++[e])) z)):=fun g o Y=>U.see (W _ g o Y);refine G.mapEntry I g2 a3 z D e kV (Ab _ _ _) (ap K ad) al he ?_;rw[hek,hev];have a4:=hS'.len;simp only[A1d,A3f,A30]at a4;have aj:=sF.t k;refine G.c call67 (Nt (hx.mono K) (by have:=(SB.sz aj).1;omega)) ?_;rintro v3 u3 l3 rfl;by_cases h0:F.t k=0
  ·rw[decide_eq_true (Rl.2 h0)];refine G.b (hJ (D++[e],L++[(k,_)],S,(T,O)) _ _ _ cV (a1.trans l3) ⟨hS',by dsimp only;rw[A1i];exact hI.skip h0,by dsimp only;simp;omega,U⟩ (by have:=hS'.len;simp at this;dsimp only;simp;omega))
  rw[decide_eq_false (fun e=>h0 (Rl.1 e))];refine G.c call66 (Ox (hx.mono (K.trans l3)) (SB.tx aj)) ?_;rintro v4 u4 l4 rfl;refine G.nF 0 0<|G.pub 19003 137 [.int .i64 k.1.1,.string (mkS k.1.2),.int .i64 k.2.1,.string (mkS k.2.2)] kV kV ?_;intro bq bz b6;have b0:(m.upd I (.mapIter (some g2) z (Ar (D++[e])) z)) bq=none:=by
   cases hh:(m.upd I (.mapIter (some g2) z (Ar (D++[e])) z)) bq with
   |none=>rfl
   |some o=>rw[U.see hh]at b6;cases b6
  have E:=U.fresh (o:=.cells [Value.int .i64 k.1.1,.string (mkS k.1.2),.int .i64 k.2.1,.string (mkS k.2.2)].toArray 137 (0,0)) b6;obtain⟨bp,br⟩:=Aly (m:=(m2.upd I (.mapIter (some g2) z (Ar (D++[e])) z)).upd bq (.cells [Value.int .i64 k.1.1,.string (mkS k.1.2),.int .i64 k.2.1,.string (mkS k.2.2)].toArray 137 (0,0))) (Ab _ _ _);refine G.addrA 137 77 2 bq 0 0 2 kV kV kV kV oV<|G.lM (some 2) bq (0+0*2) (.agg #[.int .i64 k.1.1,.string (mkS k.1.2)]) bp<|G.addrA 137 77 2 bq 0 1 2 kV kV kV kV oV<|G.lM (some 2) bq (0+1*2) (.agg #[.int .i64 k.2.1,.string (mkS k.2.2)]) br ?_;generalize bk:(m2.upd I (.mapIter (some g2) z (Ar (D++[e])) z)).upd bq (.cells [Value.int .i64 k.1.1,.string (mkS k.1.2),.int .i64 k.2.1,.string (mkS k.2.2)].toArray 137 (0,0))=m3 at E;have b4:k∉L.map (·.1):=hkn;refine G.l (ι:=Nat) (fun n=>[(1,.p 0 0),(2,.p 1 0),(6,.p 2002 0),(17,.p 24006 0),(18,iV n),(85,.v (.pointer (some ⟨I,0,none⟩)))])
   (fun _=>[(0,⟨94,[bV b,sV a n c,bV b',sV a' n' c',.v (.map (some g1)),.v (.map (some g2))]⟩),(1,⟨33,[tV [],sV none 0 0,sV none 0 0]⟩),(2002,⟨33,[tV (Ae F.c),sV xa X.length xc,sV T S.length O]⟩),(24006,⟨99,[iV k.1.1,tV k.1.2,iV k.2.1,tV k.2.2,tV (Ae (F.t k))]⟩)])
   (fun n u' m'=>n<=S.length/\(∀ j x,j<n->S[j]?=some x->Oc x.1 k<0)/\m'=m3) (fun n=>S.length-n) 0 ⟨oV,fun j x hj=>oV,rfl⟩ ?_
  rintro J2 d ay u5 m5 l5 ⟨ae,Z,rfl⟩;have bo:=((K.trans l3).trans l4).trans l5;refine G.joinF (ι:=Unit) (fun st=>Ajn prog st [.bool false]) (fun _=>[(1,.p 0 0),(2,.p 1 0),(6,.p 2002 0),(17,.p 24006 0),(18,iV d),(85,.v (.pointer (some ⟨I,0,none⟩)))])
   (fun _=>[(0,⟨94,[bV b,sV a n c,bV b',sV a' n' c',.v (.map (some g1)),.v (.map (some g2))]⟩),(1,⟨33,[tV [],sV none 0 0,sV none 0 0]⟩),(2002,⟨33,[tV (Ae F.c),sV xa X.length xc,sV T S.length O]⟩),(24006,⟨99,[iV k.1.1,tV k.1.2,iV k.2.1,tV k.2.2,tV (Ae (F.t k))]⟩)])
   (fun _ u' m'=>m'=m5/\∀ x,S[d]?=some x->¬ Oc x.1 k<0) (fun _=>kV) kV ?tail2 ?way2
  case way2 =>
   intro R;by_cases a7:d<S.length
   ·refine G.lT d S.length ?_;obtain⟨x,a5⟩:∃ x,S[d]?=some x:=⟨_,A01 a7⟩;obtain⟨gs,cs,Q⟩:=E.ptr (fun e=>by
     have:S.length=0:=by simpa using congrArg List.length e
     omega)
    simp only[Value.slice.injEq]at Q;obtain⟨rfl,_,rfl⟩:=Q;refine G.a gs 0 S.length O d 5 a7 ?_;have b2:ElP m5 gs (0+d*5) (D8 x):=E.el (by rw[A1a,a5];rfl);refine G.lM (some 5) gs (0+d*5) (D8 x) b2 ?_;by_cases hc:Oc x.1 k<0
    ·refine G.c call69 (Bj0 x (k,F.t k) true (decide_eq_true hc)) ?_;rintro v6 u6 l6 rfl;refine G.i d ?_;exact G.b (ay (d+1) _ _ _ cV (l5.trans l6) ⟨oV,fun j y hj H=>by
      rcases (by omega:j<d\/j=d) with e|rfl
      ·exact Z j y e H
      rw[a5]at H;cases H;exact hc,rfl⟩ oV)
    refine G.c call69 (Bj0 x (k,F.t k) false (decide_eq_false hc)) ?_;rintro v6 u6 l6 rfl;exact R () _ _ _ kV cV l6 ⟨rfl,fun y H=>by rw[a5]at H;cases H;exact hc⟩
   refine G.lF d S.length ?_;exact R () _ _ _ kV cV (PH.le_refl _) ⟨rfl,fun y H=>by rw[A1v oV]at H;cases H⟩
  rintro _ u6 m6 l6 ⟨rfl,a6⟩;have ah:=E.cap;refine G.sliceTo 5 T S.length O d kV oV<|G.sliceFromG T S.length O d 5 kV ae ah<|G.buildM 99 5 64 (.agg #[.int .i64 0,.string (mkS []),.int .i64 0,.string (mkS []),.string (mkS [])]) [.agg #[.int .i64 k.1.1,.string (mkS k.1.2),.int .i64 k.2.1,.string (mkS k.2.2),.string (mkS (Ae (F.t k)))]] kV (Aj6 (k,F.t k)) rfl oV mV mV ?_;intro gt m7 af;refine G.appendMV 99 5 64 (.agg #[.int .i64 0,.string (mkS []),.int .i64 0,.string (mkS []),.string (mkS [])]) m6 [.agg #[.int .i64 k.1.1,.string (mkS k.1.2),.int .i64 k.2.1,.string (mkS k.2.2),.string (mkS (Ae (F.t k)))]] ((S.drop d).map D8) (.slice (some ⟨gt,0,none⟩) 1 1) (if O=d then T else T.map (·.add (d*5))) (S.length-d) (O-d) kV rfl rfl oV af mV (fun b5=>?_) (Ao9 _) gV gV ?_
  ·have a7:d<S.length:=by
    rcases A2e d S.length with h|h
    ·exact h
    exact absurd (by rw[A2b h];rfl) b5
   obtain⟨gs,cs,Q⟩:=E.ptr (fun e=>by
    have:S.length=0:=by simpa using congrArg List.length e
    omega)
   simp only[Value.slice.injEq]at Q;obtain⟨rfl,_,rfl⟩:=Q;refine⟨gs,0+d*5,?_,?_⟩
   ·rw[if_neg oV];simp[Ed]
   have:=E.els.drop d;rw[<-List.map_drop]at this;exact fun j e hj i y H=>by
    obtain⟨cs,t,fr,q1,q2⟩:=this j e hj i y H;exact⟨cs,t,fr,af.le _ _ q1,q2⟩
  intro v8 m8 V;obtain⟨a8,c8,rfl⟩:=V.ptr mV;have ax:=E.take (k:=d) (by rw[A03];exact ae);obtain⟨mx,bm,bb,ai⟩:=At.swap (x:=⟨.slice T d O,99,5,(S.map D8).take d⟩) (y:=⟨.slice (some ⟨a8,0,none⟩) _ c8,99,5,_⟩) V ax;refine G.appendM 99 5 64 (.agg #[.int .i64 0,.string (mkS []),.int .i64 0,.string (mkS []),.string (mkS [])]) mx ((S.map D8).take d) _ (.slice T d O) a8 0 _ c8 kV rfl rfl oV bb V.els V.1 rfl mV gV gV ?_;intro v9 m9 aw;obtain⟨mz,am,an⟩:=ai ⟨v9,99,5,_⟩ m9 aw;have b3:(S.map D8).take d++([.agg #[.int .i64 k.1.1,.string (mkS k.1.2),.int .i64 k.2.1,.string (mkS k.2.2),.string (mkS (Ae (F.t k)))]]++(S.drop d).map D8)=(S.take d++[(k,F.t k)]++S.drop d).map D8:=by
   rw[A1i,A1i,A5g,A2k];rfl
  have bn:Af ((m.upd I (.mapIter (some g2) z (Ar (D++[e])) z)).upd bq (.cells [Value.int .i64 k.1.1,.string (mkS k.1.2),.int .i64 k.2.1,.string (mkS k.2.2)].toArray 137 (0,0))) mz v9 99 5 ((S.take d++[(k,F.t k)]++S.drop d).map D8):=by rw[<-b3];exact an
  have a0:=bn.del (l:=bq) (by rw[Ab];simp);rw[Rk b0]at a0;obtain⟨a9,c9,rfl⟩:=a0.shape;rw[A03]at a0⊢;have az:(S.take d++[(k,F.t k)]++S.drop d).length=S.length+1:=gV;refine G.drop (mz.del bq) kV (fun g o Y=>Af.le am g o (Ap6 _ _ g o Y))<|G.b (hJ (D++[e],L++[(k,_)],S.take d++[(k,F.t k)]++S.drop d,(a9,c9)) _ _ _ cV ((((a1.trans l3).trans l4).trans l5).trans l6) ⟨hS',?_,by dsimp only;rw[az];simp;omega,a0⟩ (by have:=hS'.len;simp at this;dsimp only;simp;omega));dsimp only;rw[A1i];exact hI.put A0t h0 b4 Z a6
 case done2 =>
 intro aa;have b1:Can Oc F.t S:=hI.can fun k hk=>an k fun hm=>hk (by
  obtain⟨p,hp,rfl⟩:=A1b.1 hm;exact A1b.2 ⟨p,aa p hp,rfl⟩)
 have be:S.length<=N:=by have:=hS.len;omega
 refine G.give _ _ _ kV hA (fun g=>?_) ?_
 ·cases Y:m g with
  |none=>exact .inl Y
  |some o=>exact .inr (by rw[W _ g o Y];simp)
 intro u4 l4 hY;exact G.drop m kV (W _)<|G.r (.tuple #[.agg #[.string (mkS (Ae F.c)),.slice xa X.length xc,.slice T S.length O],.int .i64 0]) ⟨rfl,_,rfl,X,S,xa,xc,T,O,rfl,hX.mono (a1.trans l4),hY,ag,b1,b7,be⟩
end
section
variable {F:List Al}{a i:Nat}{f:Al}{z:Int}
def Aro (F:List Al)(a:Nat)(z:Int)(i:Nat)(fe:Int)(dr ho:Bool):Prop :=
 (∃ k f,k<i/\F[k]?=some f/\f.1=a/\fe=(k:Int)/\dr=decide (f.2.2=1)/\ho=decide (f.2.1=2))\/((∀ k f,k<i->F[k]?=some f->f.1≠a)/\fe=z/\dr=true/\ho=false)
theorem Af1 (q:Rat):q+0=q:=by grind
theorem An4 {m:Int}{j n:Bool}(h:Aro F a z i m j n)(C:F[i]?=some f)(v:f.1≠a):Aro F a z (i+1) m j n:=by
 rcases h with ⟨k,g,t,d,u⟩|⟨t,d⟩
 ·exact .inl ⟨k,g,oV,d,u⟩
 refine .inr ⟨fun k g H E=>?_,d⟩;rcases (by omega:k<i\/k=i) with e|rfl
 ·grind
 grind
theorem Aqe (hf:F[i]?=some f)(he:f.1=a):Aro F a z (i+1) (i:Int) (decide (f.2.2=1)) (decide (f.2.1=2)) :=
 .inl ⟨i,f,oV,hf,he,rfl,rfl,rfl⟩
def Ale {g1 g2:Nat}(d:g1≠g2)(j m g h:Obj):(((PH.mt.upd g1 j).upd g2 m).upd g1 g).upd g2 h=(PH.mt.upd g1 g).upd g2 h:=by
 rw[Iq _ _ _ (fun e=>d e.symm),Dp,Dp]
end
def Kk.all {f:FuncId}{args:List Value}{u:PH}{F:CF}{N:Nat}(c:Ag prog f args u PH.mt fun v d g=>Kk g d v F N):Fn0 prog f args u fun v d=>R9 d v F N:=by
 refine Fn0.weak c.giveAll ?_;rintro v d ⟨j,h,e,l2,k⟩;exact k.give e l2
def R9.up {u:PH}{v:Value}{F:CF}{N M:Nat}(h:R9 u v F N)(d:N<=M):R9 u v F M:=by
 obtain⟨b,a,n,c,b',g,H,j,g1,g2,I,J,e,m,t,z,C,E⟩:=h;exact⟨b,a,n,c,b',g,H,j,g1,g2,I,J,e,m,t,z,C.up d,E.up d⟩
section
variable {s:List UInt8}{u:PH}
def Bpf (h:¬ Bhb s):Bic s=false:=by unfold Bic;rw[decide_eq_false h];rfl
def Blv (h:s = [48]):Bic s=false:=by unfold Bic;rw[show decide (s≠[48])=false from decide_eq_false fun e=>e h,Bool.and_false]
def Bp6 (h:Bhb s)(h0:s≠[48]):Bic s=true:=by unfold Bic;rw[decide_eq_true h,decide_eq_true h0];rfl
def Brh {b off:Nat}{x:K3}(h:ElP u b off (E3 x)):ElP u b (off+0) (.agg #[.int .i64 x.1.1,.string (mkS x.1.2)]):=h.sub fun i y d=>by
 match i,d with
 |0,d=>simpa[E3,Value.cells] using d
 |1,d=>simpa[E3,Value.cells] using d
 |i+2,d=>simp[Value.cells]at d
def Bi2 (p:Par)(e:p.2.length<=9223372036854775807):Fn0 prog 93 [Ap p] u fun v _=>v=.bool (Bh0 p):=by
 refine Fn0.o func93 ?_;unfold Bh0;by_cases h0:-1<=p.1
 rotate_left
 ·exact G.hF p.1 (-1)<|G.r (.bool false) ⟨rfl,by rw[decide_eq_false h0];rfl⟩
 refine G.hT p.1 (-1) ?_;rw[decide_eq_true h0];by_cases d:p.2 = []
 ·exact G.q p.2 [] d<|G.r (.bool true) ⟨rfl,by rw[decide_eq_true d];rfl⟩
 refine G.w p.2 [] d<|G.c call91 (Biw p.2 e) ?_;rintro j h g rfl;exact G.r (.bool (Hn p.2)) ⟨rfl,by rw[decide_eq_false d];rfl⟩
def Bm1 (x y:H3):Fn0 prog 69 [Bgw x,Bgw y] u fun v _=>v=.bool (qLt x y):=by
 refine Fn0.o func69<|G.c call68 (Fp x.1.1 y.1.1 _ rfl) ?_;rintro j g e rfl;unfold qLt;cases decide (Bk x.1.1 y.1.1<0) with
 |true=>exact G.r (.bool true) ⟨rfl,rfl⟩
 |false =>
  by_cases d:x.1.1=y.1.1
  ·refine G.eqAgg 77 #[.int .i64 x.1.1.1,.string (mkS x.1.1.2)] #[.int .i64 y.1.1.1,.string (mkS y.1.1.2)] true kV kV kV (fun w=>by rw[<-decide_eq_true d];exact Bq.eq x.1.1 y.1.1 w)<|G.c call68 (Fp x.1.2 y.1.2 _ rfl) ?_;rintro m h l2 rfl;rw[decide_eq_true d];exact G.r (.bool (decide (Bk x.1.2 y.1.2<0))) ⟨rfl,mV⟩
  exact G.eqAgg 77 #[.int .i64 x.1.1.1,.string (mkS x.1.1.2)] #[.int .i64 y.1.1.1,.string (mkS y.1.1.2)] false kV kV kV (fun w=>by rw[<-decide_eq_false d];exact Bq.eq x.1.1 y.1.1 w)<|G.r (.bool false) ⟨rfl,by rw[decide_eq_false d];rfl⟩
def Bjv {v:Value}{c:List UInt8}{T:List K3}{Q:List H3}(h:Bim u v c T Q)(hL:Bka c T Q):Fn0 prog 48 [v] u fun r _=>Bj7 c T Q/\r=.bool true\/¬ Bj7 c T Q/\r=.bool false:=by
 obtain⟨a1,c1,a2,c2,rfl,hT,hQ⟩:=h;have kT:=hL.sl;have kQ:=hL.ql;refine Fn0.o func48<|G.c call92 (Bij c hL.c) ?_;rintro v1 u1 l1 (⟨q1,rfl⟩|⟨q1,rfl⟩)
 case inr=>exact G.r (.bool false) ⟨rfl,.inr ⟨fun h=>q1 h.1,rfl⟩⟩
 refine G.l (ι:=Nat) (fun i=>[(1,.p 0 0),(12,sV a1 T.length c1),(13,iV T.length),(14,iV i)])
  (fun _=>[(0,⟨33,[tV c,sV a1 T.length c1,sV a2 Q.length c2]⟩)])
  (fun i u' m'=>i<=T.length/\(∀ j (d:j<T.length),j<i->tOK T[j]=true)/\(∀ j (d:j+1<T.length),j+1<i->tLt (T[j]'oV) T[j+1]=true)/\m'=PH.mt) (fun i=>T.length-i) 0 ⟨oV,fun j d h=>oV,fun j d h=>oV,rfl⟩ ?_
 rintro J i X u2 m2 l2 ⟨hi,Y,Z,rfl⟩;have W:=l1.trans l2;by_cases E:i<T.length
 ·refine G.lT i T.length ?_;obtain⟨x,P⟩:∃ x,T[i]?=some x:=⟨_,A01 E⟩;have n:=A1k P;obtain⟨H,I⟩:=hL.s x n;have z:T[i]=x:=by obtain⟨_,e⟩:=A05.1 P;exact e
  obtain⟨K,L,rfl,ea⟩:=Ac.at' (hT.mono W) (j:=i) (e:=E3 x) (by simp[P]);have m:tOK x=false->¬ Bj7 c T Q:=fun e h=>by rw[h.2.1 x n]at e;cases e
  have g:tOK x=(Bh0 x.1&&Bic x.2):=rfl;refine G.a K L T.length c1 i 3 E<|G.lU (some 3) K (L+i*3) (.agg #[.int .i64 x.1.1,.string (mkS x.1.2),.string (mkS x.2)]) ea<|G.c call93 (Bi2 x.1 H) ?_;rintro v3 u3 U rfl;cases ep:Bh0 x.1 with
  |false=>exact G.r (.bool false) ⟨rfl,.inr ⟨m (by rw[g,ep];rfl),rfl⟩⟩
  |true =>
  refine G.c call92 (Bij x.2 I) ?_;rintro v4 u4 V (⟨q4,rfl⟩|⟨q4,rfl⟩)
  case inr=>exact G.r (.bool false) ⟨rfl,.inr ⟨m (by rw[g,ep,Bpf q4];rfl),rfl⟩⟩
  by_cases N:x.2 = [48]
  ·exact G.q x.2 [48] N<|G.r (.bool false) ⟨rfl,.inr ⟨m (by rw[g,ep,Blv N];rfl),rfl⟩⟩
  refine G.w x.2 [48] N ?_;have R:tOK x=true:=by rw[g,ep,Bp6 q4 N];rfl
  have C:∀ j (d:j<T.length),j<i+1->tOK T[j]=true:=fun j d h=>by
   rcases (by omega:j<i\/j=i) with e|rfl
   ·exact Y j d e
   rw[z];exact R
  by_cases h0:i=0
  ·subst h0;exact G.gF (0:Nat) 0<|G.p (0:Nat) 1 (0+1:Nat)<|G.b (X (0+1) _ _ _ cV ((l2.trans U).trans V) ⟨oV,C,fun j d h=>oV,rfl⟩ oV)
  refine G.gT i 0<|G.s i 1 (i-1:Nat) ?_;obtain⟨y,a3⟩:∃ y,T[i-1]?=some y:=⟨_,A01 oV⟩;have F:T[i-1]'oV=y:=by obtain⟨_,e⟩:=A05.1 a3;exact e
  obtain⟨bb,ob,e1,eb⟩:=Ac.at' (hT.mono ((W.trans U).trans V)) (j:=i-1) (e:=E3 y) (by simp[a3]);cases e1;refine G.a K L T.length c1 (i-1) 3 oV<|G.f 79 K (L+(i-1)*3) 0 0<|G.lU (some 2) K (L+(i-1)*3+0) (.agg #[.int .i64 y.1.1,.string (mkS y.1.2)]) (Brh eb)<|G.c call68 (Fp y.1 x.1 _ rfl) ?_;rintro v5 u5 l5 rfl;cases el:decide (Bk y.1 x.1<0) with
  |false=>exact G.r (.bool false) ⟨rfl,.inr ⟨fun h=>by
   have:=h.2.2.2.1 (i-1) oV;rw[F,show T[i-1+1]'oV=x by rw[<-z];congr 1;omega]at this;unfold tLt at this;exact absurd this (by rw[el];simp),rfl⟩⟩
  |true =>
  refine G.i i ?_;exact G.b (X (i+1) _ _ _ cV (((l2.trans U).trans V).trans l5) ⟨oV,C,fun j d h=>by
   by_cases e:j+1=i
   ·subst e;rw[z];have:T[j]'oV=y:=F;rw[this];exact el
   exact Z j d oV,rfl⟩ oV)
 obtain rfl:i=T.length:=oV;have a6:∀ t∈T,tOK t=true:=fun t ht=>by
  obtain⟨j,d,rfl⟩:=A2y ht;exact Y j d d
 have a7:Bm4 tLt T:=fun j d=>Z j d d;refine G.lF T.length T.length ?_;clear X;refine G.l (ι:=Nat) (fun i=>[(1,.p 0 0),(53,sV a2 Q.length c2),(54,iV Q.length),(55,iV i)])
  (fun _=>[(0,⟨33,[tV c,sV a1 T.length c1,sV a2 Q.length c2]⟩)])
  (fun i u' m'=>i<=Q.length/\(∀ j (d:j<Q.length),j<i->qOK Q[j]=true)/\(∀ j (d:j+1<Q.length),j+1<i->qLt (Q[j]'oV) Q[j+1]=true)/\m'=PH.mt) (fun i=>Q.length-i) 0 ⟨oV,fun j d h=>oV,fun j d h=>oV,rfl⟩ ?_
 clear Y Z;rintro J i X u3 m3 U ⟨hi,Y,Z,rfl⟩;have a4:=W.trans U;by_cases E:i<Q.length
 ·refine G.lT i Q.length ?_;obtain⟨x,O⟩:∃ x,Q[i]?=some x:=⟨_,A01 E⟩;have n:=A1k O;obtain⟨H,I,a5⟩:=hL.q x n;have z:Q[i]=x:=by obtain⟨_,e⟩:=A05.1 O;exact e
  obtain⟨K,L,rfl,ea⟩:=Ac.at' (hQ.mono a4) (j:=i) (e:=Bgw x) (by simp[O]);have m:qOK x=false->¬ Bj7 c T Q:=fun e h=>by rw[h.2.2.1 x n]at e;cases e
  have g:qOK x=(Bh0 x.1.1&&(Bh0 x.1.2&&(!decide (Bk x.1.2 x.1.1<0)&&Bic x.2))):=rfl;refine G.a K L Q.length c2 i 5 E<|G.lU (some 5) K (L+i*5) (.agg #[.int .i64 x.1.1.1,.string (mkS x.1.1.2),.int .i64 x.1.2.1,.string (mkS x.1.2.2),.string (mkS x.2)]) ea<|G.c call93 (Bi2 x.1.1 H) ?_;rintro v3 u4 V rfl;cases ep:Bh0 x.1.1 with
  |false=>exact G.r (.bool false) ⟨rfl,.inr ⟨m (by rw[g,ep];rfl),rfl⟩⟩
  |true =>
  refine G.c call93 (Bi2 x.1.2 I) ?_;rintro v4 u5 l5 rfl;cases eq:Bh0 x.1.2 with
  |false=>exact G.r (.bool false) ⟨rfl,.inr ⟨m (by rw[g,ep,eq];rfl),rfl⟩⟩
  |true =>
  refine G.c call68 (Fp x.1.2 x.1.1 _ rfl) ?_;rintro v5 u6 l6 rfl;cases eo:decide (Bk x.1.2 x.1.1<0) with
  |true=>exact G.r (.bool false) ⟨rfl,.inr ⟨m (by rw[g,ep,eq,eo];rfl),rfl⟩⟩
  |false =>
  refine G.c call92 (Bij x.2 a5) ?_;rintro v6 u7 l7 (⟨q4,rfl⟩|⟨q4,rfl⟩)
  case inr=>exact G.r (.bool false) ⟨rfl,.inr ⟨m (by rw[g,ep,eq,eo,Bpf q4];rfl),rfl⟩⟩
  by_cases N:x.2 = [48]
  ·exact G.q x.2 [48] N<|G.r (.bool false) ⟨rfl,.inr ⟨m (by rw[g,ep,eq,eo,Blv N];rfl),rfl⟩⟩
  refine G.w x.2 [48] N ?_;have R:qOK x=true:=by rw[g,ep,eq,eo,Bp6 q4 N];rfl
  have C:∀ j (d:j<Q.length),j<i+1->qOK Q[j]=true:=fun j d h=>by
   rcases (by omega:j<i\/j=i) with e|rfl
   ·exact Y j d e
   rw[z];exact R
  by_cases h0:i=0
  ·subst h0;exact G.gF (0:Nat) 0<|G.p (0:Nat) 1 (0+1:Nat)<|G.b (X (0+1) _ _ _ cV ((((U.trans V).trans l5).trans l6).trans l7) ⟨oV,C,fun j d h=>oV,rfl⟩ oV)
  refine G.gT i 0<|G.s i 1 (i-1:Nat) ?_;obtain⟨y,a0⟩:∃ y,Q[i-1]?=some y:=⟨_,A01 oV⟩;have F:Q[i-1]'oV=y:=by obtain⟨_,e⟩:=A05.1 a0;exact e
  obtain⟨bb,ob,e1,eb⟩:=Ac.at' (hQ.mono ((((a4.trans V).trans l5).trans l6).trans l7)) (j:=i-1) (e:=Bgw y) (by simp[a0]);cases e1;refine G.a K L Q.length c2 (i-1) 5 oV<|G.lU (some 5) K (L+(i-1)*5) (Bgw y) eb<|G.c call69 (Bm1 y x) ?_;rintro v5 u8 l8 rfl;cases el:qLt y x with
  |false=>exact G.r (.bool false) ⟨rfl,.inr ⟨fun h=>by
   have:=h.2.2.2.2 (i-1) oV;rw[F,show Q[i-1+1]'oV=x by rw[<-z];congr 1;omega]at this;exact absurd this (by rw[el];simp),rfl⟩⟩
  |true =>
  refine G.i i ?_;exact G.b (X (i+1) _ _ _ cV (((((U.trans V).trans l5).trans l6).trans l7).trans l8) ⟨oV,C,fun j d h=>by
   by_cases e:j+1=i
   ·subst e;rw[z];have:Q[j]'oV=y:=F;rw[this];exact el
   exact Z j d oV,rfl⟩ oV)
 obtain rfl:i=Q.length:=oV;refine G.lF Q.length Q.length ?_;exact G.r (.bool true) ⟨rfl,.inl ⟨⟨q1,a6,fun t ht=>by
  obtain⟨j,d,rfl⟩:=A2y ht;exact Y j d d,a7,fun j d=>Z j d d⟩,rfl⟩⟩
end
section
variable {k:Nat}{s:Src}{ts:List Int}{u:PH}
theorem Src.h0or (s:Src)(k d:Nat)(j:PH)(g:Nat):s.M k g=none\/(j.or (s.M d)) g≠none:=by
 rcases s.h0 k d g with e|e
 ·grind
 right;intro h;cases hx:j g with
 |some o=>rw[PH.or_l hx]at h;cases h
 |none=>rw[PH.or_r hx]at h;exact e h
def Atc {m:PH}{a b c d:Arr}(h:Bag m [a,b,c,d]):Bag m [a,c,d]:=by
 have e:Bag m [a,c,d,b]:=Bag.perm (List.Perm.cons a ((List.Perm.swap c b [d]).trans (List.Perm.cons c (List.Perm.swap d b [])))) h;obtain⟨g,t,j,v,n,z,_⟩:=e;exact⟨g,t,j,v,n,z,trivial⟩
def Ay7 {x:Int}(h:x∈[1,2,2,(3:Int)]):∃ n:Nat,x=(n:Int)/\1<=n/\n<=3:=by
 simp at h;rcases h with rfl|rfl|rfl
 ·exact⟨1,rfl,oV,oV⟩
 ·exact⟨2,rfl,oV,oV⟩
 exact⟨3,rfl,oV,oV⟩
def Ags (d:Nat)(ez:1<=d)(dw:d<=6)(h:J0 u s ts)(hk:k<=s.n) :
 Ag prog 7 [s.ptr,.int .i64 d] u (s.M k) fun v u' m'=>∃ (T:List (List UInt8×Nat)) (R:List Br) (F:List Al) (lab:Int) (k':Nat),H5 u' v T R F lab/\Bl u' T R F lab/\T.length<=6/\k'<=s.n/\m'=s.M k'/\TOK T/\T.length<=d/\F.length<=d:=by
 refine Ag.o func7<|G.A call30 (Anm (lo:=1) (hi:=3) (n:=3) h hk oV oV oV oV oV) ?_;rintro v1 u1 m1 l1 ⟨r,k1,rfl,hr,du,rfl⟩ _;rw[By];obtain⟨n,hn⟩:∃ n:Nat,(1:Int)+(r:Int)=(n:Int):=⟨1+r,oV⟩;rw[hn];refine G.l (ι:=Nat×Nat×List (List UInt8×Nat)×(Option Addr×Nat)×List Br×(Option Addr×Nat)) (fun i=>[(0,.v s.ptr),(1,iV d),(4,.p 0 0),(5,.p 1001 0),(6,iV n),(7,iV i.1)])
  (fun i=>[(0,⟨27,[sV none 0 0,sV none 0 0,sV none 0 0,iV 0]⟩),(1001,⟨27,[sV i.2.2.2.1.1 i.2.2.1.length i.2.2.2.1.2,sV i.2.2.2.2.2.1 i.2.2.2.2.1.length i.2.2.2.2.2.2,sV none 0 0,iV (-1)]⟩)])
  (fun i u' m'=>i.1<=n/\i.2.1<=s.n/\TOM d i.2.2.1/\ROK u' i.2.2.1.length i.2.2.2.2.1/\i.2.2.2.2.1.length=i.1/\(0<i.1->0<i.2.2.1.length)/\Bag m' [s.arr i.2.1,Acx i.2.2.2.1.1 i.2.2.2.1.2 i.2.2.1,Zn i.2.2.2.2.2.1 i.2.2.2.2.2.2 i.2.2.2.2.1])
  (fun i=>n-i.1) (0,k1,[],(none,0),[],(none,0))
  ⟨A1t _,du,TOM.nil d,ROK.nil,rfl,fun h=>absurd h mV,s.bag0 k1 ⟨PH.mt,Af.nil _ _ _,PH.mt,Af.nil _ _ _,trivial⟩⟩ ?_
 rintro J ⟨i,k2,T,⟨ta,tc⟩,R,⟨ra,rc⟩⟩ hJ u2 m2 l2 ⟨hi,ce,hT,hR,cu,h0,b5⟩;simp only at hi ce hT hR cu h0 b5 hJ;subst cu;have bv:=l1.trans l2;have ds:=hT.le;by_cases ey:R.length<n
 ·refine G.lT R.length n<|G.l (ι:=Nat×Nat×List Nat×(Option Addr×Nat)) (fun i=>[(0,.v s.ptr),(1,iV d),(4,.p 0 0),(5,.p 1001 0),(6,iV n),(7,iV R.length),(8,sV i.2.2.2.1 i.2.2.1.length i.2.2.2.2),(23,iV T.length),(24,iV i.1)])
   (fun i=>[(0,⟨27,[sV none 0 0,sV none 0 0,sV none 0 0,iV 0]⟩),(1001,⟨27,[sV ta T.length tc,sV ra R.length rc,sV none 0 0,iV (-1)]⟩)])
   (fun i u' m'=>i.1<=T.length/\i.2.1<=s.n/\LOK i.2.2.1 i.1/\Bag m' [s.arr i.2.1,Agt i.2.2.2.1 i.2.2.2.2 i.2.2.1,Acx ta tc T,Zn ra rc R])
   (fun i=>T.length-i.1) (0,k2,[],(none,0))
   ⟨A1t _,ce,LOK.nil,by obtain⟨m0,e0,hL⟩:=b5;exact⟨m0,e0,m0,Af.nil _ _ _,hL⟩⟩ ?_
  rintro J1 ⟨j,k3,l,⟨la,lc⟩⟩ Q u3 m3 l3 ⟨hj,a1,hl,ah⟩;simp only at hj a1 hl ah Q;have ex:=hl.len;by_cases et:j<T.length
  ·refine G.lT j T.length ?_;obtain⟨n4,aj,cc⟩:=ah;obtain⟨rfl,b6⟩:=Src.split aj;refine G.D call10 (Src.apart b6) (I4 (n:=3) (h.mono (bv.trans l3)) a1 oV oV) ?_;rintro v4 u4 m4 l4 ⟨r4,k4,rfl,dy,bp,rfl⟩ _;have m:Bag _ [s.arr k4,Agt la lc l,Acx ta tc T,Zn ra rc R]:=⟨_,Src.at b6,cc⟩;by_cases d3:r4=0
   ·refine G.eT r4 0<|G.B 3 1 8 (.int .i64 0) [.int .i64 j] (Av [j]) ?_;intro g6 u6 l6 e6;obtain⟨cm,bd,ai⟩:=m.focus 1 rfl;rw[Aca]at bd;refine G.append 3 1 8 (.int .i64 0) cm (Ai l) [.int .i64 j] (.slice la l.length lc) g6 0 1 1 kV rfl rfl oV bd e6 (Av [j]) rfl oV (by simp[Ai];omega) (by simp[Ai];omega) ?_;intro w6 cn a9;rw[Di]at a9;obtain⟨a6,c6,rfl⟩:=a9.shape;rw[Ak]at a9⊢;have V:=ai (Agt a6 c6 (l++[j])) cn a9;simp only[A2j,A2p]at V;exact G.i j<|G.b (Q (j+1,k4,l++[j],(a6,c6)) _ _ _ cV ((l3.trans l4).trans l6) ⟨dV,bp,hl.snoc,V⟩ dV)
   exact G.eF r4 0<|G.i j<|G.b (Q (j+1,k4,l,(la,lc)) _ _ _ cV (l3.trans l4) ⟨dV,bp,hl.up,m⟩ dV)
  obtain rfl:j=T.length:=oV;refine G.lF T.length T.length ?_;obtain⟨n4,aj,cc⟩:=ah;obtain⟨rfl,b6⟩:=Src.split aj;refine G.D call10 (Src.apart b6) (I4 (n:=3) (h.mono (bv.trans l3)) a1 oV oV) ?_;rintro v4 u4 m4 l4 ⟨r4,k4,rfl,dy,bp,rfl⟩ _;have m:Bag _ [s.arr k4,Agt la lc l,Acx ta tc T,Zn ra rc R]:=⟨_,Src.at b6,cc⟩;refine G.l (ι:=Int×Nat×List Nat×(Option Addr×Nat)×List (List UInt8×Nat)×(Option Addr×Nat)) (fun i=>[(0,.v s.ptr),(1,iV d),(4,.p 0 0),(5,.p 1001 0),(6,iV n),(7,iV R.length),(8,sV i.2.2.2.1.1 i.2.2.1.length i.2.2.2.1.2),(10,iV i.1)])
   (fun i=>[(0,⟨27,[sV none 0 0,sV none 0 0,sV none 0 0,iV 0]⟩),(1001,⟨27,[sV i.2.2.2.2.2.1 i.2.2.2.2.1.length i.2.2.2.2.2.2,sV ra R.length rc,sV none 0 0,iV (-1)]⟩)])
   (fun i u' m'=>i.2.1<=s.n/\(i.2.2.1 = []->0<=i.1)/\-1<=i.1/\i.1<=2/\T.length<=i.2.2.2.2.1.length/\TOM d i.2.2.2.2.1/\LOK i.2.2.1 i.2.2.2.2.1.length/\(∀ a,T.length<=a->a<i.2.2.2.2.1.length->a∈i.2.2.1)/\Bag m' [s.arr i.2.1,Agt i.2.2.2.1.1 i.2.2.2.1.2 i.2.2.1,Acx i.2.2.2.2.2.1 i.2.2.2.2.2.2 i.2.2.2.2.1,Zn ra rc R])
   (fun i=>(i.1+1).toNat) ((r4:Int),k4,l,(la,lc),T,(ta,tc))
   ⟨bp,fun _=>dV,dV,dV,A08 _,hT,hl,fun a h1 h2=>by dsimp only at h2;omega,m⟩ ?_
  rintro J2 ⟨z,k5,E,⟨Y,Z⟩,C,⟨bm,bn⟩⟩ cs u5 m5 cl ⟨a2,d9,e3,e4,ag,b4,b9,a3,t⟩;simp only at a2 d9 e3 e4 ag b4 b9 a3 t cs;have ep:=b4.le;have er:=b9.len;have da:=((bv.trans l3).trans l4).trans cl;have bw:=(l3.trans l4).trans cl;refine dite (0<z) (fun hz=>?zp) (fun hz=>?zn)
  case' zp =>
   refine G.gT z 0 ?_;refine dite (C.length<d) (fun bb=>?g1) (fun bb=>?l1)
  case' g1=>refine G.lT C.length d ?_
  case' l1 =>
   refine G.lF C.length d ?_;refine dite (E = []) (fun I=>?e1) (fun I=>?n1)
  case' n1=>have d2:0<C.length:=oV
  case' zn =>
   refine G.gF z 0 ?_;refine dite (E = []) (fun I=>?y2) (fun I=>?n2)
  case' y2 =>
   have f0:=d9 I;have d0:E.length=0:=by rw[I];rfl
   refine G.eT E.length 0 ?_;refine dite (C.length<d) (fun bb=>?g2) (fun bb=>?e2)
  case' g2=>refine G.lT C.length d ?_
  case' e2=>refine G.lF C.length d ?_
  case' n2 =>
   have d0:0<E.length:=A4f.2 I;refine G.eF E.length 0 ?_;have d2:0<C.length:=by
    obtain⟨x,hx⟩:=List.exists_mem_of_ne_nil _ I;have:=b9.lt x hx;omega
  case g1|g2 =>
   refine G.B 3 1 8 (.int .i64 0) [.int .i64 C.length] (Av [C.length]) ?_;intro dl f3 ck di;obtain⟨db,c0,br⟩:=t.focus 1 rfl;rw[Aca]at c0;refine G.append 3 1 8 (.int .i64 0) db (Ai E) [.int .i64 C.length] (.slice Y E.length Z) dl 0 1 1 kV rfl rfl oV c0 di (Av [C.length]) rfl oV (by simp[Ai];omega) (by simp[Ai];omega) ?_;intro f7 dd aq;rw[Di]at aq;obtain⟨c4,c5,rfl⟩:=aq.shape;rw[Ak]at aq⊢;have ao:=br (Agt c4 c5 (E++[C.length])) dd aq;simp only[A2j,A2p]at ao;refine G.both [0,1,2,3,4,6] 5 7 [8,9,10,11,12,13] kV ?_ ?_;refine G.c call31 (S0 (p:=[97]) (i:=C.length) oV mV) ?_;rintro ek ef aw rfl;refine G.B 3 1 8 (.int .i64 0) [.int .i64 1,.int .i64 2,.int .i64 2,.int .i64 3] (N7 [1,2,2,3]) ?_;intro dm eg bg c8;have c2:=(((da).trans ck).trans aw).trans bg;have c3:=aw.trans bg;have bx:=c8.listP
   rotate_left
   refine G.B 3 1 8 (.int .i64 0) [.int .i64 1,.int .i64 2,.int .i64 2,.int .i64 3] (N7 [1,2,2,3]) ?_;intro dm eg bg c8;refine G.c call31 (S0 (p:=[97]) (i:=C.length) oV mV) ?_;rintro ek ef aw rfl;have c2:=(((da).trans ck).trans bg).trans aw;have c3:=bg.trans aw;have bx:=c8.listP.mono aw;all_goals
    obtain⟨dg,bu,ct⟩:=ao;obtain⟨rfl,bz⟩:=Src.split bu;refine G.D call32 (Src.apart bz) (Aer (L:=[1,2,2,3]) (h.mono c2) a2 bx mV mV) ?_;rintro f6 f4 f1 e5 ⟨kd,bq,ch,rfl,cw,rfl⟩ _;obtain⟨kn,rfl,cy,cz⟩:=Ay7 bq;have bo:Bag (dg.or (s.M ch)) [s.arr ch,Agt c4 c5 (E++[C.length]),Acx bm bn C,Zn ra rc R]:=⟨dg,Src.at bz,ct⟩;refine G.B 73 2 24 (.agg #[.string (mkS []),.int .i64 0]) [.agg #[.string (mkS (nmA C.length)),.int .i64 kn]] (Ak2 (nmA C.length,kn)) ?_;intro dp f5 e7 dj;obtain⟨dc,c1,bs⟩:=bo.focus 2 rfl;rw[Ath]at c1;refine G.append 73 2 24 (.agg #[.string (mkS []),.int .i64 0]) dc (C.map D9) [.agg #[.string (mkS (nmA C.length)),.int .i64 kn]] (.slice bm C.length bn) dp 0 1 1 kV rfl rfl oV c1 dj (Ak2 (nmA C.length,kn)) rfl oV (by simp[Ai];omega) (by simp[Ai];omega) ?_;intro f8 df ar;rw[show C.map D9++[.agg #[.string (mkS (nmA C.length)),.int .i64 kn]]=(C++[(nmA C.length,kn)]).map D9 by rw[A1i];rfl]at ar;obtain⟨cp,cq,rfl⟩:=ar.shape;rw[A03]at ar⊢;have ap:=bs (Acx cp cq (C++[(nmA C.length,kn)])) df ar;simp only[A2j,A2p]at ap;refine G.s z 1 (z-1) ?_;exact G.b (cs (z-1,ch,E++[C.length],(c4,c5),C++[(nmA C.length,kn)],(cp,cq)) _ _ _ cV ((((cl.trans ck).trans c3).trans e5).trans e7) ⟨cw,fun e=>by simp at e,dV,dV,by dsimp only;rw[A1d];omega,b4.snocm cy cz oV dw,by dsimp only;rw[A1d];exact b9.snoc,fun a h1 h2=>by
     dsimp only at h2⊢;rw[A1d,A20]at h2;rcases A2e a C.length with e|e
     ·exact A24 _ (a3 a h1 e)
     exact A6v _ (A12.2 oV),ap⟩ dV)
  case e1|e2 =>
   subst I;refine G.eT' (([]:List Nat).length:Int) 0 mV<|G.B 3 1 8 (.int .i64 0) [.int .i64 (0:Nat)] (Av [0]) ?_;intro a0 dh bh dk;have b8:Ac dh (.slice (some ⟨a0,0,none⟩) 1 1) 1 (Ai [0]):=dk.listP;have U:=Atc t;refine G.c call31 (S0 (p:=[114]) (i:=R.length) oV mV) ?_;rintro em eh al rfl;refine G.B 70 2 40 (.agg #[.string (mkS []),.slice none 0 0]) [.agg #[.string (mkS (nmR R.length)),.slice (some ⟨a0,0,none⟩) 1 1]] (Sh (nmR R.length,[0],((some (⟨a0,0,none⟩:Addr)),1))) ?_;intro cb co am c9;obtain⟨bj,af,a8⟩:=U.focus 2 rfl;rw[Aj5]at af;refine G.append 70 2 40 (.agg #[.string (mkS []),.slice none 0 0]) bj (R.map Hs) [.agg #[.string (mkS (nmR R.length)),.slice (some ⟨a0,0,none⟩) 1 1]] (.slice ra R.length rc) cb 0 1 1 kV rfl rfl oV af c9 (Sh (nmR R.length,[0],((some (⟨a0,0,none⟩:Addr)),1))) rfl oV (by simp[Ai];omega) (by simp[Ai];omega) ?_;intro eo bl P;rw[show R.map Hs++[.agg #[.string (mkS (nmR R.length)),.slice (some ⟨a0,0,none⟩) 1 1]]=(R++[(nmR R.length,[0],((some (⟨a0,0,none⟩:Addr)),1))]).map Hs by rw[A1i];rfl]at P;obtain⟨az,b1,rfl⟩:=P.shape;rw[A03]at P⊢;have N:=a8 (Zn az b1 (R++[(nmR R.length,[0],((some (⟨a0,0,none⟩:Addr)),1))])) bl P;simp only[A2j,A2p]at N;refine G.p R.length 1 (R.length+1:Nat) ?_;have b3:ROK co C.length (R++[(nmR R.length,[0],((some (⟨a0,0,none⟩:Addr)),1))]):=by
    refine (hR.mono (bw |>.trans bh |>.trans al |>.trans am)).snoc ag (LOK.zero oV) mV (fun a h1 h2=>?_) (b8.mono (al.trans am));exact absurd (a3 a h1 h2) mV
   exact G.b (hJ (R.length+1,k5,C,(bm,bn),R++[(nmR R.length,[0],((some (⟨a0,0,none⟩:Addr)),1))],(az,b1)) _ _ _ cV (l2.trans (bw |>.trans bh |>.trans al |>.trans am)) ⟨dV,a2,b4,b3,mV,fun _=>dV,N⟩ dV)
  case n1|n2 =>
   have ew:0<E.length:=A4f.2 I;refine G.eF E.length 0 ?_;obtain⟨mL,d8,cg⟩:=t.take 1 rfl;have U:Bag mL [s.arr k5,Acx bm bn C,Zn ra rc R]:=cg;rw[Aca]at d8;refine G.give mL (Ai E) (.slice Y E.length Z) kV d8 (fun g=>?_) ?_
   ·obtain⟨eb,d6,_⟩:=U;obtain⟨rfl,_⟩:=Src.split d6;exact s.h0or k k5 eb g
   intro dh bh b8;refine G.c call31 (S0 (p:=[114]) (i:=R.length) oV mV) ?_;rintro em eh al rfl;refine G.B 70 2 40 (.agg #[.string (mkS []),.slice none 0 0]) [.agg #[.string (mkS (nmR R.length)),.slice Y E.length Z]] (Sh (nmR R.length,E,(Y,Z))) ?_;intro cb co am c9;obtain⟨bj,af,a8⟩:=U.focus 2 rfl;rw[Aj5]at af;refine G.append 70 2 40 (.agg #[.string (mkS []),.slice none 0 0]) bj (R.map Hs) [.agg #[.string (mkS (nmR R.length)),.slice Y E.length Z]] (.slice ra R.length rc) cb 0 1 1 kV rfl rfl oV af c9 (Sh (nmR R.length,E,(Y,Z))) rfl oV (by simp[Ai];omega) (by simp[Ai];omega) ?_;intro eo bl P;rw[show R.map Hs++[.agg #[.string (mkS (nmR R.length)),.slice Y E.length Z]]=(R++[(nmR R.length,E,(Y,Z))]).map Hs by rw[A1i];rfl]at P;obtain⟨az,b1,rfl⟩:=P.shape;rw[A03]at P⊢;have N:=a8 (Zn az b1 (R++[(nmR R.length,E,(Y,Z))])) bl P;simp only[A2j,A2p]at N;refine G.p R.length 1 (R.length+1:Nat) ?_;have b3:ROK co C.length (R++[(nmR R.length,E,(Y,Z))]):=by
    exact (hR.mono (bw |>.trans bh |>.trans al |>.trans am)).snoc ag b9 I a3 (b8.mono (al.trans am))
   exact G.b (hJ (R.length+1,k5,C,(bm,bn),R++[(nmR R.length,E,(Y,Z))],(az,b1)) _ _ _ cV (l2.trans (bw |>.trans bh |>.trans al |>.trans am)) ⟨dV,a2,b4,b3,mV,fun _=>dV,N⟩ dV)
 obtain rfl:R.length=n:=oV;refine G.lF R.length R.length ?_;have cd:=h0 oV;obtain⟨n0,d7,hL⟩:=b5;obtain⟨rfl,dt⟩:=Src.split d7;refine G.giveP (ma:=n0) (sm:=s.M k2) kV rfl (Src.apart dt) (s.h0 k k2) ?_;intro u3 l3 d1;have cr:Ac u3 (.slice ta T.length tc) 2 (T.map D9):=hL.list d1 0 rfl;have dr:Ac u3 (.slice ra R.length rc) 2 (R.map Hs):=hL.list d1 1 rfl;refine G.l (ι:=Nat×Nat×List Al×(Option Addr×Nat)×Int) (fun i=>[(0,.v s.ptr),(4,.p 0 0),(5,.p 1001 0),(86,sV ta T.length tc),(87,iV T.length),(88,iV i.1)])
  (fun i=>[(0,⟨27,[sV none 0 0,sV none 0 0,sV none 0 0,iV 0]⟩),(1001,⟨27,[sV ta T.length tc,sV ra R.length rc,sV i.2.2.2.1.1 i.2.2.1.length i.2.2.2.1.2,iV i.2.2.2.2]⟩)])
  (fun i u' m'=>i.1<=T.length/\i.2.1<=s.n/\FOK T i.2.2.1 i.2.2.2.2 i.1/\Bag m' [s.arr i.2.1,Bjq i.2.2.2.1.1 i.2.2.2.1.2 i.2.2.1])
  (fun i=>T.length-i.1) (0,k2,[],(none,0),-1)
  ⟨A1t _,ce,FOK.nil,s.bag0 k2 ⟨PH.mt,Af.nil _ _ _,trivial⟩⟩ ?_
 rintro J1 ⟨a,k3,F,⟨fa,fc⟩,lab⟩ Q u4 m4 l4 ⟨ha,a1,hF,m⟩;simp only at ha a1 hF m Q;have ax:=(bv.trans l3).trans l4;have eu:=hF.len;by_cases bc:a<T.length
 ·refine G.lT a T.length ?_;have av:T[a]?=some T[a]:=A01 bc;have bq:=hT.kd _ (A09 bc);obtain⟨ba,oa,rfl,ea⟩:=Ac.at' (cr.mono l4) (j:=a) (e:=D9 T[a]) (by simp[av]);generalize T[a]=x at av bq ea;obtain⟨nm,kd⟩:=x;simp only at bq;refine G.a ba oa T.length tc a 2 bc<|G.lU (some 2) ba (oa+a*2) (.agg #[.string (mkS nm),.int .i64 kd]) ea ?_;by_cases cv:kd=2
  ·subst cv;refine G.eT (2:Nat) 2 ?_;by_cases es:lab<0
   ·refine G.lT lab 0 ?_;obtain⟨n5,X,au⟩:=m;obtain⟨rfl,ac⟩:=Src.split X;refine G.D call10 (Src.apart ac) (I4 (n:=2) (h.mono ax) a1 oV oV) ?_;rintro v5 u5 m5 E ⟨r5,k5,rfl,dz,a2,rfl⟩ _;have t:Bag _ [s.arr k5,Bjq fa fc F]:=⟨_,Src.at ac,au⟩;by_cases d3:r5=0
    ·exact G.eT r5 0<|G.i a<|G.b (Q (a+1,k5,F,(fa,fc),(a:Int)) _ _ _ cV (l4.trans E) ⟨dV,a2,hF.lab av,t⟩ dV)
    refine G.eF r5 0<|G.eT (2:Nat) 2 ?_;have W:=ac;have aa:=au;refine G.D call10 (Src.apart W) (I4 (n:=4) (h.mono (ax.trans E)) a2 oV oV) ?_;rintro ei ec e8 ak ⟨an,be,rfl,d4,ad,rfl⟩ _;have a4:Bag _ [s.arr be,Bjq fa fc F]:=⟨_,Src.at W,aa⟩;by_cases dx:0<an
    ·refine G.gT an 0 ?_;have ab:=W;have b2:=aa;refine G.D call10 (Src.apart ab) (I4 (n:=2) (h.mono ((ax.trans E).trans ak)) ad oV oV) ?_;rintro ej ed e9 ci ⟨H,bf,rfl,d5,b7,rfl⟩ _;have a5:Bag _ [s.arr bf,Bjq fa fc F]:=⟨_,Src.at ab,b2⟩;refine G.B 75 3 24 (.agg #[.int .i64 0,.int .i64 0,.int .i64 0]) [.agg #[.int .i64 a,.int .i64 (1:Nat),.int .i64 H]] (Kg (a,1,H)) ?_;intro ca ee cj c7;obtain⟨bi,ae,a7⟩:=a5.focus 1 rfl;rw[Acb]at ae;refine G.append 75 3 24 (.agg #[.int .i64 0,.int .i64 0,.int .i64 0]) bi (F.map Cm) [.agg #[.int .i64 a,.int .i64 (1:Nat),.int .i64 H]] (.slice fa F.length fc) ca 0 1 1 kV rfl rfl oV ae c7 (Kg (a,1,H)) rfl oV (by simp[Ai];omega) (by simp[Ai];omega) ?_;intro en bk O;rw[show F.map Cm++[.agg #[.int .i64 a,.int .i64 (1:Nat),.int .i64 H]]=(F++[(a,1,H)]).map Cm by rw[A1i];rfl]at O;obtain⟨ay,b0,rfl⟩:=O.shape;rw[A03]at O⊢;have K:=a7 (Bjq ay b0 (F++[(a,1,H)])) bk O;simp only[A2j,A2p]at K;exact G.i a<|G.b (Q (a+1,bf,F++[(a,1,H)],(ay,b0),lab) _ _ _ cV ((((l4.trans E).trans ak).trans ci).trans cj) ⟨dV,b7,hF.put av (.inl ⟨rfl,rfl,oV⟩),K⟩ dV)
    exact G.gF an 0<|G.eF (2:Nat) 3<|G.i a<|G.b (Q (a+1,be,F,(fa,fc),lab) _ _ _ cV ((l4.trans E).trans ak) ⟨dV,ad,hF.skip,a4⟩ dV)
   refine G.lF lab 0<|G.eT (2:Nat) 2 ?_;obtain⟨f2,bt,aa⟩:=m;obtain⟨rfl,W⟩:=Src.split bt;refine G.D call10 (Src.apart W) (I4 (n:=4) (h.mono ax) a1 oV oV) ?_;rintro ei ec e8 ak ⟨an,be,rfl,d4,ad,rfl⟩ _;have a4:Bag _ [s.arr be,Bjq fa fc F]:=⟨_,Src.at W,aa⟩;by_cases dx:0<an
   ·refine G.gT an 0 ?_;have ab:=W;have b2:=aa;refine G.D call10 (Src.apart ab) (I4 (n:=2) (h.mono (ax.trans ak)) ad oV oV) ?_;rintro ej ed e9 ci ⟨H,bf,rfl,d5,b7,rfl⟩ _;have a5:Bag _ [s.arr bf,Bjq fa fc F]:=⟨_,Src.at ab,b2⟩;refine G.B 75 3 24 (.agg #[.int .i64 0,.int .i64 0,.int .i64 0]) [.agg #[.int .i64 a,.int .i64 (1:Nat),.int .i64 H]] (Kg (a,1,H)) ?_;intro ca ee cj c7;obtain⟨bi,ae,a7⟩:=a5.focus 1 rfl;rw[Acb]at ae;refine G.append 75 3 24 (.agg #[.int .i64 0,.int .i64 0,.int .i64 0]) bi (F.map Cm) [.agg #[.int .i64 a,.int .i64 (1:Nat),.int .i64 H]] (.slice fa F.length fc) ca 0 1 1 kV rfl rfl oV ae c7 (Kg (a,1,H)) rfl oV (by simp[Ai];omega) (by simp[Ai];omega) ?_;intro en bk O;rw[show F.map Cm++[.agg #[.int .i64 a,.int .i64 (1:Nat),.int .i64 H]]=(F++[(a,1,H)]).map Cm by rw[A1i];rfl]at O;obtain⟨ay,b0,rfl⟩:=O.shape;rw[A03]at O⊢;have K:=a7 (Bjq ay b0 (F++[(a,1,H)])) bk O;simp only[A2j,A2p]at K;exact G.i a<|G.b (Q (a+1,bf,F++[(a,1,H)],(ay,b0),lab) _ _ _ cV (((l4.trans ak).trans ci).trans cj) ⟨dV,b7,hF.put av (.inl ⟨rfl,rfl,oV⟩),K⟩ dV)
   exact G.gF an 0<|G.eF (2:Nat) 3<|G.i a<|G.b (Q (a+1,be,F,(fa,fc),lab) _ _ _ cV (l4.trans ak) ⟨dV,ad,hF.skip,a4⟩ dV)
  refine G.eF kd 2<|G.eF kd 2 ?_;by_cases cx:kd=3
  ·subst cx;refine G.eT (3:Nat) 3 ?_;obtain⟨n5,X,au⟩:=m;obtain⟨rfl,ac⟩:=Src.split X;refine G.D call10 (Src.apart ac) (I4 (n:=4) (h.mono ax) a1 oV oV) ?_;rintro v5 u5 m5 E ⟨r5,k5,rfl,dz,a2,rfl⟩ _;have t:Bag _ [s.arr k5,Bjq fa fc F]:=⟨_,Src.at ac,au⟩;by_cases d3:0<r5
   ·refine G.gT r5 0<|G.B 75 3 24 (.agg #[.int .i64 0,.int .i64 0,.int .i64 0]) [.agg #[.int .i64 a,.int .i64 (2:Nat),.int .i64 (0:Nat)]] (Kg (a,2,0)) ?_;intro g6 u6 l6 e6;obtain⟨cm,bd,ai⟩:=t.focus 1 rfl;rw[Acb]at bd;refine G.append 75 3 24 (.agg #[.int .i64 0,.int .i64 0,.int .i64 0]) cm (F.map Cm) [.agg #[.int .i64 a,.int .i64 (2:Nat),.int .i64 (0:Nat)]] (.slice fa F.length fc) g6 0 1 1 kV rfl rfl oV bd e6 (Kg (a,2,0)) rfl oV (by simp[Ai];omega) (by simp[Ai];omega) ?_;intro w6 cn a9;rw[show F.map Cm++[.agg #[.int .i64 a,.int .i64 (2:Nat),.int .i64 (0:Nat)]]=(F++[(a,2,0)]).map Cm by rw[A1i];rfl]at a9;obtain⟨a6,c6,rfl⟩:=a9.shape;rw[A03]at a9⊢;have V:=ai (Bjq a6 c6 (F++[(a,2,0)])) cn a9;simp only[A2j,A2p]at V;exact G.i a<|G.b (Q (a+1,k5,F++[(a,2,0)],(a6,c6),lab) _ _ _ cV ((l4.trans E).trans l6) ⟨dV,a2,hF.put av (.inr ⟨rfl,rfl,rfl⟩),V⟩ dV)
   exact G.gF r5 0<|G.i a<|G.b (Q (a+1,k5,F,(fa,fc),lab) _ _ _ cV (l4.trans E) ⟨dV,a2,hF.skip,t⟩ dV)
  exact G.eF kd 3<|G.i a<|G.b (Q (a+1,k3,F,(fa,fc),lab) _ _ _ cV l4 ⟨dV,a1,hF.skip,m⟩ dV)
 obtain rfl:a=T.length:=oV;refine G.lF T.length T.length ?_;obtain⟨n5,X,au⟩:=m;obtain⟨rfl,ac⟩:=Src.split X;refine G.giveP (ma:=n5) (sm:=s.M k3) kV rfl (Src.apart ac) (s.h0 k k3) ?_;intro u5 E dv;have dq:Ac u5 (.slice fa F.length fc) 3 (F.map Cm):=au.list dv 0 rfl;exact G.gF F.length 8<|G.r (.agg #[.slice ta T.length tc,.slice ra R.length rc,.slice fa F.length fc,.int .i64 lab]) ⟨T,R,F,lab,k3,⟨_,_,_,_,_,_,rfl,cr.mono (l4.trans E),dr.mono (l4.trans E),dq⟩,Aw6 hT.toTOK (hR.mono ((l3.trans l4).trans E)) hF cd oV oV,ds,a1,rfl,hT.toTOK,hT.lem,A04 hF.len hT.lem⟩
def Bmb (d:Nat)(m:1<=d)(t:d<=6)(h:J0 u s ts)(P:k<=s.n) :
 Ag prog 7 [s.ptr,.int .i64 d] u (s.M k) fun v j z=>∃ (T:List (List UInt8×Nat)) (R:List Br) (F:List Al) (lab:Int) (g:Nat),H5 j v T R F lab/\Bl j T R F lab/\T.length<=6/\g<=s.n/\z=s.M g:=fun w O =>
 Calls.mono (Ags d m t h P w O) fun e w' ⟨v,j,z,C,E,H,T,R,F,lab,g,I,J,K,L,N,_⟩=>⟨v,j,z,C,E,H,T,R,F,lab,g,I,J,K,L,N⟩
end
end Go.Proofs.YtnjlhkppabfebaaGreatDoor
