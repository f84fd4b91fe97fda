/- Parts of one proof, joined by a program. -/
import Derived.Test.YtijchbjkdllolaaGreatDoorP14
set_option linter.defProp false
set_option linter.unusedVariables false
set_option linter.unusedSimpArgs false
set_option linter.unusedSectionVars false
set_option maxHeartbeats 16000000
namespace Go.Proofs.YtijchbjkdllolaaGreatDoor
open Go.Proofs.Tryz
open Go.RowKit Go.MapKept
section
def Bbv {b:Int}(n:b.natAbs<=128){q:Rat}(h:SmR q):SmW (q+(b:Rat)):=by
 have e:=Bbz q;have t:=A3f oV h.den;have E:=h.num;obtain⟨j,m⟩:=Acs (q:=q+(b:Rat)) (z:=q.num+b*(q.den:Int)) (D:=q.den) (by rw[A28,A0v,Az2,<-e];grind) q.den_pos;refine⟨Ayv m (Ayv (Int.natAbs_add_le _ _) ?_),A7g j h.den⟩;rw[A15,Az6];have:=A1u n t;omega
def Bb7 {q:Rat}(h:SmR q):SmW (q*3):=by
 have j:=Bbz q;have t:=h.num;have e:((3:Int):Rat)=3:=jV
 obtain⟨m,n⟩:=Acs (q:=q*3) (z:=q.num*3) (D:=q.den) (by rw[A0v,<-j,e];grind) q.den_pos;exact⟨Ayv n oV,A7g m h.den⟩
noncomputable def mvS (l:Nat)(g:Rat->Rat)(ss:List (List UInt8)):List (List UInt8):=if ss.getD l [] = [] then ss else ss.set l (Ae (g (Fa (ss.getD l []))))
def Bbu (l:Nat)(g:Rat->Rat)(ss:List (List UInt8)):(mvS l g ss).length=ss.length:=by unfold mvS;split<;>simp
def Bdl {l a:Nat}(g:Rat->Rat)(ss:List (List UInt8))(h:a≠l):(mvS l g ss).getD a []=ss.getD a []:=by
 unfold mvS;split
 ·rfl
 rw[Ays,A37 (fun e=>h e.symm),Ays]
def Bbo {α:Type}{p q:α->Bool}:∀ {F:List α},(∀ f∈F,p f=q f)->F.any p=F.any q
 |[],_=>rfl
 |f::F,h=>by rw[List.any_cons,List.any_cons,h f mV,Bbo fun x e=>h x (by simp[e])]
def Bbf {α β:Type}{f g:α->Option β}:∀ {l:List α},(∀ x∈l,f x=g x)->l.filterMap f=l.filterMap g
 |[],_=>rfl
 |x::l,h=>by rw[List.filterMap_cons,List.filterMap_cons,h x mV,Bbf fun y e=>h y (by simp[e])]
section
variable {u:PH} {T:List (List UInt8×Nat)} {R:List Bu} {F:List Am} {l:Nat} {ss:List (List UInt8)} {g:Rat->Rat}
def Bbm (ok:Bt u T R F (l:Int))(L:Cd T ss)(J:∀ (i:Nat) (x:List UInt8×Nat) (t:List UInt8),T[i]?=some x->ss[i]?=some t->Yd x.2 t):l<ss.length/\(ss.getD l [] = []\/∃ q,SmR q/\ss.getD l []=Ae q/\Fa (ss.getD l [])=q):=by
 obtain⟨n,E⟩:=ok.l2 l rfl;have K:=(Ayu.1 E).1;have m:=L.len;have j:l<ss.length:=oV;have I:ss[l]?=some ss[l]:=Ayr j;have N:=J l _ _ E I;refine⟨j,?_⟩;rw[Ays,I];simp only[A07];rcases N with h|⟨h,_⟩|⟨h,_⟩|⟨_,q,H,e⟩
 ·exact .inl h
 ·simp at h
 ·simp at h
 exact .inr ⟨q,H,e,by rw[e];exact Alq H.w⟩
def Bbd (q:Rat):Ae q≠[]:=by
 have hi:∀ z:Int,Lib.itoa z≠[]:=fun z e=>by
  unfold Lib.itoa at e;split at e
  ·cases e
  have:=congrArg List.length e;rw[Lib.decDigits_length]at this;have h:1<=Lib.nDigits z.toNat:=by unfold Lib.nDigits;split<;>omega
  simp at this;omega
 unfold Ae;split
 ·exact hi _
 intro e;simp at e
def Bcu (ok:Bt u T R F (l:Int))(j:Cd T ss)(I:∀ (i:Nat) (x:List UInt8×Nat) (t:List UInt8),T[i]?=some x->ss[i]?=some t->Yd x.2 t)(J:∀ q,SmR q->SmW (g q)):Cd T (mvS l g ss):=by
 obtain⟨n,L⟩:=ok.l2 l rfl;obtain⟨K,O|⟨q,N,E,H⟩⟩:=Bbm ok j I
 ·unfold mvS;rw[if_pos O];exact j
 unfold mvS;rw[if_neg (by rw[E];exact Bbd q),H];refine⟨by rw[A1o];exact j.len,fun i x t m e=>?_⟩;by_cases h:l=i
 ·subst h;rw[A12 K]at e;rw[L]at m;cases m;cases e;exact .inr (.inr (.inr ⟨rfl,g q,J q N,rfl⟩))
 rw[A37 h]at e;exact j.val i x t m e
def Bdr (hF:C5 T F (l:Int))(ok:Bt u T R F (l:Int))(N:Cd T ss)(J:∀ (i:Nat) (x:List UInt8×Nat) (t:List UInt8),T[i]?=some x->ss[i]?=some t->Yd x.2 t):Mo F (l:Int) (mvS l g ss)=Mo F (l:Int) ss/\Ct F (mvS l g ss) F.length=Ct F ss F.length:=by
 have m:∀ f∈F,(mvS l g ss).getD f.1 []=ss.getD f.1 []:=fun f n=>by
  obtain⟨_,_,_,_,h⟩:=hF.ok f n;exact Bdl g ss (fun e=>h (by rw[e]))
 have E:((mvS l g ss).getD l []).isEmpty=(ss.getD l []).isEmpty:=by
  obtain⟨K,O|⟨q,V,H,U⟩⟩:=Bbm ok N J
  ·unfold mvS;rw[if_pos O]
  have j:ss.getD l []≠[]:=by rw[H];exact Bbd q
  unfold mvS;rw[if_neg j,Ays,A12 K];simp only[A07];have I:=Bbd (g (Fa (ss.getD l [])));rw[List.isEmpty_eq_false_iff.2 j,List.isEmpty_eq_false_iff.2 I]
 constructor
 ·unfold Mo;rw[show ((l:Int)).toNat=l from rfl,E,Bbo fun f n=>?_];unfold Km;rw[m f n]
 unfold Ct;refine Bbf fun x Q=>?_;have L:x.1∈F:=by
  have j:=A0o Q;rw[List.mem_zipIdx_iff_getElem?]at j;exact Ay9 j
 unfold Mj;rw[m x.1 L]
structure MvC (α β:Rat)(C C1:CF):Prop where
 c:C1.c=C.c
 s:∀ p:Par,0<=p.1->C1.s p=C.s p
 t:∀ p q:Par,0<=p.1->0<=q.1->C1.t (A2 p q)=C.t (A2 p q)
 l:C1.s B7=α*C.s B7+β*C.c
 r:∀ p:Par,0<=p.1->C1.t (A2 B7 p)=α*C.t (A2 B7 p)+β*C.s p
def MvC.add {α β:Rat}{C C1 H e:CF}(h:MvC α β C C1)(k:MvC α β H e)(w:Rat):MvC α β (C.add (H.scale w)) (C1.add (e.scale w)) where
 c:=by show C1.c+e.c*w=C.c+H.c*w;rw[h.c,k.c]
 s:=fun p hp=>by show C1.s p+e.s p*w=C.s p+H.s p*w;rw[h.s p hp,k.s p hp]
 t:=fun p q hp j=>by show C1.t _+e.t _*w=C.t _+H.t _*w;rw[h.t p q hp j,k.t p q hp j]
 l:=by show C1.s B7+e.s B7*w=α*(C.s B7+H.s B7*w)+β*(C.c+H.c*w);rw[h.l,k.l];grind
 r:=fun p hp=>by show C1.t _+e.t _*w=α*(C.t _+H.t _*w)+β*(C.s p+H.s p*w);rw[h.r p hp,k.r p hp];grind
def Bdv {α β:Rat}(ok:Bt u T R F (l:Int))(H:Cd T ss)(Q:∀ (i:Nat) (x:List UInt8×Nat) (t:List UInt8),T[i]?=some x->ss[i]?=some t->Yd x.2 t)(hg:∀ q,SmR q->SmW (g q))(ha:∀ q,g q=α*q+β):MvC α β (cfT F (l:Int) ss) (cfT F (l:Int) (mvS l g ss)):=by
 have j:=Bcu ok H Q hg;obtain⟨J,Y⟩:=Bdr (g:=g) ok.feat ok H Q;have a0:=H.len;have V:=j.len;have I:∀ h:Nat,(l:Int)=(h:Int)->h < T.length:=fun h e=>by
  obtain⟨n,hn⟩:=ok.l2 h e;exact (Ayu.1 hn).1
 rcases Lr ok.feat H ok.l1 (fun h e=>by have:=I h e;omega) with ⟨hc,o⟩|⟨hc,o⟩
 ·rcases Lr ok.feat j ok.l1 (fun h e=>by have:=I h e;omega) with ⟨hc',o1⟩|⟨hc',_⟩
  ·obtain⟨K,hw|⟨q,X,e1,e2⟩⟩:=Bbm ok H Q
   ·exfalso;have:Mo F (l:Int) ss=false:=by
     unfold Mo;rw[show ((l:Int)).toNat=l from rfl,hw];simp
    rw[this]at hc;cases hc
   have E:ss.getD l []≠[]:=by rw[e1];exact Bbd q
   have lab:∀ (O:List (List UInt8)),Cd T O->Mo F (l:Int) O=true->∀ w,O[l]?=some w->w≠[]->(cfT F (l:Int) O).s B7=Fa w:=fun O h2 U w Z W=>by
    have a1:=h2.len;refine Xn ok.feat h2 ok.l1 (fun h e=>by have:=I h e;omega) U (a:=l) ?_;rw[F1 (w:=w) Z];unfold Gd Pw;rw[if_pos rfl,if_neg W];rfl
   have L:(cfT F (l:Int) ss).s B7=q:=by
    rw[lab ss H hc (ss.getD l []) (by rw[Ays,Ayr K];rfl) E,e2]
   have N:(cfT F (l:Int) (mvS l g ss)).s B7=g q:=by
    rw[lab _ j hc' (Ae (g q)) (by unfold mvS;rw[if_neg E,e2,A12 K]) (Bbd _)];exact Alq (hg q X)
   have m:∀ p:Par,0<=p.1->(cfT F (l:Int) (mvS l g ss)).s p=(cfT F (l:Int) ss).s p:=fun p hp=>by
    rw[Ata ok.feat H ok.l1 (fun h e=>by have:=I h e;omega) hc hp,Ata ok.feat j ok.l1 (fun h e=>by have:=I h e;omega) hc' hp,Y]
   refine⟨by rw[o.c,o1.c],m,fun p q hp X=>by rw[o.t,o1.t,m p hp,m q X],?_,fun p hp=>?_⟩
   ·rw[N,L,o.c,ha];grind
   rw[o.t,o1.t,N,L,m p hp,ha];grind
  rw[J,hc]at hc';cases hc'
 rcases Lr ok.feat j ok.l1 (fun h e=>by have:=I h e;omega) with ⟨hc',_⟩|⟨hc',o1⟩
 ·rw[J,hc]at hc';cases hc'
 exact⟨by rw[o.c,o1.c],fun p _=>by rw[o.s,o1.s],fun p q _ _=>by rw[o.t,o1.t],by rw[o.s,o1.s,o.c];grind,fun p _=>by rw[o.t,o1.t,o.s];grind⟩
noncomputable def mvL (l:Nat)(g:Rat->Rat)(L:List Fx):List Fx:=L.map fun y=>(mvS l g y.1,y.2)
def Bdk {α β:Rat}(ok:Bt u T R F (l:Int))(t:∀ q,SmR q->SmW (g q))(n:∀ q,g q=α*q+β):∀ {L:List Fx},(∀ y∈L,Cd T y.1)->W9 T L->MvC α β (Ce F (l:Int) L) (Ce F (l:Int) (mvL l g L)):=by
 intro L;induction L using J0 with
 |h0=>exact fun _ _=>⟨rfl,fun _ _=>rfl,fun _ _ _ _=>rfl,by show (0:Rat)=α*0+β*0;grind,fun _ _=>by show (0:Rat)=α*0+β*0;grind⟩
 |h1 L y ih =>
  intro h j;have m:=ih (fun z e=>h z (A0x _ e)) (fun z e=>j z (A0x _ e));unfold mvL at m⊢;rw[Aza,Azu,A3n,Er,Er];exact m.add (Bdv ok (h y mV) (j y mV) t n) _
end
def Bcy {F:List Am}{lab:Int}{L j:List Fx}(h:L.map (fun y=>(y.1,y.2.1))=j.map (fun y=>(y.1,y.2.1))):Ce F lab L=Ce F lab j:=by
 have e:∀ L:List Fx,Ce F lab L=(L.map (fun y=>(y.1,y.2.1))).foldl (fun C z=>C.add ((cfT F lab z.1).scale (z.2:Rat))) (CF.num 0):=fun L=>by
  unfold Ce;rw[List.foldl_map]
 rw[e,e,h]
section
variable {P:List Par} {C C1:CF} {α β q:Rat} {b:Option Par->Rat}
def MvC.norm (h:MvC α β C C1)(hp:∀ p∈P,0<=p.1)(Q:Fj P C q b):Fj P C1 q (fun e=>α*b e+match e with|none=>β|some _=>0):=by
 have j:∀ e∈Ah P,∀ p,e=some p->0<=p.1:=fun e m p H=>by
  subst H;unfold Ah at m;rcases Ay7.1 m with h|h
  ·cases h
  obtain⟨x,U,I⟩:=Ayx.1 h;cases I;exact hp _ U
 have n:∀ e∈Ah P,∀ f∈Ah P,Ar C1 e f=Ar C e f:=fun e m f E=>by
  cases e with
  |none=>cases f with
   |none=>exact h.c
   |some p=>exact h.s p (j _ E p rfl)
  |some p=>cases f with
   |none=>exact h.s p (j _ m p rfl)
   |some p'=>exact h.t p p' (j _ m p rfl) (j _ E p' rfl)
 intro e m;have J:=Q e m;have K:Ao (fun f=>Ar C1 e f*(α*b f+match f with|none=>β|some _=>0)) (Ah P)=α*Ao (fun f=>Ar C e f*b f) (Ah P)+β*Ar C e none:=by
  have L:Ao (fun f=>Ar C1 e f*(α*b f+match f with|none=>β|some _=>0)) (Ah P)=Ao (fun f=>α*(Ar C e f*b f)+Ar C e f*(match f with|none=>β|some _=>0)) (Ah P):=A7 fun f E=>by rw[n e m f E];grind
  rw[L,Ea,Dp,O0 (f:=fun f=>Ar C e f*(match f with|none=>β|some _=>0))];simp only;rw[Ca fun p _=>A7w _];grind
 have N:Hc q (fun e=>α*b e+match e with|none=>β|some _=>0) e=α*Hc q b e:=by
  cases e with
  |none=>show (0:Rat)=α*0;grind
  |some p=>show q*(α*b (some p)+0)=α*(q*b (some p));grind
 have O:Au C1 e=α*Au C e+β*Ar C e none:=by
  cases e with
  |none=>exact h.l
  |some p=>exact h.r p (j _ m p rfl)
 rw[K,N,O,<-J];grind
def MvC.prm {F:List Am}(h:MvC α β C C1)(e:Iy F C1 P):Iy F C P:=⟨e.1,fun p=>by
 have:=e.2 p;rw[this];refine or_congr Iff.rfl ?_;constructor
 ·rintro⟨h1,i,f,h2,h3⟩;exact⟨by rw[<-h.s p oV];exact h1,i,f,h2,h3⟩
 rintro⟨h1,i,f,h2,h3⟩;exact⟨by rw[h.s p oV];exact h1,i,f,h2,h3⟩⟩
def Bbn {f:Rat->Rat}(h:f 0=0)(p:Par):∀ (P:List Par) (e:List Rat),Ap p (P.zip (e.map f))=f (Ap p (P.zip e))
 |[],e=>by simp[Ap,h]
 |a::P,[]=>by simp[Ap,h]
 |a::P,x::e=>by
  rw[Azu,List.zip_cons_cons,List.zip_cons_cons];unfold Ap;split
  ·rfl
  exact Bbn h p P e
end
end
section
variable {a:Option Addr}{c:Nat}{y:Fx}
structure MvR (u:PH)(l:Nat)(g:Rat->Rat)(i:Nat)(L L1:List Fx):Prop where
 len:L1.length=L.length
 at':∀ (j:Nat) (y:Fx),L[j]?=some y->∃ y1:Fx,L1[j]?=some y1/\y1.1=(if j<i then mvS l g y.1 else y.1)/\y1.2.1=y.2.1
 row:∀ y∈L1,Ac u (.slice y.2.2.1 y.1.length y.2.2.2) 1 (y.1.map nmV)
def MvR.mono {u u':PH}{l i:Nat}{g:Rat->Rat}{L L1:List Fx}(h:MvR u l g i L L1)(hl:PH.le u u'):MvR u' l g i L L1:=⟨h.len,h.at',fun y hy=>(h.row y hy).mono hl⟩
def MvR.same {u:PH}{l i:Nat}{g:Rat->Rat}{L L1:List Fx}(h:MvR u l g i L L1)(I:L[i]?=some y)(h0:y.1.getD l [] = []):MvR u l g (i+1) L L1:=⟨h.len,fun j z n=>by
 obtain⟨y1,t,E,H⟩:=h.at' j z n;refine⟨y1,t,?_,H⟩;rw[E];by_cases e:j<i
 ·rw[if_pos e,if_pos oV]
 by_cases m:j=i
 ·subst m;rw[I]at n;cases n;rw[if_neg e,if_pos oV];unfold mvS;rw[if_pos h0]
 rw[if_neg e,if_neg oV],h.row⟩
def MvR.next {u:PH}{l i:Nat}{g:Rat->Rat}{L L1:List Fx}(h:MvR u l g i L L1)(N:L[i]?=some y)(K:Ac u (.slice a (mvS l g y.1).length c) 1 ((mvS l g y.1).map nmV)):MvR u l g (i+1) L (L1.set i (mvS l g y.1,y.2.1,a,c)):=⟨by rw[A1o,h.len],fun j z m=>by
 obtain⟨y1,E,I,J⟩:=h.at' j z m;have t:=(Ayu.1 E).1;by_cases n:j=i
 ·subst n;rw[N]at m;cases m;exact⟨_,A12 t,by rw[if_pos oV],rfl⟩
 ·refine⟨y1,by rw[A37 (fun e=>n e.symm)];exact E,?_,J⟩;rw[I];by_cases H:j<i
  ·rw[if_pos H,if_pos oV]
  rw[if_neg H,if_neg oV],fun z m=>by
 rcases A5i m with m|rfl
 ·exact h.row z m
 exact K⟩
def MvR.keys {u:PH}{l:Nat}{g:Rat->Rat}{L L1:List Fx}(h:MvR u l g L.length L L1):L1.map (fun y=>(y.1,y.2.1))=(mvL l g L).map (fun y=>(y.1,y.2.1)):=by
 refine A2f fun j=>?_;unfold mvL;rw[A6z,Ayy,Ayy];rcases hj:L[j]? with _|y
 ·have:L1[j]?=none:=Azo (by rw[h.len];exact List.getElem?_eq_none_iff.1 hj);rw[this];rfl
 obtain⟨y1,m,e,n⟩:=h.at' j y hj;have:=(Ayu.1 hj).1;rw[if_pos this]at e;rw[m];show some (y1.1,y1.2.1)=some (mvS l g y.1,y.2.1);rw[e,n]
section
variable {u:PH} {T:List (List UInt8×Nat)} {R:List Bu} {F:List Am} {l:Nat} {g:Rat->Rat} {L L1:List Fx}
def MvR.wok (h:MvR u l g L.length L L1)(ok:Bt u T R F (l:Int))(Q:WOK u T L)(N:W9 T L)(O:∀ q,SmR q->SmW (g q)):WOK u T L1:=fun y1 m=>by
 obtain⟨j,H,rfl⟩:=Az9 m;have e:j<L.length:=by rw[<-h.len];exact H
 obtain⟨y1,n,t,E⟩:=h.at' j _ (Ayr e);rw[Ayr H]at n;cases n;rw[if_pos e]at t;obtain⟨_,I,J,K⟩:=Q _ (Ay8 e);refine⟨h.row _ m,?_,by rw[E];exact J,by rw[E];exact K⟩;rw[t];exact Bcu ok I (N _ (Ay8 e)) O
def MvR.mvc {α β:Rat}(h:MvR u l g L.length L L1)(ok:Bt u T R F (l:Int))(n:WOK u T L)(e:W9 T L)(m:∀ q,SmR q->SmW (g q))(j:∀ q,g q=α*q+β):MvC α β (Ce F (l:Int) L) (Ce F (l:Int) L1):=by
 rw[Bcy h.keys];exact Bdk ok m j (fun y t=>(n y t).2.1) e
end
section
variable {P:List Par} {C C1:CF} {α β q:Rat}
def MvC.model (h:MvC α β C C1)(hp:∀ p∈P,0<=p.1)(H:P.Nodup){m0 I:Rat}{n j:List Rat}(O:n.length=P.length)(t:j.length=P.length)(Q:Fj P C q (cfE m0 (P.zip n)))(E:Fj P C1 q (cfE I (P.zip j)))(U:0<q)(K:0<C.c)(m:∀ z,0<=Ba9 z P C1) :
 I=α*m0+β/\j=n.map (α * ·):=by
 have J:=h.norm hp Q;refine Y3 H t (by rw[Ayt];exact O) fun e N=>?_;rw[Ym E J U (by rw[h.c];exact K) m e N];cases e with
 |none=>rfl
 |some p =>
  show α*Ap p (P.zip n)+0=Ap p (P.zip (n.map (α * ·)));rw[Bbn (A7w α)];grind
end
def Bcs {m:PH}{g o n c w:Nat}(h:ElP m g o (.agg #[.slice a n c,.int .i64 w])):ElP m g (o+0) (.slice a n c):=fun i x e=>by
 match i,e with
 |0,e=>exact h 0 x e
def Bcd {u:PH}{g o:Nat}{x:Par×Rat}(h:ElP u g o (As x)):ElP u g (o+2) (.string (mkS (Ae x.2))):=fun i y e=>by
 match i,e with
 |0,e=>exact h 2 y e
def Bci {c i l w:Nat}{g:Rat->Rat}{L:List Fx}{ss:List (List UInt8)}{p:Option Addr×Nat}:Aq9 a c (L.set i (ss,w,p))=Aq9 a c (L.set i (mvS l g ss,w,p)):=by
 unfold Aq9;have e:F3 (ss,w,p)=F3 (mvS l g ss,w,p):=by unfold F3;rw[Bbu]
 rw[A1o,A1o,A1d,A1d,e]
def Bdg {u:PH}{v:Value}{ts:List Int}{b:Int}(e4:-128<=b)(e7:b<=127)(ht:Js u)(hv:Ac u v 1 (Dj ts))(d8:∀ t∈ts,-9223372036854775808<=t)(d0:∀ t∈ts,t<=9223372036854775807) :
 Fn0 prog 4 [v,.int .i8 b] u fun v' _=>v'=.bool true:=by
 obtain⟨a,c,rfl⟩:=hv.opn;rw[B4]at hv⊢;refine Fn0.o func4 ?_;by_cases dy:400<ts.length
 ·refine G.gT ts.length 400<|G.c call8 (Jw ht) ?_;rintro v1 u1 l1 rfl;exact G.r (.bool true) ⟨rfl,rfl⟩
 refine G.gF ts.length 400<|G.callO _ _ kV call9 (Abz hv oV d8 d0) ?_;rintro v1 u1 m1 l1 ⟨s,rfl,rfl,hs⟩ _;rw[Bw];refine G.A call10 (Ab2 hs (Azh _)) ?_;rintro v2 u2 m2 l2 ⟨T,R,F,lab,L,xv,lv,cv,k2,rfl,w,c4,rfl⟩ _;rw[Bw];have ah:=ht.mono (l1.trans l2);have d7:=w.l6;have hT:=w.wok.tup;obtain⟨k,ae⟩:=Nv w.sch w.ok w.t8 hT oV w.f5 w.lab0 w.cof oV;have af:=w.lab0;obtain⟨l,rfl⟩:∃ l:Nat,lab=(l:Int):=⟨lab.toNat,oV⟩;obtain⟨xa,xc,xb,xd,xe,xf,rfl,_⟩:=id w.sch;obtain⟨a1,n1,c1,a2,n2,c2,rfl⟩:=id w.cof.opn;have U:=w.rows;obtain⟨la,lc,rfl⟩:=U.opn;rw[Ayt]at U⊢;refine G.A call13 (Nj (hs.mono l2) c4) ?_;rintro v3 u3 m3 l3 ⟨q,k3,rfl,hq,e9,rfl⟩ _;rw[Bw];refine G.drop PH.mt kV (PH.mt_le _)<|G.c call24 (Oy (ah.mono l3) (ae.mono l3) hq.w (Agu w.ok w.t8 hT d7 hq)) ?_;rintro v4 u4 l4 (⟨e,rfl,he⟩|⟨h0,P,mv,m0,qs,hPL,hP11,hql,rfl,hmv,hm,hn⟩)
 ·refine G.nT' e 0 (by rcases he with ⟨rfl,_⟩|⟨rfl,_⟩<;>decide) ?_
  refine G.c call8 (Jw (ah.mono (l3.trans l4))) ?_;rintro v5 u5 l5 rfl;exact G.r (.bool true) ⟨rfl,rfl⟩
 obtain⟨ma,mc,rfl,c7⟩:=id hmv.val;refine G.nF 0 0 ?_;have a4:=l3.trans l4;have ec:(P.zip qs).length=P.length:=by rw[List.length_zip];omega
 by_cases h6:6<P.length
 ·refine G.gT ((P.zip qs).length:Int) 6<|G.c call8 (Jw (ah.mono a4)) ?_;rintro v5 u5 l5 rfl;exact G.r (.bool true) ⟨rfl,rfl⟩
 refine G.gF ((P.zip qs).length:Int) 6<|G.appendL 56 2 32 (.agg #[.slice none 0 0,.int .i64 0]) PH.mt [] (L.map F3) (.slice none 0 0) la L.length lc kV rfl rfl oV (Af.nil _ _ _) (U.mono a4) (Acw L) gV gV ?_;intro v5 m5 aq;rw[A00]at aq;obtain⟨a5,c5,rfl⟩:=aq.shape;refine G.appendL 56 2 32 (.agg #[.slice none 0 0,.int .i64 0]) m5 [] (L.map F3) (.slice none 0 0) la L.length lc kV rfl rfl oV (Af.nil _ _ _) (U.mono a4) (Acw L) gV gV ?_;intro v6 m6 ar;rw[A00]at ar;obtain⟨a6,c6,rfl⟩:=ar.shape;rw[Ayt]at aq ar⊢;have bh:Bag m6 [Aq9 a6 c6 L,Aq9 a5 c5 L]:=⟨m5,ar,PH.mt,aq,trivial⟩;have Y:=w.wok;have h9:=w.w9;have ag:=w.sch;have ok:=w.ok;have cc:∀ {i:Nat} {y:Fx},L[i]?=some y->l<y.1.length/\(y.1.getD l [] = []\/∃ q,SmR q/\y.1.getD l []=Ae q/\Fa (y.1.getD l [])=q):=fun {i y} Q=>Bbm ok (Y y (Ay9 Q)).2.1 (h9 y (Ay9 Q));have Z:b.natAbs<=128:=oV
 have cb:Tx (b:Rat):=by
  have:=(Bbv Z (q:=0) ⟨jV,jV⟩).tx;rwa[A7v]at this
 have bk:Tx 3:=(show SmR 3 from⟨jV,jV⟩).tx;refine G.l (ι:=Nat×List Fx×List Fx) (fun i=>[(1,.v (.int .i8 b)),(6,.p 4006 0),(9,tV (Ae q)),(10,.p 6007 0),(12,sV a5 L.length c5),(13,sV a6 L.length c6),(69,sV la L.length lc),(70,iV L.length),(71,iV i.1)])
  (fun _=>[(4006,⟨30,[sV xa T.length xc,sV xb R.length xd,sV xe F.length xf,iV l]⟩),(6007,⟨44,[tV (Ae m0),sV ma (P.zip qs).length mc]⟩)])
  (fun i u' m'=>i.1<=L.length/\MvR u' l (· + (b:Rat)) i.1 L i.2.1/\MvR u' l (· * 3) i.1 L i.2.2/\Bag m' [Aq9 a6 c6 i.2.2,Aq9 a5 c5 i.2.1]) (fun i=>L.length-i.1) (0,L,L)
  ⟨Azh _,⟨rfl,fun j y Q=>⟨y,Q,by rw[if_neg (Nat.not_lt_zero _)],rfl⟩,fun y Q=>((Y.mono a4) y Q).1⟩,⟨rfl,fun j y Q=>⟨y,Q,by rw[if_neg (Nat.not_lt_zero _)],rfl⟩,fun y Q=>((Y.mono a4) y Q).1⟩,bh⟩ ?_
 rintro J ⟨i,L1,L2⟩ hJ u7 m7 l7 ⟨hi,N,O,aa⟩;simp only at hi N O aa hJ;have ao:=a4.trans l7;by_cases ab:i<L.length
 ·refine G.lT i L.length ?_;obtain⟨y,Q⟩:∃ y,L[i]?=some y:=⟨_,Ayr ab⟩;obtain⟨K,hw⟩:=cc Q;have ch:=Ay9 Q;obtain⟨bb,ob,rfl,eb⟩:=Ac.at' (U.mono ao) (j:=i) (e:=F3 y) (by simp[Q]);refine G.a bb ob L.length lc i 2 ab ?_;have az:=((Y.mono ao) y ch).1;have ca:y.1.length<=8:=by have:=(Y y ch).2.1.len;have:=w.t8;omega
  have V:y.1.getD l []≠[]->mvS l (· + (b:Rat)) y.1=y.1.set l (Ae (Fa (y.1.getD l [])+(b:Rat))):=fun h=>by unfold mvS;rw[if_neg h]
  have W:y.1.getD l []≠[]->mvS l (· * 3) y.1=y.1.set l (Ae (Fa (y.1.getD l [])*3)):=fun h=>by unfold mvS;rw[if_neg h]
  obtain⟨ss,wt,sa,sc⟩:=y;simp only at K hw az ca V W;refine G.lU (some 2) bb (ob+i*2) (.agg #[.slice sa ss.length sc,.int .i64 wt]) eb ?_;have cz:ss[l]?=some (ss.getD l []):=by rw[Ays,Ayr K];rfl
  obtain⟨sb,so,rfl,es⟩:=Ac.at' az (j:=l) (e:=nmV (ss.getD l [])) (by rw[Ayy,cz];rfl);refine G.a sb so ss.length sc l 1 K<|G.lU none sb (so+l*1) (.string (mkS (ss.getD l []))) es ?_;rcases hw with h0|⟨qv,au,ac,ax⟩
  ·exact G.q (ss.getD l []) [] h0<|G.i i<|G.b (hJ (i+1,L1,L2) _ _ _ cV l7 ⟨dV,N.same Q h0,O.same Q h0,aa⟩ dV)
  refine G.w (ss.getD l []) [] (by rw[ac];exact Bbd _) ?_;rw[ax,ac]at V W;have V:=V (Bbd _);have W:=W (Bbd _);rw[ac]at es;refine G.a sb so ss.length sc l 1 K<|G.lU none sb (so+l*1) (.string (mkS (Ae qv))) es<|G.convI .i8 .i64 .i8 b b kV (E9 oV oV)<|G.c call26 (Bbq (z:=b) oV oV) ?_;rintro v8 u8 l8 rfl;rw[show Lib.itoa b=Ae (b:Rat) from (Avw b).symm];have ta:=Bbv Z au;refine G.c call25 (Atf au.tx cb ta.tx) ?_;rintro v9 u9 l9 rfl;have ad:=l8.trans l9;refine G.a sb so ss.length sc l 1 K<|G.lU none sb (so+l*1) (.string (mkS (Ae qv))) (es.mono ad) ?_;have tm:=Bb7 au;refine G.c call27 (Bby au.tx bk tm.tx) ?_;rintro dv cr am rfl;have bo:=ad.trans am;refine G.appendL 9 1 16 (.string (mkS [])) m7 [] (ss.map nmV) (.slice none 0 0) (some ⟨sb,so,none⟩) ss.length sc kV rfl rfl oV (Af.nil _ _ _) (az.mono bo) (Hk ss) gV gV ?_;intro dw df a7;rw[A00]at a7;obtain⟨H,n,rfl⟩:=a7.ptr (by intro e;rw[A8s]at e;rw[e]at K;simp at K);rw[Ayt]at a7⊢;have b4:Bag df [Ahq (some ⟨H,0,none⟩) n ss,Aq9 a6 c6 L2,Aq9 a5 c5 L1]:=⟨m7,a7,aa⟩;obtain⟨⟨_,_,dl,dp⟩,e1,rfl,rfl⟩:∃ y1:Fx,L1[i]?=some y1/\ss=y1.1/\wt=y1.2.1:=by
   obtain⟨y1,e1,e2,e3⟩:=N.at' i _ Q;rw[if_neg (Nat.lt_irrefl _)]at e2;exact⟨y1,e1,e2.symm,e3.symm⟩
  obtain⟨g5,dz,e5⟩:=b4.ptr 2 rfl (by intro e;simp[Aq9]at e;rw[e]at e1;simp at e1);simp only[Aq9,Ayt,Value.slice.injEq,true_and]at e5;obtain⟨rfl,rfl⟩:=e5;refine G.a g5 0 L.length c5 i 2 ab<|G.f 56 g5 (0+i*2) 0 0 ?_;obtain⟨mx,X,m⟩:=b4.focus 2 rfl;rw[Ats,N.len]at X;refine G.storeE (t:=56) 2 0 mx (L1.map F3) g5 L.length c5 i (F3 (ss,wt,dl,dp)) (F3 (ss,wt,some ⟨H,0,none⟩,n)) (.slice (some ⟨H,0,none⟩) ss.length n) kV X (by rw[Ayy,e1];rfl) oV rfl rfl rfl ?_;intro dg ai;rw[<-A1d]at ai;have b5:=m (Aq9 (some ⟨g5,0,none⟩) c5 (L1.set i (ss,wt,some ⟨H,0,none⟩,n))) dg (by rw[Ats,A1o,N.len];exact ai);clear X ai m;refine G.a g5 0 L.length c5 i 2 ab<|G.f 56 g5 (0+i*2) 0 0 ?_;have ex:=b5.el 2 (x:=Aq9 (some ⟨g5,0,none⟩) c5 (L1.set i (ss,wt,some ⟨H,0,none⟩,n))) rfl rfl (j:=i) (e:=F3 (ss,wt,some ⟨H,0,none⟩,n)) (by
   show ((L1.set i _).map F3)[i]?=_;rw[Ayy,A12 (Ayu.1 e1).1];rfl)
  refine G.lM none g5 (0+i*2+0) (.slice (some ⟨H,0,none⟩) ss.length n) (Bcs ex)<|G.a H 0 ss.length n l 1 K ?_;obtain⟨mx,X,m⟩:=b5.focus 0 rfl;rw[Ajm]at X;refine G.storeA 1 mx (ss.map nmV) H ss.length n l (nmV (Ae (qv+(b:Rat)))) kV X (by rw[Ayt];exact K) rfl rfl ?_;intro dh aj;rw[<-A1d,<-V]at aj;have bx:=m (Ahq (some ⟨H,0,none⟩) n (mvS l (· + (b:Rat)) ss)) dh (by rw[Ajm,Bbu];exact aj);clear X aj m ex;obtain⟨b0,b9,a0⟩:=bx.take 0 rfl;rw[Ajm]at b9;refine G.give b0 _ _ kV b9 (fun g=>.inl rfl) ?_;intro ds an bu;have a0:Bag b0 [Aq9 a6 c6 L2,Aq9 (some ⟨g5,0,none⟩) c5 (L1.set i (ss,wt,some ⟨H,0,none⟩,n))]:=a0;have bt:=(N.mono (bo.trans an)).next (g:=(· + (b:Rat))) Q (a:=some ⟨H,0,none⟩) (c:=n) bu;rw[Bci (g:=(· + (b:Rat)))]at a0;have bp:=bo.trans an;refine G.appendL 9 1 16 (.string (mkS [])) b0 [] (ss.map nmV) (.slice none 0 0) (some ⟨sb,so,none⟩) ss.length sc kV rfl rfl oV (Af.nil _ _ _) (az.mono bp) (Hk ss) gV gV ?_;intro dx di a8;rw[A00]at a8;obtain⟨I,E,rfl⟩:=a8.ptr (by intro e;rw[A8s]at e;rw[e]at K;simp at K);rw[Ayt]at a8⊢;generalize L1.set i (mvS l (· + (b:Rat)) ss,wt,some ⟨H,0,none⟩,n)=L1' at bt a0;have b6:Bag di [Ahq (some ⟨I,0,none⟩) E ss,Aq9 a6 c6 L2,Aq9 (some ⟨g5,0,none⟩) c5 L1']:=⟨b0,a8,a0⟩;obtain⟨⟨_,_,dm,dq⟩,e2,rfl,rfl⟩:∃ y1:Fx,L2[i]?=some y1/\ss=y1.1/\wt=y1.2.1:=by
   obtain⟨y1,e1,e2,e3⟩:=O.at' i _ Q;rw[if_neg (Nat.lt_irrefl _)]at e2;exact⟨y1,e1,e2.symm,e3.symm⟩
  obtain⟨g6,e0,e6⟩:=b6.ptr 1 rfl (by intro e;simp[Aq9]at e;rw[e]at e2;simp at e2);simp only[Aq9,Ayt,Value.slice.injEq,true_and]at e6;obtain⟨rfl,rfl⟩:=e6;refine G.a g6 0 L.length c6 i 2 ab<|G.f 56 g6 (0+i*2) 0 0 ?_;obtain⟨mx,X,m⟩:=b6.focus 1 rfl;rw[Ats,O.len]at X;refine G.storeE (t:=56) 2 0 mx (L2.map F3) g6 L.length c6 i (F3 (ss,wt,dm,dq)) (F3 (ss,wt,some ⟨I,0,none⟩,E)) (.slice (some ⟨I,0,none⟩) ss.length E) kV X (by rw[Ayy,e2];rfl) oV rfl rfl rfl ?_;intro dj ak;rw[<-A1d]at ak;have b7:=m (Aq9 (some ⟨g6,0,none⟩) c6 (L2.set i (ss,wt,some ⟨I,0,none⟩,E))) dj (by rw[Ats,A1o,O.len];exact ak);clear X ak m;refine G.a g6 0 L.length c6 i 2 ab<|G.f 56 g6 (0+i*2) 0 0 ?_;have ex:=b7.el 1 (x:=Aq9 (some ⟨g6,0,none⟩) c6 (L2.set i (ss,wt,some ⟨I,0,none⟩,E))) rfl rfl (j:=i) (e:=F3 (ss,wt,some ⟨I,0,none⟩,E)) (by
   show ((L2.set i _).map F3)[i]?=_;rw[Ayy,A12 (Ayu.1 e2).1];rfl)
  refine G.lM none g6 (0+i*2+0) (.slice (some ⟨I,0,none⟩) ss.length E) (Bcs ex)<|G.a I 0 ss.length E l 1 K ?_;obtain⟨mx,X,m⟩:=b7.focus 0 rfl;rw[Ajm]at X;refine G.storeA 1 mx (ss.map nmV) I ss.length E l (nmV (Ae (qv*3))) kV X (by rw[Ayt];exact K) rfl rfl ?_;intro dk al;rw[<-A1d,<-W]at al;have bz:=m (Ahq (some ⟨I,0,none⟩) E (mvS l (· * 3) ss)) dk (by rw[Ajm,Bbu];exact al);clear X al m ex;obtain⟨br,bd,a9⟩:=bz.take 0 rfl;rw[Ajm]at bd;refine G.give br _ _ kV bd (fun g=>.inl rfl) ?_;intro du a3 bw;have cw:=(O.mono (bp.trans a3)).next (g:=(· * 3)) Q (a:=some ⟨I,0,none⟩) (c:=E) bw;have a9:Bag br [Aq9 (some ⟨g6,0,none⟩) c6 (L2.set i (ss,wt,some ⟨I,0,none⟩,E)),Aq9 (some ⟨g5,0,none⟩) c5 L1']:=a9;rw[Bci (g:=(· * 3))]at a9;exact G.i i<|G.b (hJ (i+1,L1',L2.set i (mvS l (· * 3) ss,wt,some ⟨I,0,none⟩,E)) _ _ _ cV (l7.trans (bp.trans a3)) ⟨dV,bt.mono a3,cw,a9⟩ dV)
 obtain rfl:i=L.length:=oV
 refine G.lF L.length L.length ?_;have b1:=ok.mono ao;have ay:=Y.mono ao;have ac:=N.wok b1 ay h9 (fun q=>Bbv Z);have ax:=O.wok b1 ay h9 (fun q=>Bb7);have av:MvC 1 (b:Rat) (Ce F (l:Int) L) (Ce F (l:Int) L1):=N.mvc b1 ay h9 (fun q=>Bbv Z) (fun q=>by show q+(b:Rat)=1*q+b;grind);have aw:MvC 3 0 (Ce F (l:Int) L) (Ce F (l:Int) L2):=O.mvc b1 ay h9 (fun q=>Bb7) (fun q=>by show q*3=3*q+0;grind);obtain⟨m8,ce,bg⟩:=aa.take 0 rfl;rw[Ats,O.len]at ce;refine G.give m8 _ _ kV ce (fun g=>.inl rfl) ?_;intro u8 l8 cy;have bg:Bag m8 [Aq9 a5 c5 L1]:=bg;obtain⟨m9,cg,_⟩:=bg.take 0 rfl;rw[Ats,N.len]at cg;refine G.give m9 _ _ kV cg (fun g=>.inl rfl) ?_;intro u9 l9 cx;refine G.drop PH.mt kV (PH.mt_le _) ?_;have ad:=l8.trans l9;have bn:=ao.trans ad;have tb:∀ {L':List Fx} {a':Option Addr} {c':Nat} (u':PH) (l':PH.le u9 u'),L'.length=L.length->WOK u7 T L'->Ac u9 (.slice a' L.length c') 2 (L'.map F3)->Fn0 prog 28 [_,.slice a' L.length c'] u' fun r dr=>Au7 dr r (Ce F (l:Int) L') (255*L.length):=fun {L' a' c'} u' l' e hW hR=>by
  have:=K0 (ag.mono (bn.trans l')) (ok.mono (bn.trans l')) w.t8 (a:=a') (c:=c') (L:=L') (by rw[e];exact hR.mono l') (hW.mono (ad.trans l')) oV;rwa[e]at this
 refine G.c call28 (tb u9 (PH.le_refl _) N.len ac cx) ?_;rintro dv cr am ⟨f0,rfl,ci⟩;obtain⟨d1,d2,d3,d4,d5,d6,rfl⟩:=ci.opn;refine G.c call28 (tb cr am O.len ax (cy.mono l9)) ?_;rintro dw ee bl ⟨f7,rfl,cj⟩;obtain⟨f1,f2,f3,f4,f5,f6,rfl⟩:=cj.opn;have be:=ac.tup;have bf:=ax.tup;have ap:=bn.trans (am.trans bl);obtain⟨k1,b2⟩:=Nv (ag.mono ap) (ok.mono ap) w.t8 be (by have:=N.len;omega) w.f5 af (ci.mono bl) oV;obtain⟨dd,b3⟩:=Nv (ag.mono ap) (ok.mono ap) w.t8 bf (by have:=O.len;omega) w.f5 af cj oV;have e8:k1=k:=A6x.1 (by rw[<-b2.mom.c,<-ae.mom.c,av.c]);have c4:dd=k:=A6x.1 (by rw[<-b3.mom.c,<-ae.mom.c,aw.c]);have c8:=hPL.1.nodup Dl;have c0:=ae.mom.cpos h0;have c9:∀ p∈P,0<=p.1:=fun p db=>by
  obtain⟨j,_,e,_⟩:=Aam hPL ae.vC p db;omega
 have bi:=fun z=>L6 ok.feat ok.l1 (Ev ok) z P fun y Q=>(be y Q).1;have bj:=fun z=>L6 ok.feat ok.l1 (Ev ok) z P fun y Q=>(bf y Q).1;have b8:=ah.mono ap;refine G.c call24 (Oy b8 b2 hq.w (Agu ok w.t8 be (by have:=N.len;omega) hq)) ?_;rintro ep ef bm (⟨e,_,⟨_,he⟩|⟨_,_,P',hP',h12⟩⟩|⟨_,P1,mv1,m1,qs1,hPL1,_,hql1,rfl,hmv1,hm1,hn1⟩)
 ·omega
 ·rw[(av.prm hP').eq hPL]at h12;omega
 obtain rfl:P1=P:=(av.prm hPL1).eq hPL;obtain⟨rfl,rfl⟩:=av.model c9 c8 hql hql1 hn hn1 hq.pos c0 bi;have ct:qs.map (1 * ·)=qs:=(A5f fun x _=>Rat.one_mul x).trans (List.map_id _);rw[ct]at hmv1 hm1;have em:1*m0+(b:Rat)=m0+(b:Rat):=by rw[Rat.one_mul]
 rw[em]at hmv1 hm1;obtain⟨na,nc,rfl,d9⟩:=id hmv1.val;refine G.c call24 (Oy (b8.mono bm) (b3.mono bm) hq.w (Agu ok w.t8 bf (by have:=O.len;omega) hq)) ?_;rintro er eg ck (⟨e,_,⟨_,he⟩|⟨_,_,P',hP',h12⟩⟩|⟨_,P2,mv2,m2,qs2,hPL2,_,hql2,rfl,hmv2,hm2,hn2⟩)
 ·omega
 ·rw[(aw.prm hP').eq hPL]at h12;omega
 obtain rfl:P2=P1:=(aw.prm hPL2).eq hPL;obtain⟨rfl,rfl⟩:=aw.model c9 c8 hql hql2 hn hn2 hq.pos c0 bj;have cs:3*m0+0=m0*3:=by grind
 rw[cs]at hmv2 hm2;have cp:=((l7.trans ad).trans (am.trans bl)).trans (bm.trans ck);obtain⟨qa,qc,rfl,da⟩:=id hmv2.val;have dc:(P2.zip (qs.map (3 * ·))).length=(P2.zip qs).length:=by rw[List.length_zip,List.length_zip,Ayt]
 refine G.nF 0 0<|G.nF 0 0<|G.nF 0 0<|G.nF 0 0<|G.c call29 (Ak7 (d9.mono ck) (c7.mono cp) oV) ?_;rintro et ds an rfl;refine G.nF' ((P2.zip (qs.map (3 * ·))).length:Int) ((P2.zip qs).length:Int) (by rw[dc];omega)<|G.convI .i8 .i64 .i8 b b kV (E9 oV oV)<|G.c call26 (Bbq (z:=b) oV oV) ?_;rintro dx eh cl rfl;rw[show Lib.itoa b=Ae (b:Rat) from (Avw b).symm];refine G.c call25 (Atf hm.c cb hm1.c) ?_;rintro eu ei cm rfl;refine G.c call27 (Bby hm.c bk hm2.c) ?_;rintro ew ej cn rfl;have cq:=cp.trans (((an.trans cl).trans cm).trans cn);refine G.l (ι:=Nat) (fun i=>[(10,.p 6007 0),(24,.p 23007 0),(26,.p 24007 0),(28,tV (Ae (m0+(b:Rat)))),(30,tV (Ae (m0*3))),(212,sV ma (P2.zip qs).length mc),(213,iV ((P2.zip qs).length)),(214,iV i)])
  (fun _=>[(6007,⟨44,[tV (Ae m0),sV ma (P2.zip qs).length mc]⟩),(23007,⟨44,[tV (Ae (m0+(b:Rat))),sV na (P2.zip qs).length nc]⟩),(24007,⟨44,[tV (Ae (m0*3)),sV qa (P2.zip (qs.map (3 * ·))).length qc]⟩)])
  (fun i u' m'=>i<=(P2.zip qs).length/\m'=PH.mt) (fun i=>(P2.zip qs).length-i) 0 ⟨Azh _,rfl⟩ ?_
 rintro J2 j cu du br a3 ⟨hj,rfl⟩;by_cases c3:j<(P2.zip qs).length
 ·refine G.lT j ((P2.zip qs).length:Int) ?_;obtain⟨x,X⟩:∃ x,(P2.zip qs)[j]?=some x:=⟨_,Ayr c3⟩;have cd:(P2.zip (qs.map (3 * ·)))[j]?=some (x.1,3*x.2):=by
   rw[List.getElem?_zip_eq_some]at X⊢;rw[Ayy,X.2];exact⟨X.1,rfl⟩
  obtain⟨ba,oa,rfl,ea⟩:=Ac.at' (c7.mono (cq.trans a3)) (j:=j) (e:=As x) (by simp[X]);refine G.a ba oa (P2.zip qs).length mc j 3 c3<|G.f 65 ba (oa+j*3) 1 2<|G.lU none ba (oa+j*3+2) (.string (mkS (Ae x.2))) (Bcd ea) ?_;have t3:=hm2.t _ (Ay9 cd);rw[show 3*x.2=x.2*3 from Rat.mul_comm _ _]at t3;refine G.c call27 (Bby (hm.t x (Ay9 X)) bk t3) ?_;rintro ey ek co rfl;obtain⟨bq,oq,rfl,eq⟩:=Ac.at' (da.mono (((an.trans (cl.trans cm)).trans cn).trans (a3.trans co))) (j:=j) (e:=As (x.1,3*x.2)) (by rw[Ayy,cd];rfl);exact G.a bq oq (P2.zip (qs.map (3 * ·))).length qc j 3 oV<|G.f 65 bq (oq+j*3) 1 2<|G.lU none bq (oq+j*3+2) (.string (mkS (Ae (3*x.2)))) (Bcd eq)<|G.y (Ae (x.2*3)) (Ae (3*x.2)) (by rw[Rat.mul_comm])<|G.i j<|G.b (cu (j+1) _ _ _ cV (a3.trans co) ⟨oV,rfl⟩ oV)
 obtain rfl:j=(P2.zip qs).length:=oV
 refine G.lF ((P2.zip qs).length:Int) ((P2.zip qs).length:Int)<|G.q (Ae (m0+(b:Rat))) (Ae (m0+(b:Rat))) rfl<|G.q (Ae (m0*3)) (Ae (m0*3)) rfl<|G.c call8 (Jw (ah.mono (a4.trans (cq.trans a3)))) ?_;rintro ez eo ed rfl;exact G.r (.bool true) ⟨rfl,rfl⟩
end
end Go.Proofs.YtijchbjkdllolaaGreatDoor
