/- Parts of one proof, joined by a program. -/
import Derived.Test.YtdgncafgglafjaaGreatDoorQ12
set_option linter.defProp false
set_option linter.unusedVariables false
set_option linter.unusedSimpArgs false
set_option linter.unusedSectionVars false
set_option maxHeartbeats 16000000
namespace Go.Proofs.YtdgncafgglafjaaGreatDoor
open Go.Proofs.Tryz
open Go.RowKit Go.MapKept
def A4j:=@Option.toList_some
section
variable {u:PH}{v:Value}
def Ajo (L:List (List UInt8)):Bm 1 (L.map nmV):=fun x d=>by
 obtain⟨y,_,rfl⟩:=A0r.1 d;exact⟨rfl,A06.1 rfl⟩
def Ai0 {L:List (List UInt8)}(h:Ab u v 1 (L.map nmV))(h0:L≠[])(E:L.length<=1000000) :
 Ah prog 163 [v] u PH.mt fun t I n=>Af PH.mt n t 9 1 (L.map nmV):=by
 obtain⟨a,c,rfl⟩:=h.opn;have d:0<(L.map nmV).length:=by rw[A0k];exact A4o.2 h0
 obtain⟨b,j,rfl,_⟩:=Ab.at' h (A0i d);refine Ah.o func163<|G.nilF 9 ⟨b,j,none⟩ (L.map nmV).length c kV<|G.build0 9 1 16 (.string (mkS [])) kV ?_;intro g F m;refine G.append 9 1 16 (.string (mkS [])) PH.mt [] (L.map nmV) (.slice (some ⟨g,0,none⟩) 0 0) b j (L.map nmV).length c kV rfl rfl oV m h.els (Ajo L) rfl d gV gV ?_;intro J H e;obtain⟨z,C,rfl⟩:=e.shape;exact G.r _ e
def Ahg {u m m0:PH}{g c:Nat}{n t z:Value}{L:List (List UInt8)}{p:(List UInt8)->Bool}{fid:Nat}(K:Af m0 m (.slice (some ⟨g,0,none⟩) L.length c) 9 1 (L.map nmV))(U:L.length<=1000000)
 (e:∀ args w,(callFunc fid args).run prog w=.ok (.enter fid args) w) (O:∀ x∈L,∀ E,PH.le u E->Fn0 prog fid [nmV x,n,t,z] E fun v _=>v=.bool (p x)) :
 FnK prog 222 [.slice (some ⟨g,0,none⟩) L.length c,.func (.func fid) #[] #[n,t,z]] u m fun H _=>(H=.int .i64 (-1)/\∀ x∈L,p x=false)\/∃ i:Nat,H=.int .i64 i/\i<L.length/\(∀ x∈L.take i,p x=false)/\∀ x,L[i]?=some x->p x=true:=by
 refine FnK.of func222 kV kV<|G.l (ι:=Nat) (fun i=>[(0,sV (some ⟨g,0,none⟩) L.length c),(1,.v (.func (.func fid) #[] #[n,t,z])),(7,iV L.length),(8,iV i)]) (fun _=>[])
  (fun i E P=>i<=L.length/\(∀ x∈L.take i,p x=false)/\P=m) (fun i=>L.length-i) 0 ⟨oV,mV,rfl⟩ ?_
 rintro J i N R Q F ⟨T,hp,rfl⟩;by_cases h:i<L.length
 ·refine G.lT i L.length ?_;obtain⟨x,j⟩:∃ x,L[i]?=some x:=⟨_,A0i h⟩;have I:ElP Q g (0+i*1) (nmV x):=K.el (by rw[A0n,j];rfl);have C:=O x (A0w j) R F;refine G.a g 0 L.length c i 1 h<|G.lM none g (0+i*1) (nmV x) I<|G.call0 fid [nmV x,n,t,z] kV e C ?_;rintro W V l2 rfl;cases hpx:p x with
  |true=>exact G.r (.int .i64 i) ⟨rfl,.inr ⟨i,rfl,h,hp,fun y d=>by rw[j]at d;cases d;exact hpx⟩⟩
  |false =>
   refine G.i i ?_;exact G.b (N (i+1) _ _ _ cV (F.trans l2) ⟨oV,fun y d=>by
    rw[A0t,j]at d;rcases A04.1 d with d|d
    ·exact hp y d
    simp only[A4j,A07]at d;rw[d];exact hpx,rfl⟩ oV)
 obtain rfl:i=L.length:=oV;refine G.lF L.length L.length ?_;rw[A05]at hp;exact G.r (.int .i64 (-1)) ⟨rfl,.inl ⟨rfl,hp⟩⟩
def Ajq (L:List Par):Bm 2 (L.map An):=fun x d=>by
 obtain⟨y,_,rfl⟩:=A0r.1 d;exact⟨rfl,A06.1 rfl⟩
def Aik {L:List Par}(h:Ab u v 2 (L.map An))(h0:L≠[])(E:L.length<=1000000) :
 Ah prog 112 [v] u PH.mt fun t I n=>Af PH.mt n t 78 2 (L.map An):=by
 obtain⟨a,c,rfl⟩:=h.opn;have d:0<(L.map An).length:=by rw[A0k];exact A4o.2 h0
 obtain⟨b,j,rfl,_⟩:=Ab.at' h (A0i d);refine Ah.o func112<|G.nilF 78 ⟨b,j,none⟩ (L.map An).length c kV<|G.build0 78 2 24 (.agg #[.int .i64 0,.string (mkS [])]) kV ?_;intro g F m;refine G.append 78 2 24 (.agg #[.int .i64 0,.string (mkS [])]) PH.mt [] (L.map An) (.slice (some ⟨g,0,none⟩) 0 0) b j (L.map An).length c kV rfl rfl oV m h.els (Ajq L) rfl d gV gV ?_;intro J H e;obtain⟨z,C,rfl⟩:=e.shape;exact G.r _ e
def Ahk {u m m0:PH}{g c:Nat}{n:Value}{L:List Par}{p:Par->Bool}{fid:Nat}(K:Af m0 m (.slice (some ⟨g,0,none⟩) L.length c) 78 2 (L.map An))(U:L.length<=1000000)
 (e:∀ args w,(callFunc fid args).run prog w=.ok (.enter fid args) w) (O:∀ x∈L,∀ z,PH.le u z->Fn0 prog fid [An x,n] z fun v _=>v=.bool (p x)) :
 FnK prog 189 [.slice (some ⟨g,0,none⟩) L.length c,.func (.func fid) #[] #[n]] u m fun H _=>(H=.int .i64 (-1)/\∀ x∈L,p x=false)\/∃ i:Nat,H=.int .i64 i/\i<L.length/\(∀ x∈L.take i,p x=false)/\∀ x,L[i]?=some x->p x=true:=by
 refine FnK.of func189 kV kV<|G.l (ι:=Nat) (fun i=>[(0,sV (some ⟨g,0,none⟩) L.length c),(1,.v (.func (.func fid) #[] #[n])),(7,iV L.length),(8,iV i)]) (fun _=>[])
  (fun i z P=>i<=L.length/\(∀ x∈L.take i,p x=false)/\P=m) (fun i=>L.length-i) 0 ⟨oV,mV,rfl⟩ ?_
 rintro J i N R Q F ⟨T,hp,rfl⟩;by_cases h:i<L.length
 ·refine G.lT i L.length ?_;obtain⟨x,j⟩:∃ x,L[i]?=some x:=⟨_,A0i h⟩;have I:ElP Q g (0+i*2) (An x):=K.el (by rw[A0n,j];rfl);have t:=O x (A0w j) R F;obtain⟨C,E⟩:=x;refine G.a g 0 L.length c i 2 h<|G.lM (some 2) g (0+i*2) (An (C,E)) I<|G.call0 fid [An (C,E),n] kV e t ?_;rintro W V l2 rfl;cases hpx:p (C,E) with
  |true=>exact G.r (.int .i64 i) ⟨rfl,.inr ⟨i,rfl,h,hp,fun y d=>by rw[j]at d;cases d;exact hpx⟩⟩
  |false =>
   refine G.i i ?_;exact G.b (N (i+1) _ _ _ cV (F.trans l2) ⟨oV,fun y d=>by
    rw[A0t,j]at d;rcases A04.1 d with d|d
    ·exact hp y d
    simp only[A4j,A07]at d;rw[d];exact hpx,rfl⟩ oV)
 obtain rfl:i=L.length:=oV;refine G.lF L.length L.length ?_;rw[A05]at hp;exact G.r (.int .i64 (-1)) ⟨rfl,.inl ⟨rfl,hp⟩⟩
def Aqv {u m m0:PH}{g c:Nat}{N O P:Value}{L:List (List UInt8)}{p:(List UInt8)->Bool}{fid:Nat}(H:Af m0 m (.slice (some ⟨g,0,none⟩) L.length c) 9 1 (L.map nmV))(hl:L.length<=1000000)
 (t:∀ args w,(callFunc fid args).run prog w=.ok (.enter fid args) w) (X:∀ x∈L,∀ Z,PH.le u Z->Fn0 prog fid [nmV x,N,O,P] Z fun v _=>v=.bool (p x)) :
 Ah prog 162 [.slice (some ⟨g,0,none⟩) L.length c,.func (.func fid) #[] #[N,O,P]] u m fun v' _ V=>Af m0 V v' 9 1 ((L.filter fun x=>!p x).map nmV):=by
 refine Ah.o func162<|G.callK _ _ kV call222 (Ahg H hl t X) ?_;rintro v1 u1 l1 (⟨rfl,h1⟩|⟨i0,rfl,hi0,h1,h2⟩)
 ·refine G.eT' (-1) (-1) rfl ?_;have e:L.filter (fun x=>!p x)=L:=List.filter_eq_self.2 fun x C=>by rw[h1 x C];rfl
  exact G.r (.slice (some ⟨g,0,none⟩) L.length c) (by rw[e];exact H)
 have W:=H.cap;refine G.eF i0 (-1)<|G.i i0<|G.l (ι:=Nat×Nat×List (List UInt8)) (fun i=>[(0,sV (some ⟨g,0,none⟩) L.length c),(1,.v (.func (.func fid) #[] #[N,O,P])),(5,iV i.1),(6,iV i.2.1)]) (fun _=>[])
  (fun i _ V=>i.1<i.2.1/\i.2.1<=L.length/\i.2.2.length=L.length/\i.2.2.take i.1=(L.take i.2.1).filter (fun x=>!p x)/\i.2.2.drop i.2.1=L.drop i.2.1/\Af m0 V (.slice (some ⟨g,0,none⟩) L.length c) 9 1 (i.2.2.map nmV)) (fun i=>L.length-i.2.1) (i0,i0+1,L) ⟨dV,hi0,rfl,?_,rfl,H⟩ ?_
 ·obtain⟨x,C⟩:∃ x,L[i0]?=some x:=⟨_,A0i hi0⟩;dsimp only;rw[A0t,C,A35,A4j,A36 (by rw[h2 x C];decide),List.filter_nil,A1i,List.filter_eq_self.2 fun y hy=>by rw[h1 y hy];rfl]
 rintro J ⟨i,j,d⟩ Q u2 m2 l2 ⟨E,hj,R,K,I,h⟩;simp only at E hj R K I h Q;by_cases F:j<L.length
 ·refine G.lT j L.length ?_;obtain⟨x,C⟩:∃ x,L[j]?=some x:=⟨_,A0i F⟩;have T:d[j]?=some x:=by
   have e:=congrArg (fun l=>l[0]?) I;simp only[A3m,A2w]at e;rw[e,C]
  have z:(L.take (j+1)).filter (fun x=>!p x)=(L.take j).filter (fun x=>!p x)++if p x then [] else [x]:=by
   rw[A0t,C,A35,A4j];cases hp:p x<;>simp[hp]
  have ea:ElP m2 g (0+j*1) (nmV x):=h.el (by rw[A0n,T];rfl);have U:=X x (A0w C) u2 (l1.trans l2);refine G.a g 0 L.length c j 1 F<|G.lM none g (0+j*1) (nmV x) ea<|G.call0 fid [nmV x,N,O,P] kV t U ?_;rintro v3 u3 Y rfl;cases hpx:p x with
  |true =>
   refine G.i j ?_;rw[hpx,if_pos rfl,A1i]at z;exact G.b (Q (i,j+1,d) _ _ _ cV (l2.trans Y) ⟨dV,dV,R,by dsimp only;rw[z];exact K,by
    dsimp only;rw[<-A31,I,A31],h⟩ dV)
  |false =>
   rw[hpx,if_neg fV]at z;refine G.a g 0 L.length c i 1 oV<|G.storeA 1 m0 (d.map nmV) g L.length c i (nmV x) kV h (by rw[A0k];omega) rfl (A06.2 ((Ajo [x]) _ (A07.2 rfl)).2) ?_;intro m3 n;refine G.i i<|G.i j ?_;rw[show (nmV x)=nmV x from rfl,<-A10]at n;exact G.b (Q (i+1,j+1,d.set i x) _ _ _ cV (l2.trans Y) ⟨dV,dV,by dsimp only;rw[A3r];exact R,by
    dsimp only;rw[z,<-K,A0t,A2q oV,A61 (A0s i)];rfl,by
    dsimp only;rw[A49 oV,<-A31,I,A31],n⟩ dV)
 obtain rfl:j=L.length:=oV;refine G.lF L.length L.length<|G.sliceFrom g 0 L.length c i 1 kV oV oV<|G.clearA 42 9 1 m0 (d.map nmV) g L.length c i (c-i) (.string (mkS [])) kV kV kV kV rfl rfl h E ?_;intro m3 n;refine G.sliceTo 1 (some ⟨g,0,none⟩) L.length c i kV oV ?_;rw[<-A37,K,A05]at n;exact G.r (.slice (some ⟨g,0,none⟩) i c) n
def Apr {u m m0:PH}{g c:Nat}{P:Value}{L:List Par}{p:Par->Bool}{fid:Nat}(K:Af m0 m (.slice (some ⟨g,0,none⟩) L.length c) 78 2 (L.map An))(hl:L.length<=1000000)
 (t:∀ args w,(callFunc fid args).run prog w=.ok (.enter fid args) w) (X:∀ x∈L,∀ Z,PH.le u Z->Fn0 prog fid [An x,P] Z fun v _=>v=.bool (p x)) :
 Ah prog 111 [.slice (some ⟨g,0,none⟩) L.length c,.func (.func fid) #[] #[P]] u m fun v' _ V=>Af m0 V v' 78 2 ((L.filter fun x=>!p x).map An):=by
 refine Ah.o func111<|G.callK _ _ kV call189 (Ahk K hl t X) ?_;rintro v1 u1 l1 (⟨rfl,h1⟩|⟨i0,rfl,hi0,h1,h2⟩)
 ·refine G.eT' (-1) (-1) rfl ?_;have e:L.filter (fun x=>!p x)=L:=List.filter_eq_self.2 fun x C=>by rw[h1 x C];rfl
  exact G.r (.slice (some ⟨g,0,none⟩) L.length c) (by rw[e];exact K)
 have W:=K.cap;refine G.eF i0 (-1)<|G.i i0<|G.l (ι:=Nat×Nat×List Par) (fun i=>[(0,sV (some ⟨g,0,none⟩) L.length c),(1,.v (.func (.func fid) #[] #[P])),(5,iV i.1),(6,iV i.2.1)]) (fun _=>[])
  (fun i _ V=>i.1<i.2.1/\i.2.1<=L.length/\i.2.2.length=L.length/\i.2.2.take i.1=(L.take i.2.1).filter (fun x=>!p x)/\i.2.2.drop i.2.1=L.drop i.2.1/\Af m0 V (.slice (some ⟨g,0,none⟩) L.length c) 78 2 (i.2.2.map An)) (fun i=>L.length-i.2.1) (i0,i0+1,L) ⟨dV,hi0,rfl,?_,rfl,K⟩ ?_
 ·obtain⟨x,C⟩:∃ x,L[i0]?=some x:=⟨_,A0i hi0⟩;dsimp only;rw[A0t,C,A35,A4j,A36 (by rw[h2 x C];decide),List.filter_nil,A1i,List.filter_eq_self.2 fun y hy=>by rw[h1 y hy];rfl]
 rintro J ⟨i,j,d⟩ Q u2 m2 l2 ⟨H,hj,R,O,N,h⟩;simp only at H hj R O N h Q;by_cases I:j<L.length
 ·refine G.lT j L.length ?_;obtain⟨x,C⟩:∃ x,L[j]?=some x:=⟨_,A0i I⟩;have T:d[j]?=some x:=by
   have e:=congrArg (fun l=>l[0]?) N;simp only[A3m,A2w]at e;rw[e,C]
  have z:(L.take (j+1)).filter (fun x=>!p x)=(L.take j).filter (fun x=>!p x)++if p x then [] else [x]:=by
   rw[A0t,C,A35,A4j];cases hp:p x<;>simp[hp]
  have ea:ElP m2 g (0+j*2) (An x):=h.el (by rw[A0n,T];rfl);have U:=X x (A0w C) u2 (l1.trans l2);obtain⟨E,F⟩:=x;refine G.a g 0 L.length c j 2 I<|G.lM (some 2) g (0+j*2) (An (E,F)) ea<|G.call0 fid [An (E,F),P] kV t U ?_;rintro v3 u3 Y rfl;cases hpx:p (E,F) with
  |true =>
   refine G.i j ?_;rw[hpx,if_pos rfl,A1i]at z;exact G.b (Q (i,j+1,d) _ _ _ cV (l2.trans Y) ⟨dV,dV,R,by dsimp only;rw[z];exact O,by
    dsimp only;rw[<-A31,N,A31],h⟩ dV)
  |false =>
   rw[hpx,if_neg fV]at z;refine G.a g 0 L.length c i 2 oV<|G.storeA 2 m0 (d.map An) g L.length c i (An (E,F)) kV h (by rw[A0k];omega) rfl (A06.2 ((Ajq [(E,F)]) _ (A07.2 rfl)).2) ?_;intro m3 n;refine G.i i<|G.i j ?_;rw[show (An (E,F))=An (E,F) from rfl,<-A10]at n;exact G.b (Q (i+1,j+1,d.set i (E,F)) _ _ _ cV (l2.trans Y) ⟨dV,dV,by dsimp only;rw[A3r];exact R,by
    dsimp only;rw[z,<-O,A0t,A2q oV,A61 (A0s i)];rfl,by
    dsimp only;rw[A49 oV,<-A31,N,A31],n⟩ dV)
 obtain rfl:j=L.length:=oV;refine G.lF L.length L.length<|G.sliceFrom g 0 L.length c i 2 kV oV oV<|G.clearA 63 78 2 m0 (d.map An) g L.length c i (c-i) (.agg #[.int .i64 0,.string (mkS [])]) kV kV kV kV rfl rfl h H ?_;intro m3 n;refine G.sliceTo 2 (some ⟨g,0,none⟩) L.length c i kV oV ?_;rw[<-A37,O,A05]at n;exact G.r (.slice (some ⟨g,0,none⟩) i c) n
end
section
variable {P:List Par}{f:Int}{i:Nat}{p:Par}{u:PH}{v:Value}
def S6 (h:P[i]?=some p):A2 (P.take (i+1)) f=A2 (P.take i) f++if p.1=f then [p.2] else []:=by
 unfold A2 onF;rw[A0t,h,A35,A02,A4j];by_cases e:p.1=f
 ·rw[if_pos e,A48 (by simpa using e)];rfl
 rw[if_neg e,A36 (by simpa using e)];rfl
def Mr :(A2 P f).length<=P.length:=by
 unfold A2 onF;rw[A0k];exact A3h _ _
def Aga (h:Ab u v 2 (P.map An))(X:P.length<=1000) :
 Fn0 prog 161 [v,.int .i64 f] u fun r Q=>Ab Q r 1 ((A2 P f).map nmV):=by
 obtain⟨a,c,rfl⟩:=h.opn;rw[A0k]at h⊢;refine Fn0.o func161<|G.l (ι:=Nat×(Option Addr×Nat×Nat)) (fun i=>[(1,iV f),(5,sV i.2.1 i.2.2.1 i.2.2.2),(8,sV a P.length c),(9,iV P.length),(10,iV i.1)]) (fun _=>[])
  (fun i Q W=>i.1<=P.length/\Af PH.mt W (.slice i.2.1 i.2.2.1 i.2.2.2) 9 1 ((A2 (P.take i.1) f).map nmV)) (fun i=>P.length-i.1) (0,none,0,0) ⟨oV,Af.nil _ _ _⟩ ?_
 rintro J ⟨i,L,O,N⟩ F u1 Z K ⟨V,n⟩;simp only at V n F;by_cases z:i<P.length
 ·refine G.lT i P.length ?_;obtain⟨p,hp⟩:∃ p,P[i]?=some p:=⟨_,A0i z⟩;have d:=S6 (f:=f) hp;have H:=Mr (P:=P.take i) (f:=f);rw[A0q]at H;obtain⟨b,o,rfl,e⟩:=Ab.at' (h.mono K) (j:=i) (e:=An p) (by simp[hp]);obtain⟨E,t⟩:=p;refine G.a b o P.length c i 2 z<|G.lU (some 2) b (o+i*2) (.agg #[.int .i64 E,.string (mkS t)]) e ?_;by_cases C:E=f
  ·refine G.eT' E f C<|G.B 9 1 16 (.string (mkS [])) [nmV t] (D8 [t]) ?_;intro g2 u2 l2 U;have I:=n.len;subst I;refine G.k 9 1 16 (.string (mkS [])) PH.mt ((A2 (P.take i) f).map nmV) [nmV t] (.slice L ((A2 (P.take i) f).map nmV).length N) g2 0 1 1 n U (D8 [t]) ?_;intro v3 m3 m;rw[if_pos C]at d;rw[show (A2 (P.take i) f).map nmV++[nmV t]=(A2 (P.take (i+1)) f).map nmV by rw[d,A02];rfl]at m;obtain⟨R,T,rfl⟩:=m.shape;exact G.i i<|G.b (F (i+1,R,_,T) _ _ _ cV (K.trans l2) ⟨dV,m⟩ dV)
  refine G.eF' E f C ?_;rw[if_neg C,A1i]at d;exact G.i i<|G.b (F (i+1,L,O,N) _ _ _ cV K ⟨dV,by dsimp only;rw[d];exact n⟩ dV)
 obtain rfl:i=P.length:=oV;refine G.lF P.length P.length ?_;rw[A05]at n;refine G.give _ _ _ kV n (fun g=>.inl rfl) ?_;intro u6 Y hF;exact G.r (.slice L O N) ⟨rfl,hF⟩
def Au7 {T:List (List UInt8×Nat)}{R:List Bw}{F:List Ao}{lab:Int}{a k m:Nat}(E:Ic u v T R F lab)(n:F[i]?=some (a,k,m))(I:F.length<=100) :
 Fn0 prog 80 [v,.int .i64 i] u fun r _=>r=.bool (decide (k=2)):=by
 obtain⟨J,L,K,N,O,H,rfl,C,z,g⟩:=E;have h:=(A0o.1 n).1;refine Fn0.o func80<|G.hT i 0<|G.lT i F.length ?_;obtain⟨b,o,rfl,e⟩:=Ab.at' g (j:=i) (e:=C4 (a,k,m)) (by simp[n]);refine G.a b o F.length H i 3 h<|G.f 98 b (o+i*3) 1 1<|G.lU none b (o+i*3+1) (.int .i64 k) (e.sub (k:=1) fun i y d=>by
  match i,d with
  |0,d=>exact d
  |i+1,d=>simp[Value.cells]at d) ?_
 by_cases t:k=2
 ·exact G.eT k 2<|G.r (.bool true) ⟨rfl,by rw[decide_eq_true t]⟩
 exact G.eF k 2<|G.r (.bool false) ⟨rfl,by rw[decide_eq_false t]⟩
def Alx {b:Nat}(e:ElP u b 0 (.int .i64 f)):Fn0 prog 113 [An p,.pointer (some ⟨b,0,none⟩)] u fun v _=>v=.bool (decide (p.1=f)):=by
 obtain⟨d,g⟩:=p;refine Fn0.o func113<|G.lU none b 0 (.int .i64 f) e ?_;by_cases h:d=f
 ·exact G.eT' d f h<|G.r (.bool true) ⟨rfl,by rw[decide_eq_true h]⟩
 exact G.eF' d f h<|G.r (.bool false) ⟨rfl,by rw[decide_eq_false h]⟩
def Tw (h:Ab u v 2 (P.map An))(h0:P≠[])(L:P.length<=1000) :
 Fn0 prog 46 [v,.int .i64 f] u fun r m=>Ab m r 2 ((Au P f).map An):=by
 have j:=fun (m:PH) (l:PH.le u m)=>Aik (h.mono l) h0 oV;obtain⟨a,c,rfl⟩:=h.opn;rw[A0k]at h j⊢;refine Fn0.o func46<|G.pastI<|G.pub 0 3 [.int .i64 f] kV kV ?_;intro b C E;refine G.giveP (ma:=PH.mt.upd b (.cells [.int .i64 f].toArray 3 (0,0))) (sm:=PH.mt) kV (Vr _).symm (fun g=>.inr rfl) (fun g=>.inl rfl) ?_;intro z H t;have n:ElP z b 0 (.int .i64 f):=Jg (t b _ (Ac _ _ _)) rfl;refine G.callO _ _ kV call112 (j z H) ?_;intro W T Q l2 d _;rw[Cm];obtain⟨g2,J,rfl⟩:=d.ptr (by simpa using h0);rw[A0k]at d⊢;refine G.A call111 (Apr (p:=fun p=>decide (p.1=f)) d oV call113 fun x _ m F=>Alx (n.mono (l2.trans F))) ?_;rintro X U R N e _;rw[Cm];obtain⟨I,K,rfl⟩:=e.shape;refine G.give _ _ _ kV e (fun g=>.inl rfl) ?_;intro V O hF;exact G.r _ ⟨rfl,hF⟩
end
theorem Fu:Wp prog 9 nmV :=
 ⟨fun a b w=>by
  have:=run_equalIn_string (P:=prog) w 9999 9 (mkS a) (mkS b) kV;show (Op.equalIn (9999+1) _ _ _).run _ _=_;unfold nmV;rw[this,Qy],
  ⟨_,(by kernel_rfl:prog.underlying 9=some .string),.inr fun a b=>by
   have h:((mkS a).data==(mkS b).data)=decide (a=b):=by by_cases h:a=b<;>simp[h]
   exact congrArg some h⟩,
  fun e a w=>Mf (d:=9999) (.inr kV) e (nmV a) w,
  fun a=>Y0 10000 (mkS a),fun a b h=>by unfold nmV at h;simpa using h⟩
def Z9 {q:Rat}:Ag q = [48]↔q=0:=by
 have e:Ag 0 = [48]:=jV
 rw[<-e];exact⟨Af9,fun h=>by rw[h]⟩
def Aq3 {u:PH}{n:Value}{C:CF}{K j h m:Nat}{f g:Int}{a b:List UInt8}(E:J0 u n C K)(Q:K<=100000)(L:ElP u j 0 n)(z:ElP u h 0 (.agg #[.int .i64 f,.int .i64 g]))(N:ElP u m 0 (nmV a)) :
 Fn0 prog 164 [nmV b,.pointer (some ⟨j,0,none⟩),.pointer (some ⟨h,0,none⟩),.pointer (some ⟨m,0,none⟩)] u fun v _=>v=.bool (decide (C.t (Aw (f,a) (g,b))=0)):=by
 have hp:=Af3 (f,a) (g,b) E oV;obtain⟨F,O,I,H,P,J,rfl⟩:=E.opn;refine Fn0.o func164<|G.lU (some 3) j 0 (.agg #[.string (mkS (Ag C.c)),.slice F O I,.slice H P J]) L<|G.f 40 h 0 0 0<|G.lU none h (0+0) (.int .i64 f) (z.sub (k:=0) fun i y d=>by
  match i,d with
  |0,d=>exact d
  |i+1,d=>simp[Value.cells]at d) ?_
 refine G.lU none m 0 (.string (mkS a)) N<|G.f 40 h 0 1 1<|G.lU none h (0+1) (.int .i64 g) (z.sub (k:=1) fun i y d=>by
  match i,d with
  |0,d=>exact d
  |i+1,d=>simp[Value.cells]at d) ?_
 refine G.c call129 hp ?_;rintro U T R rfl;by_cases h0:C.t (Aw (f,a) (g,b))=0
 ·exact G.q (Ag (C.t (Aw (f,a) (g,b)))) [48] (Z9.2 h0)<|G.r (.bool true) ⟨rfl,by rw[decide_eq_true h0]⟩
 exact G.w (Ag (C.t (Aw (f,a) (g,b)))) [48] (fun e=>h0 (Z9.1 e))<|G.r (.bool false) ⟨rfl,by rw[decide_eq_false h0]⟩
section
variable {l:List (List UInt8)}{l2:List (List UInt8×Value)}
def Ix (p:List UInt8×List UInt8):Value:=.agg #[.string (mkS p.1),.string (mkS p.2)]
def Vb (L:List (List UInt8×List UInt8)):Bm 2 (L.map Ix):=fun x d=>by
 obtain⟨y,_,rfl⟩:=A0r.1 d;exact⟨rfl,A06.1 rfl⟩
def Fr (l:List (List UInt8))(b:List UInt8):Nat:=(l.filter fun x=>decide (x=b)).length
def Al6 (l:List (List UInt8))(y b:List UInt8):Fr (l++[y]) b=Fr l b+if b=y then 1 else 0:=by
 unfold Fr;rw[A35,A03];by_cases e:b=y
 ·subst e;rw[A48 mV,if_pos rfl];rfl
 rw[A36 (by simpa using fun h=>e h.symm),if_neg e];rfl
def Aex {b:List UInt8}:Fr l b≠0↔b∈l:=by
 unfold Fr;constructor
 ·intro h;obtain⟨x,j⟩:=List.exists_mem_of_length_pos (Nat.pos_of_ne_zero h);obtain⟨d,g⟩:=A3p.1 j;rw[<-of_decide_eq_true g];exact d
 intro h e;have:=List.length_pos_of_mem (A3p.2 ⟨h,decide_eq_true rfl⟩:b∈l.filter fun x=>decide (x=b));omega
def R0 (l:List (List UInt8))(l2:List (List UInt8×Value)):Prop:=∀ b,D1 b l2=if Fr l b=0 then none else some (.int .i64 (Fr l b:Int))
def R0.nil:R0 [] []:=fun _=>rfl
def R0.put (h:R0 l l2)(y:List UInt8):R0 (l++[y]) (Is y (.int .i64 (Fr l y+1:Nat)) l2):=fun b=>by
 rw[Qi,Al6];by_cases e:b=y
 ·subst e;rw[if_pos rfl,if_pos rfl,if_neg oV]
 rw[if_neg e,if_neg e,A2w];exact h b
def R0.look (h:R0 l l2)(b:List UInt8):Agi (.int .i64 0) (D1 b l2) false=.int .i64 (Fr l b:Int):=by
 rw[h b];by_cases e:Fr l b=0
 ·rw[if_pos e,e];rfl
 rw[if_neg e];rfl
def R0.len {o:Obj}{l T:List (List UInt8)}(h:R0 l l2)(u:Ep nmV o l2)(hT:T.Nodup)(n:∀ b,b∈T↔b∈l):l2.length=T.length:=by
 have m:∀ b,b∈l2.map (·.1)↔b∈l:=fun b=>by
  rw[<-Aex (l:=l)];have d:=Hl (a:=b) (l:=l2);rw[h b]at d;constructor
  ·intro g e;rw[if_pos e]at d;exact d.1 rfl g
  intro j;rw[if_neg j]at d;exact A2h fun g=>by cases d.2 g
 have d:=List.Nodup.length_le_of_subset u.nodup fun b g=>(n b).2 ((m b).1 g);have t:=List.Nodup.length_le_of_subset hT fun b g=>(m b).2 ((n b).1 g);rw[A0k]at d t;omega
def Ahr:Value:=.agg #[.int .i64 0,.int .i64 0,.slice none 0 0,.map none,.map none]
def Zn (u:PH)(v:Value)(f g:Int)(xs:List (List UInt8))(tg:List UInt8->List UInt8):Prop :=
 ∃ (a:Option Addr) (c g1 g2:Nat) (o1 o2:Obj) (l2:List (List UInt8×Value)),v=.agg #[.int .i64 f,.int .i64 g,.slice a xs.length c,.map (some g1),.map (some g2)]/\Ab u (.slice a xs.length c) 2 (xs.map fun x=>Ix (x,tg x)) /\
  u g1=some o1/\Ep nmV o1 (xs.map fun x=>(x,nmV (tg x)))/\u g2=some o2/\Ep nmV o2 l2/\R0 (xs.map tg) l2
def Zn.mono {u u':PH}{v:Value}{f g:Int}{xs:List (List UInt8)}{tg:List UInt8->List UInt8}(h:Zn u v f g xs tg)(hl:PH.le u u'):Zn u' v f g xs tg:=by
 obtain⟨a,c,g1,g2,o1,o2,l2,h1,h2,h3,h4,h5,h6⟩:=h;exact⟨a,c,g1,g2,o1,o2,l2,h1,h2.mono hl,hl _ _ h3,h4,hl _ _ h5,h6⟩
def Nu {xs:List (List UInt8)}{tg:List UInt8->List UInt8}{x:List UInt8}(d:x∈xs):D1 x (xs.map fun x=>(x,nmV (tg x)))=some (nmV (tg x)):=by
 induction xs with
 |nil=>cases d
 |cons y ys ih =>
  rw[A1t];unfold D1;by_cases e:x=y
  ·subst e;rw[if_pos rfl]
  rw[if_neg e];exact ih ((A0v.1 d).resolve_left e)
def Aei {C:CF}{P:List Par}{f g:Int}(b:List UInt8):Fr ((A2 P f).map (tgL C P f g)) b=Pe C P f g b:=by
 unfold Fr Pe;induction A2 P f with
 |nil=>rfl
 |cons x l ih =>
  rw[A1t,A51,A51];by_cases e:tgL C P f g x=b
  ·rw[decide_eq_true e,if_pos rfl,if_pos rfl,A1y,A1y,ih]
  rw[decide_eq_false e,if_neg fV,if_neg fV,ih]
end
section
section
variable {P:Program} [A6 P] {fn:Func} {Post:Ca} {st:List KI×S} {u m:PH}
def G.buildArr1 (t e:TypeId)(p q:List UInt8)(h:Ak P (adv P st)=.build t [(0,.string (mkS p)),(1,.string (mkS q))])(I:P.underlying t=some (.array 2 e))(H:szB P e=some 1)(J:Pn P t=some (.agg #[.string (mkS []),.string (mkS [])]))
 (k:G P fn Post (nx (adv P st) (Ix (p,q))) u m):G P fn Post st u m:=by
 refine G.ask h mV (fun j o d w hp=>?_) k;obtain⟨L,z,N⟩:=Qj d;obtain⟨E,K,C,pos,g,n⟩:=o;simp only at z;subst z;have F:(L.map fun x=>(x.1,j x.2)).toList = [(0,.string (mkS p)),(1,.string (mkS q))]:=by simp_all
 simp only[execOp,Instr.build,Sem.run_bind,K5 J,Result.andThen_ok,run_underlying I,Bg H,F];rfl
end
def Axk {m:PH}{b:Nat}(o:Obj)(h:m b=none):m.upd b o=(Kv b o).or m/\G1 (Kv b o) m:=by
 constructor
 ·funext k
  by_cases e:k=b
  ·subst e;rw[Ac,PH.or_l (By k o)]
  rw[Ad _ _ e,PH.or_r (Kk o e)]
 intro k;by_cases e:k=b
 ·subst e;exact .inr h
 exact .inl (Kk o e)
def Aib {u:PH}{cv pv:Value}{C:CF}{K:Nat}{P:List Par}{f g:Int}(hC:J0 u cv C K)(hK:K<=100000)(hP:Ab u pv 2 (P.map An))(hl:P.length<=1000)(ap:P.Nodup)(R:∀ x∈A2 P f,Fh C P f g x≠[])(E:(∀ x∈A2 P f,(Fh C P f g x).length=1)->∀ b,b∈A2 P g↔∃ x∈A2 P f,tgL C P f g x=b) :
 Fn0 prog 81 [cv,pv,.agg #[.int .i64 f,.int .i64 g]] u fun r u'=>((∀ x∈A2 P f,(Fh C P f g x).length=1)/\∃ v,r=.tuple #[v,.bool true]/\Zn u' v f g (A2 P f) (tgL C P f g))\/(¬ (∀ x∈A2 P f,(Fh C P f g x).length=1)/\r=.tuple #[Ahr,.bool false]):=by
 have al:=fun (u':PH) (l:PH.le u u')=>Aga (f:=g) (hP.mono l) hl;have ak:=fun (u':PH) (l:PH.le u u')=>Aga (f:=f) (hP.mono l) hl;have b5:=Mr (P:=P) (f:=f);have bg:=Mr (P:=P) (f:=g);obtain⟨a1,n1,c1,a2,n2,c2,rfl⟩:=hC.opn;obtain⟨pa,pc,rfl⟩:=hP.opn;rw[A0k]at hP al ak⊢;refine Fn0.o func81<|G.pastI<|G.pub 0 34 [.string (mkS (Ag C.c)),.slice a1 n1 c1,.slice a2 n2 c2] kV kV ?_;intro b1 ai bb;refine G.pub 1 40 [.int .i64 f,.int .i64 g] kV kV ?_;intro N a7 a4;have aj:N≠b1:=fun e=>by rw[e,Ac]at a4;cases a4
 refine G.giveP (ma:=(PH.mt.upd b1 (.cells [Value.string (mkS (Ag C.c)),.slice a1 n1 c1,.slice a2 n2 c2].toArray 34 (0,0))).upd N (.cells [Value.int .i64 f,.int .i64 g].toArray 40 (0,0))) (sm:=PH.mt) kV (Vr _).symm (fun g=>.inr rfl) (fun g=>.inl rfl) ?_;intro u1 l1 ar;have e1:ElP u1 b1 0 (.agg #[.string (mkS (Ag C.c)),.slice a1 n1 c1,.slice a2 n2 c2]):=Jg (ar b1 _ (by rw[Ad _ _ aj.symm,Ac])) rfl;have e2:ElP u1 N 0 (.agg #[.int .i64 f,.int .i64 g]):=Jg (ar N _ (Ac _ _ _)) rfl;refine G.lU (some 2) N 0 (.agg #[.int .i64 f,.int .i64 g]) e2<|G.mapMk kV ?_;intro g1 bi bd;refine G.mapMk kV ?_;intro g2 am be;have Q:g2≠g1:=fun e=>by rw[e,Ac]at am;cases am
 refine G.f 40 N 0 1 1<|G.lU none N (0+1) (.int .i64 g) (e2.sub (k:=1) fun i y H=>by
  match i,H with
  |0,H=>exact H
  |i+1,H=>simp[Value.cells]at H) ?_
 refine G.c call161 (al u1 l1) ?_;intro v2 u2 l2 hT;obtain⟨ta,tc,rfl⟩:=hT.opn;rw[A0k]at hT⊢;have ax:ElP u2 N 0 (.agg #[.int .i64 f,.int .i64 g]):=e2.mono l2;refine G.f 40 N 0 0 0<|G.lU none N (0+0) (.int .i64 f) (ax.sub (k:=0) fun i y H=>by
  match i,H with
  |0,H=>exact H
  |i+1,H=>simp[Value.cells]at H) ?_
 refine G.c call161 (ak u2 (l1.trans l2)) ?_;intro v3 u3 l3 hX;obtain⟨xa,xc,rfl⟩:=hX.opn;rw[A0k]at hX⊢;obtain⟨X,ag⟩:∃ X,A2 P f=X:=⟨_,rfl⟩;obtain⟨tg,aq⟩:∃ tg,tgL C P f g=tg:=⟨_,rfl⟩;rw[ag]at hX R E b5⊢;rw[aq]at E⊢;have az:(A2 P g).Nodup:=Jj ap;have b0:X.Nodup:=by rw[<-ag];exact Jj ap
 refine G.l (ι:=Nat×(Option Addr×Nat)×Obj×Obj) (fun i=>[(3,.v (.pointer (some ⟨b1,0,none⟩))),(5,.v (.pointer (some ⟨N,0,none⟩))),(6,.p 2 0),(8,.p 1004 0),(9,sV ta (A2 P g).length tc),(24,sV xa X.length xc),(25,iV X.length),(26,iV i.1)])
  (fun i=>[(2,⟨108,[iV 0,iV 0,sV none 0 0,.v (.map none),.v (.map none)]⟩),(1004,⟨108,[iV f,iV g,sV i.2.1.1 i.1 i.2.1.2,.v (.map (some g1)),.v (.map (some g2))]⟩)])
  (fun i u' m'=>i.1<=X.length/\Ep nmV i.2.2.1 ((X.take i.1).map fun x=>(x,nmV (tg x)))/\(∃ l2,Ep nmV i.2.2.2 l2/\R0 ((X.take i.1).map tg) l2)/\(∀ x∈X.take i.1,(Fh C P f g x).length=1)/\Af ((PH.mt.upd g1 i.2.2.1).upd g2 i.2.2.2) m' (.slice i.2.1.1 i.1 i.2.1.2) 51 2 ((X.take i.1).map fun x=>Ix (x,tg x)))
  (fun i=>X.length-i.1) (0,(none,0),.map #[] 0,.map #[] 0) ⟨oV,Ep.empty,⟨[],Ep.empty,R0.nil⟩,mV,Af.nil _ _ _⟩ ?_
 rintro J ⟨i,⟨qa,qc⟩,o1,U⟩ hJ u4 m4 l4 ⟨hi,W,⟨k2,L,I⟩,n,hA⟩;simp only at hi W L I n hA hJ;by_cases ao:i<X.length
 ·refine G.lT i X.length ?_;obtain⟨x,hx⟩:∃ x,X[i]?=some x:=⟨_,A0i ao⟩;have aa:=A0w hx;obtain⟨bx,ox,rfl,ex⟩:=Ab.at' (hX.mono l4) (j:=i) (e:=nmV x) (by simp[hx]);refine G.a bx ox X.length xc i 1 ao<|G.lU none bx (ox+i*1) (.string (mkS x)) ex<|G.pub 5002 9 [.string (mkS x)] kV kV ?_;intro b3 h3 ay;obtain⟨b7,b4⟩:=Axk (.cells [Value.string (mkS x)].toArray 9 (0,0)) ay;refine G.giveP (ma:=Kv b3 (.cells [Value.string (mkS x)].toArray 9 (0,0))) (sm:=m4) kV b7 b4 (fun g=>.inl rfl) ?_;intro u5 l5 ba;have e3:ElP u5 b3 0 (nmV x):=Jg (xs:=[Value.string (mkS x)]) (ba b3 _ (By _ _)) rfl;have b9:PH.le u1 u5:=((l2.trans l3).trans l4).trans l5;have a3:A2 P g≠[]:=fun e=>R x aa (by unfold Fh;rw[e];rfl);refine G.callO _ _ kV call163 (Ai0 (hT.mono ((l3.trans l4).trans l5)) a3 oV) ?_;intro v6 u6 m6 l6 a6 b6;obtain⟨g6,c6,rfl⟩:=a6.ptr (by simpa using a3);rw[A0k]at a6⊢;have ab:=b9.trans l6;refine G.D call162 (fun k=>by
   cases hk:m6 k with
   |none=>exact .inr rfl
   |some o=>exact .inl (b6 k (by rw[hk];simp))) (Aqv (p:=fun b=>decide (C.t (Aw (f,x) (g,b))=0)) a6 oV call164 fun b _ u' l'=>Aq3 (hC.mono ((l1.trans ab).trans l')) hK (e1.mono (ab.trans l')) (e2.mono (ab.trans l')) (e3.mono (l6.trans l'))) ?_
  intro v7 u7 m7 l7 V ah;rw[show (A2 P g).filter (fun b=>!decide (C.t (Aw (f,x) (g,b))=0))=Fh C P f g x from rfl]at V;have bj:(Fh C P f g x).length<=(A2 P g).length:=A3h _ _;obtain⟨g7,c7,rfl⟩:=V.ptr (by simpa using R x aa);rw[A0k]at V⊢;by_cases a8:(Fh C P f g x).length=1
  ·refine G.nF ((Fh C P f g x).length:Int) 1 ?_;obtain⟨y,H⟩:=List.length_eq_one_iff.1 a8;have a9:tg x=y:=by rw[<-aq];unfold tgL;rw[H];rfl
   refine G.give m4 _ _ kV (V.join fun k hk=>(ah k).resolve_right hk) (fun g=>.inl rfl) ?_;intro u8 l8 hF;rw[H]at hF⊢;have ey:ElP u8 g7 (0+0*1) (nmV y):=by
    obtain⟨b',o',h1,h2⟩:=Ab.at' hF (j:=0) (e:=nmV y) rfl;cases h1;exact h2
   have ae:=(e3.mono ((l6.trans l7).trans l8));have T:X.take (i+1)=X.take i++[x]:=by rw[A0t,hx];rfl
   have b8:x∉X.take i:=fun h=>by
    have h1:(X.take (i+1)).Nodup:=b0.sublist (List.take_sublist _ _);rw[T]at h1;exact (A30.1 h1).2.2 x h x (A07.2 rfl) rfl
   have a5:((PH.mt.upd g1 o1).upd g2 U) g1=some o1:=by rw[Ad _ _ Q.symm,Ac]
   refine G.lU none b3 0 (.string (mkS x)) ae<|G.a g7 0 1 c7 0 1 oV<|G.lU none g7 (0+0*1) (.string (mkS y)) ey<|G.buildArr1 51 9 x y kV kV kV kV<|G.B 51 2 32 (.agg #[.string (mkS []),.string (mkS [])]) [Ix (x,y)] (Vb [(x,y)]) ?_;intro g9 u9 l9 e9;refine G.k 51 2 32 (.agg #[.string (mkS []),.string (mkS [])]) ((PH.mt.upd g1 o1).upd g2 U) ((X.take i).map fun x=>Ix (x,tg x)) [Ix (x,y)] (.slice qa i qc) g9 0 1 1 hA e9 (Vb [(x,y)]) ?_;intro bk m10 d;rw[show (X.take i).map (fun x=>Ix (x,tg x))++[Ix (x,y)]=(X.take (i+1)).map fun x=>Ix (x,tg x) by rw[T,A02,<-a9];rfl]at d;obtain⟨av,aw,rfl⟩:=d.shape;have an:((X.take (i+1)).map fun x=>Ix (x,tg x)).length=i+1:=by rw[A0k,A0q];omega
   rw[an]at d⊢;refine G.lU none b3 0 (.string (mkS x)) (ae.mono l9)<|G.a g7 0 1 c7 0 1 oV<|G.lU none g7 (0+0*1) (.string (mkS y)) (ey.mono l9)<|G.mapPut (et:=9) Fu g1 o1 ((X.take i).map fun x=>(x,nmV (tg x))) x (nmV y) kV kV (d.see a5) W ?_;intro ad a0;rw[Xs (nmV y) (by
    have e:((X.take i).map fun x=>(x,nmV (tg x))).map (·.1)=X.take i:=List.map_map.trans (List.map_id _);rw[e];exact b8),show (X.take i).map (fun x=>(x,nmV (tg x)))++[(x,nmV y)]=(X.take (i+1)).map fun x=>(x,nmV (tg x)) by rw[T,A02,<-a9];rfl]at a0
   have F:=d.base (b:=g1) (o:=ad) (by rw[a5];simp);rw[Jo _ _ _ Q,Ds]at F;refine G.a g7 0 1 c7 0 1 oV<|G.lU none g7 (0+0*1) (.string (mkS y)) (ey.mono l9) ?_;have O:((PH.mt.upd g1 ad).upd g2 U) g2=some U:=Ac _ _ _;refine G.mapGet (et:=3) Fu (.int .i64 0) g2 U k2 y false kV kV (.inr (F.see O)) L ?_;rw[I.look y];have bh:Fr ((X.take i).map tg) y<=1000:=by
    unfold Fr;refine A0l (A3h _ _) ?_;rw[A0k,A0q];omega
   refine G.p (Fr ((X.take i).map tg) y:Int) 1 ((Fr ((X.take i).map tg) y+1:Nat):Int)<|G.mapPut (et:=3) Fu g2 U k2 y (.int .i64 ((Fr ((X.take i).map tg) y+1:Nat):Int)) kV kV (F.see O) L ?_;intro au af;have Y:=F.base (b:=g2) (o:=au) (by rw[O];simp);rw[Ds]at Y;have Z:=I.put y;rw[show (X.take i).map tg++[y]=(X.take (i+1)).map tg by rw[T,A02,<-a9];rfl]at Z;refine G.i i ?_;exact G.b (hJ (i+1,(av,aw),ad,au) _ _ _ cV ((((l4.trans l5).trans l6).trans l7).trans (l8.trans l9)) ⟨dV,a0,⟨_,af,Z⟩,fun z hz=>by
    dsimp only at hz;rw[T]at hz;rcases A04.1 hz with hz|hz
    ·exact n z hz
    rw[A07.1 hz];exact a8,Y⟩ dV)
  exact G.nT ((Fh C P f g x).length:Int) 1<|G.drop PH.mt kV (PH.mt_le _)<|G.r (.tuple #[.agg #[.int .i64 0,.int .i64 0,.slice none 0 0,.map none,.map none],.bool false]) ⟨rfl,.inr ⟨fun h=>a8 (h x aa),rfl⟩⟩
 obtain rfl:i=X.length:=oV;refine G.lF X.length X.length ?_;rw[A05]at W I n hA;have bf:=I.len L az fun b=>by
  rw[E n b,A0r]
 have ai:((PH.mt.upd g1 o1).upd g2 U) g1=some o1:=by rw[Ad _ _ Q.symm,Ac]
 have a7:((PH.mt.upd g1 o1).upd g2 U) g2=some U:=Ac _ _ _;refine G.mapLen (enc:=nmV) 106 9 3 g2 U k2 kV kV kV (.inr (hA.see a7)) L<|G.eT k2.length ((A2 P g).length:Int)<|G.giveP (ma:=m4) (sm:=PH.mt) kV (Vr _).symm (fun g=>.inr rfl) (fun g=>.inl rfl) ?_;intro u9 l9 ac;exact G.r (.tuple #[.agg #[.int .i64 f,.int .i64 g,.slice qa X.length qc,.map (some g1),.map (some g2)],.bool true]) ⟨rfl,.inl ⟨n,_,rfl,qa,qc,g1,g2,o1,U,k2,rfl,hA.list ac,ac _ _ (hA.see ai),W,ac _ _ (hA.see a7),L,I⟩⟩
end
section
variable {n:Nat}{p:Par}
structure Ii (u:PH)(v cv:Value)(T:List (List UInt8×Nat))(R:List Bw)(F:List Ao)(lab:Int)(L:List Cr)(K k i j a a' m m':Nat):Prop where
 w:Mx u v cv T R F lab (Ax F lab L) K k
 tup:∀ y∈L,Bp T y.1/\1<=y.2.1
 hi:F[i]?=some (a,2,m)
 hj:F[j]?=some (a',2,m')
 ne:i≠j
section
variable {u:PH} {v cv:Value} {T:List (List UInt8×Nat)} {R:List Bw} {F:List Ao} {lab:Int} {L:List Cr} {K k i j a a' m m':Nat} {P:List Par}
def Ii.mono {u':PH}(h:Ii u v cv T R F lab L K k i j a a' m m')(hl:PH.le u u'):Ii u' v cv T R F lab L K k i j a a' m m':=⟨h.w.mono hl,h.tup,h.hi,h.hj,h.ne⟩
def Ii.met (h:Ii u v cv T R F lab L K k i j a a' m m')(t:Dk F (Ax F lab L) P):∀ x∈A2 P (i:Int),Fh (Ax F lab L) P (i:Int) (j:Int) x≠[]:=fun x H e=>by
 obtain⟨y,I,E,z⟩:=(Fz h.w.ok h.tup t h.hi).1 H;have d:=(O1 h.w.ok h.tup t h.hi h.hj).2 ⟨y,I,E,z,rfl⟩;rw[e]at d;cases d
def Ii.onto (h:Ii u v cv T R F lab L K k i j a a' m m')(d:Dk F (Ax F lab L) P)(e:∀ x∈A2 P (i:Int),(Fh (Ax F lab L) P (i:Int) (j:Int) x).length=1):∀ b,b∈A2 P (j:Int)↔∃ x∈A2 P (i:Int),tgL (Ax F lab L) P (i:Int) (j:Int) x=b:=fun b =>
 Avr h.w.ok h.tup d h.hi h.hj ((U6 h.w.ok h.tup d h.hi h.hj).1 e)
def Ii.iff (h:Ii u v cv T R F lab L K k i j a a' m m')(d:Dk F (Ax F lab L) P):(∀ x∈A2 P (i:Int),(Fh (Ax F lab L) P (i:Int) (j:Int) x).length=1)↔Fw F lab L a a':=U6 h.w.ok h.tup d h.hi h.hj
def Ii.dep (h:Ii u v cv T R F lab L K k i j a a' m m')(d:Dk F (Ax F lab L) P)(e:Fw F lab L a a'):Dep P (Ax F lab L) (i:Int) (j:Int) (tgL (Ax F lab L) P (i:Int) (j:Int)):=Ayu h.w.ok h.tup d h.ne h.hi h.hj e
def At3 (F:List Ao)(lab:Int)(L:List Cr)(i j a a':Nat)(r:Value)(u:PH):Prop :=
 (Fw F lab L a a'/\∃ (P:List Par) (pa:Option Addr) (pc:Nat) (lv:Value),Dk F (Ax F lab L) P/\P.length<=24/\r=.tuple #[.slice pa P.length pc,lv,.int .i64 0]/\Ab u (.slice pa P.length pc) 2 (P.map An)/\Zn u lv (i:Int) (j:Int) (A2 P (i:Int)) (tgL (Ax F lab L) P (i:Int) (j:Int))) \/
 (¬ Fw F lab L a a'/\r=.tuple #[.slice none 0 0,Ahr,.int .i64 16])
def Mk (P:List Par)(g:Int):Nat->List Nat
 |0=>[0]
 |n+1=>Mk P g n++if (P.getD n (0,[])).1=g then [] else [n+1]
def Afy {g:Int}(h:P[n]?=some p):Mk P g (n+1)=Mk P g n++if p.1=g then [] else [n+1]:=by
 show _++(if (P.getD n (0,[])).1=g then [] else [n+1])=_;rw[A0j,h];rfl
def Aon {g:Int}(h:P[n]?=some p):Au (P.take (n+1)) g=Au (P.take n) g++if p.1=g then [] else [p]:=by
 unfold Au;rw[A0t,h,A35,A4j];by_cases e:p.1=g
 ·rw[if_pos e,A36 (by simpa using e)];rfl
 rw[if_neg e,A48 (by simpa using e)];rfl
def Au9 (A B:List Par):Ae (A++B)=Ae A++B.map some:=by unfold Ae;rw[A02];rfl
def Ab6 {g:Int}:∀ n,n<=P.length->(Mk P g n).map (fun a=>(Ae P).getD a none)=Ae (Au (P.take n) g)
 |0,_=>by rw[A5y];rfl
 |n+1,h=>by
  obtain⟨p,hp⟩:∃ p,P[n]?=some p:=⟨_,A0i h⟩;rw[Afy hp,Aon hp,A02,Ab6 n oV,Au9]
  congr 1
  by_cases e:p.1=g
  ·rw[if_pos e,if_pos e];rfl
  rw[if_neg e,if_neg e];show [(Ae P).getD (n+1) none] = [some p];unfold Ae;rw[A4p,A0j,A0n,hp];rfl
def Ari {g:Int}:∀ n,∀ a∈Mk P g n,a<=n
 |0,a,h=>by rw[A07.1 h];exact A0s 0
 |n+1,a,h=>by
  rcases A04.1 h with h|h
  ·have:=Ari n a h;omega
  split at h
  ·cases h
  rw[A07.1 h];exact A0s _
def Ac3 {g:Int}(h:n<=P.length):(Mk P g n).length=(Au (P.take n) g).length+1:=by
 have:=congrArg List.length (Ab6 (g:=g) n h);rw[A0k,Ba]at this;exact this
def Awz {g:Int}{n x:Nat}(h:(Mk P g P.length)[n]?=some x):x<=P.length/\n<(Au P g).length+1/\(Ae P).getD x none=(Ae (Au P g)).getD n none:=by
 have d:=Ab6 (P:=P) (g:=g) P.length (A0s _);rw[A05]at d;refine⟨Ari _ _ (A0w h),?_,?_⟩
 ·have:=(A0o.1 h).1;rw[Ac3 (A0s _),A05]at this;exact this
 rw[<-d,A0j (l:=List.map _ _),A0n,h];rfl
def Akm (d:Ic u v T R F lab)(e:F[i]?=some (a,2,m))(t:F.length<=100):Fn0 prog 80 [v,.int .i64 i] u fun r _=>r=.bool true:=by
 have h:=Au7 d e t;rwa[decide_eq_true rfl]at h
def Ro (h:Ii u v cv T R F lab L K k i j a a' m m'):Fn0 prog 36 [v,cv,.agg #[.int .i64 i,.int .i64 j]] u fun r e=>At3 F lab L i j a a' r e:=by
 have N:=V2 h.w.sch h.w.ok h.w.cof h.w.sC h.w.vC (A0l h.w.K oV) h.w.bel;have H:=h.w.p24;have a4:=h.w.ok.f2;have Z:=(A0o.1 h.hi).1;have a0:=(A0o.1 h.hj).1;have a5:=h.ne;have X:=fun (e:PH) (l:PH.le u e)=>Akm (h.w.sch.mono l) h.hi oV;have Y:=fun (e:PH) (l:PH.le u e)=>Akm (h.w.sch.mono l) h.hj oV;have W:=fun (e:PH) (l:PH.le u e) (P:List Par) (pv:Value) (d:Dk F (Ax F lab L) P) (hP:Ab e pv 2 (P.map An)) (hl:P.length<=1000)=>Aib (f:=(i:Int)) (g:=(j:Int)) (h.w.cof.mono l) (A0l h.w.K oV) hP hl (d.1.nodup Dl) (h.met d) (h.onto d);have t:=fun (P:List Par) (d:Dk F (Ax F lab L) P)=>h.iff d;obtain⟨xa,xc,xb,xd,xe,xf,rfl,_⟩:=id h.w.sch;obtain⟨a1,n1,c1,a2,n2,c2,rfl⟩:=id h.w.cof.opn;refine Fn0.o func36<|G.c call79 N ?_;intro v1 u1 l1 hp;obtain⟨ps,P,rfl,V,_,d⟩:=hp.resolve_left fun⟨_,L,U,d⟩=>by have:=H L d;omega
 have I:=H P d;obtain⟨pa,pc,rfl⟩:=V.opn;rw[A0k]at V⊢;refine G.nF 0 0<|G.buildU 3 1 8 (.int .i64 0) (Ai [i,j]) kV (A4 [i,j]) rfl oV (by simp[Ai]) (by simp[Ai]) ?_;intro g2 u2 l2 e2;refine G.l (ι:=Nat) (fun n=>[(3,.p 0 0),(4,.p 1 0),(5,.p 2 0),(7,.p 4 0),(9,sV pa P.length pc),(29,sV (some ⟨g2,0,none⟩) 2 2),(30,iV 2),(31,iV n)])
  (fun _=>[(0,⟨28,[sV xa T.length xc,sV xb R.length xd,sV xe F.length xf,iV lab]⟩),(1,⟨34,[tV (Ag (Ax F lab L).c),sV a1 n1 c1,sV a2 n2 c2]⟩),(2,⟨40,[iV i,iV j]⟩),(4,⟨108,[iV 0,iV 0,sV none 0 0,.v (.map none),.v (.map none)]⟩)])
  (fun n e m'=>n<=2/\m'=PH.mt) (fun n=>2-n) 0 ⟨oV,rfl⟩ ?_
 rintro J n hJ u3 m3 O ⟨hn,rfl⟩;by_cases a3:n<2
 ·refine G.lT n 2 ?_;obtain⟨z,hz,e3⟩:∃ z:Nat,z<F.length/\ElP u3 g2 (0+n*1) (.int .i64 z):=by
   rcases (by omega:n=0\/n=1) with rfl|rfl
   ·exact⟨i,Z,(e2.mono O) 0 _ rfl⟩
   exact⟨j,a0,(e2.mono O) 1 _ rfl⟩
  exact G.a g2 0 2 2 n 1 a3<|G.lU none g2 (0+n*1) (.int .i64 z) e3<|G.lF z 0<|G.hF z F.length<|G.eF i j<|G.i n<|G.b (hJ (n+1) _ _ _ cV O ⟨oV,rfl⟩ oV)
 obtain rfl:n=2:=oV;refine G.lF (2:Nat) 2 ?_;have Q:=(l1.trans l2).trans O;refine G.c call80 (X u3 Q) ?_;rintro v4 u4 l4 rfl;refine G.c call80 (Y u4 (Q.trans l4)) ?_;rintro v5 u5 l5 rfl;have E:=((l2.trans O).trans l4).trans l5;refine G.c call81 (W u5 (l1.trans E) P _ d (V.mono E) oV) ?_;rintro v6 u6 l6 (⟨U,lv,rfl,hlv⟩|⟨U,rfl⟩)
 ·obtain⟨qa,qc,g7,g8,o7,o8,k8,rfl,_⟩:=id hlv;exact G.r (.tuple #[.slice pa P.length pc,.agg #[.int .i64 i,.int .i64 j,.slice qa (A2 P (i:Int)).length qc,.map (some g7),.map (some g8)],.int .i64 0]) ⟨rfl,.inl ⟨(t P d).1 U,P,pa,pc,_,d,I,rfl,V.mono (E.trans l6),hlv⟩⟩
 unfold Ahr;exact G.r (.tuple #[.slice none 0 0,Ahr,.int .i64 16]) ⟨rfl,.inr ⟨fun hd=>U ((t P d).2 hd),rfl⟩⟩
def Awp (F:List Ao)(lab:Int)(L:List Cr)(i j a a':Nat)(r:Value)(u:PH):Prop :=
 (Fw F lab L a a'/\∃ (P:List Par) (qa:Option Addr) (qc:Nat),Dk F (Ax F lab L) P/\r=.tuple #[.slice qa (A2 P (i:Int)).length qc,.int .i64 0]/\Ab u (.slice qa (A2 P (i:Int)).length qc) 2 ((A2 P (i:Int)).map fun x=>Ix (x,tgL (Ax F lab L) P (i:Int) (j:Int) x))) \/
 (¬ Fw F lab L a a'/\r=.tuple #[.slice none 0 0,.int .i64 16])
def Akp (h:Ii u v cv T R F lab L K k i j a a' m m'):Fn0 prog 11 [v,cv,.agg #[.int .i64 i,.int .i64 j]] u fun r z=>Awp F lab L i j a a' r z:=by
 have d:=Ro h;obtain⟨xa,xc,xb,xd,xe,xf,rfl,_⟩:=id h.w.sch;obtain⟨E,V,I,H,W,J,rfl⟩:=id h.w.cof.opn;refine Fn0.o func11<|G.c call36 d ?_;rintro v1 Z U (⟨hd,P,pa,pc,lv,hPL,_,rfl,hL,hlv⟩|⟨hd,rfl⟩)
 ·obtain⟨e,qc,N,O,X,Y,Q,rfl,t,_⟩:=hlv;exact G.r (.tuple #[.slice e (A2 P (i:Int)).length qc,.int .i64 0]) ⟨rfl,.inl ⟨hd,P,e,qc,hPL,rfl,t⟩⟩
 unfold Ahr;exact G.r (.tuple #[.slice none 0 0,.int .i64 16]) ⟨rfl,.inr ⟨hd,rfl⟩⟩
def Ti (h:Ii u v cv T R F lab L K k i j a a' m m'):Fn0 prog 12 [v,cv,.agg #[.int .i64 i,.int .i64 j]] u fun r Y=>(Fw F lab L a a'/\r=.bool true)\/(¬ Fw F lab L a a'/\r=.bool false):=by
 have d:=Ro h;obtain⟨xa,xc,xb,xd,xe,xf,rfl,_⟩:=id h.w.sch;obtain⟨e,Q,z,t,U,E,rfl⟩:=id h.w.cof.opn;refine Fn0.o func12<|G.c call36 d ?_;rintro v1 Z O (⟨hd,P,pa,pc,lv,hPL,_,rfl,hL,hlv⟩|⟨hd,rfl⟩)
 ·obtain⟨X,qc,H,I,V,W,N,rfl,J,_⟩:=hlv;exact G.eT' 0 0 rfl<|G.r (.bool true) ⟨rfl,.inl ⟨hd,rfl⟩⟩
 unfold Ahr;exact G.eF 16 0<|G.r (.bool false) ⟨rfl,.inr ⟨hd,rfl⟩⟩
end
section
variable {u:PH} {lv:Value} {C:CF} {P:List Par} {f g:Int}
def U1 (hp:p∈P)(h:p.1=f):p.2∈A2 P f:=Qv.2 (by subst h;exact hp)
theorem Auw (hL:Zn u lv f g (A2 P f) (tgL C P f g))(hl:P.length<=1000){p q:Par}(hp:p∈P)(hq:q∈P) :
 Fn0 prog 62 [lv,An p,An q] u fun r u'=>A9 u' r (P7 P f (tgL C P f g) (some p) (some q)):=by
 have Q:=fun h=>U1 (f:=f) hp h;have Y:=fun h=>U1 (f:=f) hq h;have ao:=Mr (P:=P) (f:=f);rw[Q8,Xu];obtain⟨sz,a2⟩:∃ s,s=Pe C P f g (tgL C P f g p.2):=⟨_,rfl⟩;have ap:sz<=1000:=by
  have:Pe C P f g (tgL C P f g p.2)<=(A2 P f).length:=U7;omega
 have d:Fr ((A2 P f).map (tgL C P f g)) (tgL C P f g p.2)=sz:=by rw[a2];exact Aei _
 rw[<-a2];obtain⟨a,c,g1,g2,o1,o2,l2,rfl,hA,Z,N,ae,ad,W⟩:=hL;generalize tgL C P f g=tg at N W d⊢;generalize A2 P f=X at hA N W d Q Y⊢;obtain⟨U,J⟩:=p;obtain⟨V,O⟩:=q;simp only at Q Y d⊢;refine Fn0.o func62<|G.c call47 (O5 (z:=0) oV oV) ?_;intro v1 u1 l1 k1;obtain⟨b1,a1,n1,c1,E,t,I,H,rfl⟩:=k1.opn;obtain⟨o,ho,af⟩:∃ o:Rat,o=(if ((U,J):Par)=(V,O) then 1 else 0)/\Sz o 1:=⟨_,rfl,by
  split
  ·exact Qd (z:=1) fV
  exact Qu⟩
 rw[<-ho];refine dite (((U,J):Par)=(V,O)) (fun e=>?A) (fun e=>?B)
 case' A =>
  refine G.eqAgg 78 #[.int .i64 U,.string (mkS J)] #[.int .i64 V,.string (mkS O)] true kV kV kV (fun w=>by rw[<-decide_eq_true e];exact Bo.eq (U,J) (V,O) w)<|G.c call47 (O5 (z:=1) oV oV) ?_;intro v2 u1 lx k2;obtain⟨b1,a1,n1,c1,E,t,I,H,rfl⟩:=k2.opn;have l1:=l1.trans lx;have ko:A9 u1 (.agg #[.bool b1,.slice a1 n1 c1,.bool E,.slice t I H]) o:=by rw[ho,if_pos e];exact k2
 case' B =>
  refine G.eqAgg 78 #[.int .i64 U,.string (mkS J)] #[.int .i64 V,.string (mkS O)] false kV kV kV (fun w=>by rw[<-decide_eq_false e];exact Bo.eq (U,J) (V,O) w) ?_;have ko:A9 u1 (.agg #[.bool b1,.slice a1 n1 c1,.bool E,.slice t I H]) o:=by rw[ho,if_neg e];exact k1
 all_goals
  clear k1;by_cases h1:U=f
  rotate_left
  ·exact G.nT' U f h1<|G.r (.agg #[.bool b1,.slice a1 n1 c1,.bool E,.slice t I H]) ⟨rfl,by rw[if_neg fun h=>h1 h.1,show o-0=o by grind];exact ko⟩
  refine G.nF U f ?_;by_cases h2:V=f
  rotate_left
  ·exact G.nT' V f h2<|G.r (.agg #[.bool b1,.slice a1 n1 c1,.bool E,.slice t I H]) ⟨rfl,by rw[if_neg fun h=>h2 h.2.1,show o-0=o by grind];exact ko⟩
  refine G.nF V f<|G.mapGet (et:=9) Fu (.string (mkS [])) g1 o1 (X.map fun x=>(x,nmV (tg x))) J false kV kV (.inl (l1 _ _ Z)) N ?_;rw[Nu (Q h1)];refine G.mapGet (et:=9) Fu (.string (mkS [])) g1 o1 (X.map fun x=>(x,nmV (tg x))) O false kV kV (.inl (l1 _ _ Z)) N ?_;rw[Nu (Y h2)];by_cases h3:tg J=tg O
  rotate_left
  ·exact G.x (tg J) (tg O) h3<|G.r (.agg #[.bool b1,.slice a1 n1 c1,.bool E,.slice t I H]) ⟨rfl,by rw[if_neg fun h=>h3 h.2.2,show o-0=o by grind];exact ko⟩
  refine G.y (tg J) (tg O) h3 ?_;rw[if_pos ⟨h1,h2,h3⟩];refine G.mapGet (et:=9) Fu (.string (mkS [])) g1 o1 (X.map fun x=>(x,nmV (tg x))) J false kV kV (.inl (l1 _ _ Z)) N ?_;rw[Nu (Q h1)];refine G.mapGet (et:=3) Fu (.int .i64 0) g2 o2 l2 (tg J) false kV kV (.inl (l1 _ _ ae)) ad ?_;rw[W.look (tg J),d];refine G.p 1 sz (1+sz:Nat)<|G.c call47 (O5 (z:=1) oV oV) ?_;intro v3 u3 l3 k3;obtain⟨b3,a3,n3,c3,a9,a7,ag,ab,rfl⟩:=k3.opn;have aq:=l1.trans l3;refine G.c call47 (O5 (z:=((1+sz:Nat):Int)) oV oV) ?_;intro v4 u4 l4 k4;obtain⟨b4,a4,n4,c4,ak,ai,ar,am,rfl⟩:=k4.opn;have e4:((((1+sz:Nat):Int)):Rat)=1+(sz:Rat):=by rw[A1f,A4f];rfl
  have a0:1+(sz:Rat)≠0:=by
   rw[<-e4,A1f];exact Jf oV
  have s4:Sz (1+(sz:Rat)) 1:=by rw[<-e4];exact Qd oV
  rw[e4]at k4;have k3:A9 u4 (.agg #[.bool b3,.slice a3 n3 c3,.bool a9,.slice a7 ag ab]) 1:=k3.mono l4;have s1:Sz (1:Rat) 1:=Qd (z:=1) fV;refine G.c call50 (Afs k3 k4 (s1.mono oV) (s4.mono oV) a0) ?_;intro v5 u5 l5 k5;obtain⟨b5,a5,n5,c5,al,aj,au,an,rfl⟩:=k5.opn;refine G.c call51 (Afb (ko.mono ((l3.trans l4).trans l5)) k5 (af.mono oV) ((Vx s1 s4 a0).mono oV)) ?_;intro v6 u6 l6 k6;obtain⟨b6,a6,n6,c6,aa,a8,ah,ac,rfl⟩:=k6.opn;exact G.r (.agg #[.bool b6,.slice a6 n6 c6,.bool aa,.slice a8 ah ac]) ⟨rfl,k6⟩
end
end
section
structure Amc (F:List Ao)(lab:Int)(L:List Cr)(i:Nat)(N:Nat):Prop where
 p10:∀ P,Dk F (Ax F lab L) P->P.length<=10/\(A2 P (i:Int)).length<=5
 cd:Ib N (Ax F lab L)
 N:N<=14436727200
 psd:∀ (P:List Par) z,0<=Cp z P (Ax F lab L)
 sq:∀ (P:List Par) z,0<=sqC z P (Ax F lab L)
def Ae0 {u:PH}{es:List Value}{g:List (List (List UInt8))}{r:List (List UInt8)}{a:Option Addr}{c:Nat}(h:F5 u es g)(E:Ck u (.slice a r.length c) r):F5 u (es++[.slice a r.length c]) (g++[r]):=by
 refine⟨by rw[A03,A03,h.1];rfl,fun j x d=>?_⟩;by_cases n:j<g.length
 ·rw[A09 n]at d;obtain⟨a',t,z,C⟩:=h.2 j x d;exact⟨a',t,by rw[A09 (by rw[h.1];exact n)];exact z,C⟩
 rw[A1d oV]at d;have e:j-g.length=0:=by
  have:=(A0o.1 d).1;simp at this;omega
 rw[e]at d;cases d;exact⟨a,c,by rw[A1d (by rw[h.1];omega),h.1,e];rfl,E⟩
section
variable {u:PH} {v cv:Value} {T:List (List UInt8×Nat)} {R:List Bw} {F:List Ao} {lab:Int} {L:List Cr} {K k i j a a' m m' N:Nat} {P:List Par} {q:Rat}
def Ii.some (h:Ii u v cv T R F lab L K k i j a a' m m')(z:k≠0)(t:Dk F (Ax F lab L) P):∃ x,x∈A2 P (i:Int):=by
 have e:=h.w.mom.cpos z;have n:=(Lf (F:=F) (lab:=lab) (L:=L)).1;rw[n]at e;obtain⟨y,g,d⟩:=Ab9 (Abw e);cases hb:Df F lab y.1 with
 |false =>
  have:=(Zu h.w.ok (h.tup y g).1 hb).c;rw[this,A32]at d;exact absurd rfl d
 |true=>exact⟨_,(Fz h.w.ok h.tup t h.hi).2 ⟨y,g,hb,rfl⟩⟩
def Ii.ne0 (h:Ii u v cv T R F lab L K k i j a a' m m')(n:k≠0)(g:Dk F (Ax F lab L) P):P≠[]:=fun e=>by
 obtain⟨x,d⟩:=h.some n g;rw[e]at d;cases d
def Atk (F:List Ao)(lab:Int)(L:List Cr)(k i j a a':Nat)(q:Rat)(r:Value)(u:PH):Prop :=
 (¬ Fw F lab L a a'/\r=.tuple #[Ang,.int .i64 16])\/(Fw F lab L a a'/\k=0/\r=.tuple #[Ang,.int .i64 12]) \/
 (Fw F lab L a a'/\k≠0/\∃ (P:List Par) (na:Option Addr) (nc:Nat) (xa:Option Addr) (xc:Nat) (ra:Option Addr) (rc:Nat),Dk F (Ax F lab L) P /\
  r=.tuple #[.agg #[.slice na (Au P (j:Int)).length nc,.slice xa ((Au P (j:Int)).length+1) xc,.slice ra ((Au P (j:Int)).length+1) rc],.int .i64 0] /\
  Ab u (.slice na (Au P (j:Int)).length nc) 2 ((Au P (j:Int)).map An)/\Fm u (.slice xa ((Au P (j:Int)).length+1) xc) (Dv (Ed (Ax F lab L) P q (i:Int) (j:Int) (tgL (Ax F lab L) P (i:Int) (j:Int)))) /\
  Ck u (.slice ra ((Au P (j:Int)).length+1) rc) ((Abz (Ax F lab L) P (j:Int)).map Ag))
def Aiq (ht:Ls u)(h:Ii u v cv T R F lab L K k i j a a' m m')(hn:Amc F lab L i N)(hq:Gw q) :
 Fn0 prog 22 [v,cv,.agg #[.int .i64 i,.int .i64 j],.string (mkS (Ag q))] u fun r u'=>Atk F lab L k i j a a' q r u':=by
 have dr:=Ro h;have dl:=fun (u':PH) (l:PH.le u u')=>(Ah4 (h.w.mono l)).giveAll;have ci:=fun (hk:k≠0) (P:List Par) (hP:Dk F (Ax F lab L) P)=>h.ne0 hk hP;have af:=h.w.mom;have di:=h.w.cellDe;have eo:=fun (P:List Par) (hP:Dk F (Ax F lab L) P) (hd:Fw F lab L a a')=>h.dep hP hd;obtain⟨ag,dh,hN,_,_⟩:=hn;obtain⟨xa,xc,xb,xd,xe,xf,rfl,_⟩:=id h.w.sch;obtain⟨a1,n1,c1,a2,n2,c2,rfl⟩:=id h.w.cof.opn;clear h;refine Fn0.o func22<|G.c call36 dr ?_;rintro v1 u1 l1 (⟨hd,P,pa,pc,lv,hPL,_,rfl,hL,hlv⟩|⟨hd,rfl⟩)
 rotate_left
 ·unfold Ahr;exact G.nT 16 0<|G.r (.tuple #[Ang,.int .i64 16]) ⟨rfl,.inl ⟨hd,rfl⟩⟩
 generalize hC:Ax F lab L=C at *
 obtain⟨qa,qc,g7,g8,o7,o8,k8,rfl,_⟩:=id hlv;refine G.nF 0 0<|G.c call58 (dl u1 l1) ?_;rintro v2 u2 l2 ⟨u0,fg,f9,cg,d,bt,bu,ya,yc,ra,rc,et,ay,rfl,dg,E,z⟩;obtain rfl:=ay.eq hPL;have hM:Fm u2 (.slice ya (d.length+1) yc) (Dv (Kx C d)):=Akl (v:=.bool true) z E cg;obtain⟨fi,W,_⟩:=z.focus 0 rfl;rw[Fi]at W;have hR:Ck u2 (.slice ra (d.length+1) rc) ((Wy C d).map Ag):=by
  unfold Ck Wy;rw[<-Nq];exact W.list cg
 clear z E W dg ay;have em:=(ag _ hPL).1;have fa:=hPL.1.nodup Dl;refine G.nF 0 0<|G.c call59 (Ge hq.tx) ?_;rintro v3 u3 l3 rfl;refine G.c call60 (Ads hq.tx) ?_;rintro v4 u4 l4 rfl;have fb:sgn q.num=1:=Db (Agm hq.pos);refine G.kF (sgn q.num) 0<|G.c call60 (Ads af.tx) ?_;rintro v5 u5 l5 rfl;by_cases h0:k=0
 ·have hz:sgn C.c.num=0:=A0e.2 (by rw[af.c,h0];rfl);exact G.kT (sgn C.c.num) 0<|G.r (.tuple #[Ang,.int .i64 12]) ⟨rfl,.inr (.inl ⟨hd,h0,rfl⟩)⟩
 have hz:sgn C.c.num=1:=Db (Agm (af.cpos h0));refine G.kF (sgn C.c.num) 0 ?_;have d1:=(l3.trans l4).trans l5;refine G.c call46 (Tw (f:=(j:Int)) (hL.mono (l2.trans d1)) (ci h0 _ hPL) oV) ?_;intro v6 u6 l6 hW;obtain⟨na,nc,rfl⟩:=hW.opn;rw[A0k]at hW⊢;have dq:(Au d (j:Int)).length<=d.length:=R8;refine G.hF ((Au d (j:Int)).length:Int) 12 ?_;obtain⟨Q,hQ⟩:∃ Q,Au d (j:Int)=Q:=⟨_,rfl⟩;refine G.buildM 3 1 8 (.int .i64 0) (Ai [0]) kV (A4 [0]) rfl oV (by simp[Ai]) (by simp[Ai]) ?_;intro dd m7 c4;refine G.l (ι:=Nat×(Option Addr×Nat)) (fun n=>[(3,tV (Ag q)),(6,.p 2 0),(8,.p 3 0),(11,.p 1008 0),(13,.p 4006 0),(14,.p 13005 0),(15,sV n.2.1 (Mk d (j:Int) n.1).length n.2.2),(76,sV pa d.length pc),(77,iV d.length),(78,iV n.1)])
  (fun n=>[(2,⟨40,[iV i,iV j]⟩),(3,⟨72,[sV none 0 0,sV none 0 0,sV none 0 0]⟩),(1008,⟨108,[iV i,iV j,sV qa (A2 d (i:Int)).length qc,.v (.map (some g7)),.v (.map (some g8))]⟩),
   (4006,⟨72,[.v (.slice bt d.length bu),.v (.slice ya (d.length+1) yc),.v (.slice ra (d.length+1) rc)]⟩),(13005,⟨72,[.v (.slice na (Au d (j:Int)).length nc),.v (.slice none 0 0),.v (.slice none 0 0)]⟩)])
  (fun n u' m'=>n.1<=d.length/\Af PH.mt m' (.slice n.2.1 (Mk d (j:Int) n.1).length n.2.2) 3 1 (Ai (Mk d (j:Int) n.1))) (fun n=>d.length-n.1) (0,(some ⟨dd,0,none⟩,1)) ⟨oV,c4⟩ ?_
 clear c4;rintro J ⟨n,⟨ka,kc⟩⟩ hJ u8 m8 l8 ⟨dp,ac⟩;simp only at dp ac hJ;have d2:=(d1.trans l6).trans l8;by_cases au:n<d.length
 ·refine G.lT n d.length ?_;obtain⟨p,hp⟩:∃ p,d[n]?=some p:=⟨_,A0i au⟩;have av:=Afy (g:=(j:Int)) hp;have bg:=Ac3 (P:=d) (g:=(j:Int)) (n:=n) oV;have ck:(Au (d.take n) (j:Int)).length<=(d.take n).length:=R8;rw[A0q]at ck;obtain⟨b,o,e0,e⟩:=Ab.at' (hL.mono (l2.trans d2)) (j:=n) (e:=An p) (by simp[hp]);subst e0;obtain⟨p1,p2⟩:=p;refine G.a b o d.length pc n 2 au<|G.lU (some 2) b (o+n*2) (.agg #[.int .i64 p1,.string (mkS p2)]) e ?_;by_cases hf:p1=(j:Int)
  ·refine G.nF p1 j ?_;rw[if_pos hf,A1i]at av;refine G.i n ?_;rw[<-av]at ac⊢;exact G.b (hJ (n+1,(ka,kc)) _ _ _ cV l8 ⟨dV,ac⟩ dV)
  refine G.nT' p1 j hf ?_;rw[if_neg hf]at av;refine G.i n<|G.buildU 3 1 8 (.int .i64 0) (Ai [n+1]) kV (A4 [n+1]) rfl oV (by simp[Ai]) (by simp[Ai]) ?_;intro g9 u9 l9 e9;have cb:(Ai (Mk d (j:Int) n)).length=(Mk d (j:Int) n).length:=by simp[Ai]
  refine G.append 3 1 8 (.int .i64 0) PH.mt (Ai (Mk d (j:Int) n)) (Ai [n+1]) (.slice ka (Mk d (j:Int) n).length kc) g9 0 1 1 kV rfl rfl oV ac e9 (A4 [n+1]) rfl oV (by rw[cb];omega) (by rw[cb];omega) ?_;intro ft m10 a0;rw[show Ai (Mk d (j:Int) n)++Ai [n+1]=Ai (Mk d (j:Int) (n+1)) by rw[av];simp[Ai]]at a0;obtain⟨d4,d5,rfl⟩:=a0.shape;have cc:(Ai (Mk d (j:Int) (n+1))).length=(Mk d (j:Int) (n+1)).length:=by simp[Ai]
  rw[cc]at a0⊢;exact G.i n<|G.b (hJ (n+1,(d4,d5)) _ _ _ cV (l8.trans l9) ⟨dV,a0⟩ dV)
 obtain rfl:n=d.length:=oV;refine G.lF d.length d.length ?_;clear hJ;refine G.give _ _ _ kV ac (fun g=>.inl rfl) ?_;intro u9 l9 ar;obtain⟨kp,bh⟩:∃ kp,Mk d (j:Int) d.length=kp:=⟨_,rfl⟩;have bg:=Ac3 (P:=d) (g:=(j:Int)) (n:=d.length) oV;rw[A05,hQ,bh]at bg;have b1:∀ n x,kp[n]?=some x->x<=d.length/\n<Q.length+1/\(Ae d).getD x none=(Ae Q).getD n none:=fun n x hx=>by
  rw[<-bh]at hx;have:=Awz hx;rw[hQ]at this;exact this
 rw[bh]at ar⊢;rw[bg]at ar⊢;rw[hQ]at hW dq⊢;have e3:=d2.trans l9;have ej:=Ba Q;obtain⟨I,ba⟩:∃ I,Xc d C q (i:Int) (tgL C d (i:Int) (j:Int))=I:=⟨_,rfl⟩;have c5:∀ e f,Tx (I e f):=fun e f=>by
  rw[<-ba];exact (Akg dh hN hq (fun c=>A0l U7 (ag _ hPL).2) e f).tx
 have co:∀ e f,I e f=Aq C e f+q*P7 d (i:Int) (tgL C d (i:Int) (j:Int)) e f:=fun e f=>by rw[<-ba];rfl
 refine G.l (ι:=Nat×(Option Addr×Nat)×(Option Addr×Nat)×List Value) (fun n=>[(3,tV (Ag q)),(8,.p 3 0),(11,.p 1008 0),(13,.p 4006 0),(14,.p 13005 0),(15,sV ka (Q.length+1) kc),(94,sV ka (Q.length+1) kc),(95,iV (Q.length+1:Nat)),(96,iV n.1)])
  (fun n=>[(3,⟨72,[sV none 0 0,sV none 0 0,sV none 0 0]⟩),(1008,⟨108,[iV i,iV j,sV qa (A2 d (i:Int)).length qc,.v (.map (some g7)),.v (.map (some g8))]⟩),
   (4006,⟨72,[.v (.slice bt d.length bu),.v (.slice ya (d.length+1) yc),.v (.slice ra (d.length+1) rc)]⟩),(13005,⟨72,[.v (.slice na Q.length nc),.v (.slice n.2.1.1 n.1 n.2.1.2),.v (.slice n.2.2.1.1 n.1 n.2.2.1.2)]⟩)])
  (fun n u' m'=>n.1<=Q.length+1/\Bag m' [C1 (.slice n.2.2.1.1 n.1 n.2.2.1.2,txV (((Ae Q).take n.1).map (Av C))),⟨.slice n.2.1.1 n.1 n.2.1.2,70,1,n.2.2.2⟩]/\F5 u' n.2.2.2 (Dv (((Ae Q).take n.1).map fun e=>(Ae Q).map (I e)))) (fun n=>Q.length+1-n.1)
  (0,(none,0),(none,0),[]) ⟨oV,⟨PH.mt,Af.nil _ _ _,PH.mt,Af.nil _ _ _,trivial⟩,rfl,fun j r h=>by simp[Dv]at h⟩ ?_
 rintro J ⟨n,⟨wa,wc⟩,⟨sa,sc⟩,es⟩ hJ fk m10 a8 ⟨ch,z,E⟩;simp only at ch z E hJ;have b7:=e3.trans a8;by_cases au:n<Q.length+1
 ·refine G.lT n (Q.length+1:Nat) ?_;obtain⟨x,hx⟩:∃ x,kp[n]?=some x:=⟨_,A0i oV⟩;obtain⟨fd,_,cq⟩:=b1 n x hx;obtain⟨en,c8⟩:∃ en,(Ae Q).getD n none=en:=⟨_,rfl⟩;rw[c8]at cq;have a4:(Ae Q)[n]?=some en:=by rw[<-c8,A0j,A0i oV];rfl
  have cr:(Ae d)[x]?=some en:=by rw[<-cq,A0j,A0i (by rw[Ba];omega)];rfl
  have cp:(Ae Q).take (n+1)=(Ae Q).take n++[en]:=by rw[A0t,a4];rfl
  obtain⟨bk,ok,e0,ek⟩:=Ab.at' (ar.mono a8) (j:=n) (e:=.int .i64 x) (by simp[Ai,hx]);subst e0;refine G.a bk ok (Q.length+1) kc n 1 au<|G.lU none bk (ok+n*1) (.int .i64 x) ek ?_;obtain⟨br,or,e0,er⟩:=Ab.at' (Ab.mono hR b7) (j:=x) (e:=.string (mkS (Ag (Av C en)))) (by unfold B4 Wy;rw[A0n,A0n,A0n,cr];rfl);subst e0;refine G.a br or (d.length+1) rc x 1 oV<|G.lU none br (or+x*1) (.string (mkS (Ag (Av C en)))) er<|G.B 30 1 16 (.string (mkS [])) [.string (mkS (Ag (Av C en)))] (Do _) ?_;intro da fl ak d6;obtain⟨mr,bm,O⟩:=z.focus 0 rfl;rw[Fi]at bm;have b2:(txV (((Ae Q).take n).map (Av C))).length=n:=by rw[Cw,A0k,A0q];omega
  refine G.append 30 1 16 (.string (mkS [])) mr (txV (((Ae Q).take n).map (Av C))) [.string (mkS (Ag (Av C en)))] (.slice sa n sc) da 0 1 1 kV rfl rfl oV bm d6 (Do _) rfl oV (by rw[b2];omega) (by rw[b2];omega) ?_;intro fu d3 U;rw[show txV (((Ae Q).take n).map (Av C))++[.string (mkS (Ag (Av C en)))]=txV (((Ae Q).take (n+1)).map (Av C)) by rw[cp,A02,Hs];rfl]at U;obtain⟨am,ap,rfl⟩:=U.shape;have cd:(txV (((Ae Q).take (n+1)).map (Av C))).length=n+1:=by rw[Cw,A0k,A0q];omega
  rw[cd]at U⊢;have ae:=O (C1 (.slice am (n+1) ap,txV (((Ae Q).take (n+1)).map (Av C)))) d3 U;simp only[A2y]at ae;clear z O bm U;have cy:=b7.trans ak;refine G.l (ι:=Nat×(Option Addr×Nat)) (fun t=>[(3,tV (Ag q)),(8,.p 3 0),(11,.p 1008 0),(13,.p 4006 0),(14,.p 13005 0),(15,sV (some ⟨bk,ok,none⟩) (Q.length+1) kc),(18,iV n),(19,iV x),(20,sV t.2.1 t.1 t.2.2),(94,sV (some ⟨bk,ok,none⟩) (Q.length+1) kc),(95,iV (Q.length+1:Nat)),(96,iV n),
   (111,.v (.slice (some ⟨bk,ok,none⟩) (Q.length+1) kc)),(112,.v (.int .i64 (Q.length+1:Nat))),(113,.v (.int .i64 t.1))])
   (fun t=>[(3,⟨72,[sV none 0 0,sV none 0 0,sV none 0 0]⟩),(1008,⟨108,[iV i,iV j,sV qa (A2 d (i:Int)).length qc,.v (.map (some g7)),.v (.map (some g8))]⟩),
    (4006,⟨72,[.v (.slice bt d.length bu),.v (.slice ya (d.length+1) yc),.v (.slice (some ⟨br,or,none⟩) (d.length+1) rc)]⟩),(13005,⟨72,[.v (.slice na Q.length nc),.v (.slice wa n wc),.v (.slice am (n+1) ap)]⟩)])
   (fun t u' m'=>t.1<=Q.length+1/\Bag m' [C1 (.slice t.2.1 t.1 t.2.2,txV (((Ae Q).take t.1).map (I en))),C1 (.slice am (n+1) ap,txV (((Ae Q).take (n+1)).map (Av C))),⟨.slice wa n wc,70,1,es⟩]) (fun t=>Q.length+1-t.1)
   (0,(none,0)) ⟨oV,d3,Af.nil _ _ _,ae⟩ ?_
  clear ae;rintro J2 ⟨r,⟨ta,tc⟩⟩ bb fm fh a9 ⟨cn,z⟩;simp only at cn z bb;have al:=cy.trans a9;by_cases dk:r<Q.length+1
  ·refine G.lT r (Q.length+1:Nat) ?_;obtain⟨y,hy⟩:∃ y,kp[r]?=some y:=⟨_,A0i oV⟩;obtain⟨ff,_,cs⟩:=b1 r y hy;obtain⟨H,c9⟩:∃ H,(Ae Q).getD r none=H:=⟨_,rfl⟩;rw[c9]at cs;have V:(Ae Q)[r]?=some H:=by rw[<-c9,A0j,A0i oV];rfl
   have dy:(Ae d)[y]?=some H:=by rw[<-cs,A0j,A0i (by rw[Ba];omega)];rfl
   have dw:(Ae Q).take (r+1)=(Ae Q).take r++[H]:=by rw[A0t,V];rfl
   obtain⟨f4,ok2,e0,d9⟩:=Ab.at' (ar.mono ((a8.trans ak).trans a9)) (j:=r) (e:=.int .i64 y) (by simp[Ai,hy]);cases e0;refine G.a bk ok (Q.length+1) kc r 1 dk<|G.lU none bk (ok+r*1) (.int .i64 y) d9 ?_;have bj:(Dv (Kx C d))[x]?=some (((Ae d).map (Aq C en)).map Ag):=by unfold Dv Kx;rw[A0n,A0n,cr];rfl
   obtain⟨bM,oM,a',c',e0,eM,eR⟩:=(hM.mono al).row bj;subst e0;have dv:(((Ae d).map (Aq C en)).map Ag).length=d.length+1:=by rw[A0k,A0k,Ba]
   rw[dv]at eM eR;refine G.a bM oM (d.length+1) yc x 1 oV<|G.lU none bM (oM+x*1) (.slice a' (d.length+1) c') eM ?_;obtain⟨bC,oC,rfl,eC⟩:=Ab.at' eR (j:=y) (e:=.string (mkS (Ag (Aq C en H)))) (by unfold B4;rw[A0n,A0n,A0n,dy];rfl);refine G.a bC oC (d.length+1) c' y 1 oV<|G.lU none bC (oC+y*1) (.string (mkS (Ag (Aq C en H)))) eC ?_;have c6:Tx (Aq C en H):=(di en H).tx oV oV oV oV;refine G.c call48 (Lh c6) ?_;intro fw aw aa a7;obtain⟨ao,an,ax,aq,Y,X,a6,Z,rfl⟩:=a7.opn;have a5:I en H=Aq C en H+q*P7 d (i:Int) (tgL C d (i:Int) (j:Int)) en H:=co en H;refine dite (0<n) (fun dm=>dite (0<r) (fun du=>?A) (fun du=>?B)) (fun dm=>?C)
   case' A =>
    refine G.gT n 0<|G.gT r 0 ?_;obtain⟨p,bi⟩:∃ p,Q[n-1]?=some p:=⟨_,A0i oV⟩;obtain⟨p',ah⟩:∃ p,Q[r-1]?=some p:=⟨_,A0i oV⟩;have be:en=some p:=by
     have:(Ae Q)[n-1+1]?=some (some p):=by unfold Ae;rw[A2v,A0n,bi];rfl
     rw[show n-1+1=n by omega,a4]at this;exact A2k this
    have bf:H=some p':=by
     have:(Ae Q)[r-1+1]?=some (some p'):=by unfold Ae;rw[A2v,A0n,ah];rfl
     rw[show r-1+1=r by omega,V]at this;exact A2k this
    have ds:p∈d:=(F0.1 (by rw[hQ];exact A0w bi)).1;have cl:p'∈d:=(F0.1 (by rw[hQ];exact A0w ah)).1;have ad:=hW.mono ((((l8.trans l9).trans a8).trans ak).trans (a9.trans aa));obtain⟨bp,op,e0,ep⟩:=Ab.at' ad (j:=n-1) (e:=An p) (by simp[bi]);subst e0;obtain⟨f5,fj,e0,c3⟩:=Ab.at' ad (j:=r-1) (e:=An p') (by simp[ah]);cases e0;have bl:=Ao3 (C:=C) (P:=d) (f:=(i:Int)) (g:=(j:Int)) (fun c=>A0l U7 (ag _ hPL).2) (some p) (some p');have b4:=fun (u':PH) (l:PH.le u1 u')=>Auw (hlv.mono l) oV ds cl;rw[be,bf]at a5;obtain⟨p1,p2⟩:=p;obtain⟨r1,r2⟩:=p';refine G.s n 1 (n-1:Nat)<|G.a bp op Q.length nc (n-1) 2 oV<|G.lU (some 2) bp (op+(n-1)*2) (.agg #[.int .i64 p1,.string (mkS p2)]) ep<|G.s r 1 (r-1:Nat)<|G.a bp op Q.length nc (r-1) 2 oV<|G.lU (some 2) bp (op+(r-1)*2) (.agg #[.int .i64 r1,.string (mkS r2)]) c3<|G.c call48 (Lh hq.tx) ?_;intro fx e7 bo ct;obtain⟨f1,ey,g5,f6,ed,ea,eu,eg,rfl⟩:=ct.opn;refine G.c call62 (b4 e7 (l2.trans (al.trans (aa.trans bo)))) ?_;intro fy fn bq cu;obtain⟨f2,ez,g6,f7,ee,eb,ew,eh,rfl⟩:=cu.opn;have b6:Sz (P7 d (i:Int) (tgL C d (i:Int) (j:Int)) (some (p1,p2)) (some (r1,r2))) 400:=by
     obtain⟨w,dx,fc⟩:=bl;exact (show De 2 2 _ from⟨w,60,dx,oV,oV,oV⟩).szn oV oV oV oV
    refine G.c call61 (Aq9 (ct.mono bq) cu (hq.tx.sz.mono oV) (b6.mono oV)) ?_;intro g0 fo cx cw;obtain⟨f3,f0,ga,f8,ef,ec,ex,ei,rfl⟩:=cw.opn;refine G.c call49 (Xh (a7.mono ((bo.trans bq).trans cx)) cw (c6.sz.mono oV) ((Kp hq.tx.sz b6).mono oV)) ?_;intro g1 aw dz bn;obtain⟨ao,an,ax,aq,Y,X,a6,Z,rfl⟩:=bn.opn;have aa:=(((aa.trans bo).trans bq).trans cx).trans dz;have ko:A9 aw (.agg #[.bool ao,.slice an ax aq,.bool Y,.slice X a6 Z]) (I en H):=by rw[be,bf,a5];rw[be,bf]at bn;exact bn
    clear ad ep c3 b4
   case' B =>
    refine G.gT n 0<|G.gF r 0 ?_;have ca:H=none:=by
     have cm:r=0:=oV;rw[cm]at V;unfold Ae at V;exact (A2k V).symm
    have ko:A9 aw (.agg #[.bool ao,.slice an ax aq,.bool Y,.slice X a6 Z]) (I en H):=by
     rw[a5,ca,show P7 d (i:Int) (tgL C d (i:Int) (j:Int)) en none=0 by cases en<;>rfl,A7g,A5k]
     rw[ca]at a7;exact a7
   case' C =>
    refine G.gF n 0 ?_;have cj:en=none:=by
     obtain rfl:n=0:=oV;unfold Ae at a4;exact (A2k a4).symm
    have ko:A9 aw (.agg #[.bool ao,.slice an ax aq,.bool Y,.slice X a6 Z]) (I en H):=by
     rw[a5,cj,show P7 d (i:Int) (tgL C d (i:Int) (j:Int)) none H=0 by cases H<;>rfl,A7g,A5k]
     rw[cj]at a7;exact a7
   case A|B|C =>
    have cz:=al.trans aa;refine G.c call52 (Ts (ht.mono ((l1.trans l2).trans cz)) ko (c5 en H)) ?_;rintro g2 fp e1 rfl;refine G.nF 0 0<|G.B 30 1 16 (.string (mkS [])) [.string (mkS (Ag (I en H)))] (Do _) ?_;intro db fq e2 d7;obtain⟨m0,W,O⟩:=z.focus 0 rfl;rw[Fi]at W;have b3:(txV (((Ae Q).take r).map (I en))).length=r:=by rw[Cw,A0k,A0q];omega
    refine G.append 30 1 16 (.string (mkS [])) m0 (txV (((Ae Q).take r).map (I en))) [.string (mkS (Ag (I en H)))] (.slice ta r tc) db 0 1 1 kV rfl rfl oV W d7 (Do _) rfl oV (by rw[b3];omega) (by rw[b3];omega) ?_;intro g3 e4 a3;rw[show txV (((Ae Q).take r).map (I en))++[.string (mkS (Ag (I en H)))]=txV (((Ae Q).take (r+1)).map (I en)) by rw[dw,A02,Hs];rfl]at a3;obtain⟨bw,bz,rfl⟩:=a3.shape;have ce:(txV (((Ae Q).take (r+1)).map (I en))).length=r+1:=by rw[Cw,A0k,A0q];omega
    rw[ce]at a3⊢;have az:=O (C1 (.slice bw (r+1) bz,txV (((Ae Q).take (r+1)).map (I en)))) e4 a3;simp only[A2y]at az;exact G.i r<|G.b (bb (r+1,(bw,bz)) _ _ _ cV (((a9.trans aa).trans e1).trans e2) ⟨dV,az⟩ dV)
  obtain rfl:r=Q.length+1:=oV;refine G.lF (Q.length+1:Nat) (Q.length+1:Nat) ?_;clear bb;rw[show (Ae Q).take (Q.length+1)=Ae Q by rw[A00 oV]]at z;obtain⟨e5,aj,bd⟩:=z;rw[Fi]at aj;refine G.give e5 _ _ kV aj (fun g=>.inl rfl) ?_;intro fr d0 hF;refine G.B 70 1 24 (.slice none 0 0) [.slice ta (Q.length+1) tc] (B6 _ _ _) ?_;intro dc e8 bs d8;obtain⟨m0,W,O⟩:=bd.focus 1 rfl;have dj:es.length=n:=by rw[E.1];unfold Dv;rw[A0k,A0k,A0q];omega
  refine G.append 70 1 24 (.slice none 0 0) m0 es [.slice ta (Q.length+1) tc] (.slice wa n wc) dc 0 1 1 kV rfl rfl oV W d8 (B6 _ _ _) rfl oV oV oV ?_;intro g4 e6 ab;obtain⟨bx,c0,rfl⟩:=ab.shape;have c7:(es++[Value.slice ta (Q.length+1) tc]).length=n+1:=by rw[A03,dj];rfl
  rw[c7]at ab⊢;have b0:=O ⟨.slice bx (n+1) c0,70,1,es++[Value.slice ta (Q.length+1) tc]⟩ e6 ab;simp only[A2s,A2y]at b0;have b5:(((Ae Q).map (I en)).map Ag).length=Q.length+1:=by rw[A0k,A0k,Ba]
  have df:Ck e8 (.slice ta (((Ae Q).map (I en)).map Ag).length tc) (((Ae Q).map (I en)).map Ag):=by
   rw[b5];unfold Ck;rw[<-Nq];exact hF.mono bs
  have ai:=Ae0 (E.mono ((ak.trans a9).trans (d0.trans bs))) df;rw[b5]at ai;refine G.i n<|G.b (hJ (n+1,(bx,c0),(am,ap),es++[Value.slice ta (Q.length+1) tc]) _ _ _ cV ((a8.trans ak).trans (a9.trans (d0.trans bs))) ⟨dV,b0,?_⟩ dV);dsimp only;rw[cp,A02];unfold Dv at ai⊢;rw[A02];exact ai
 obtain rfl:n=Q.length+1:=oV;refine G.lF (Q.length+1:Nat) (Q.length+1:Nat) ?_;rw[show (Ae Q).take (Q.length+1)=Ae Q by rw[A00 oV]]at z E;refine G.giveP (ma:=m10) (sm:=PH.mt) kV (Vr _).symm (fun g=>.inr rfl) (fun g=>.inl rfl) ?_;intro fs b8 b9;refine G.r (.tuple #[.agg #[.slice na Q.length nc,.slice wa (Q.length+1) wc,.slice sa (Q.length+1) sc],.int .i64 0]) ⟨rfl,.inr (.inr ⟨hd,h0,d,na,nc,wa,wc,sa,sc,?_⟩)⟩;rw[hC,hQ];refine⟨hPL,rfl,hW.mono (((l8.trans l9).trans a8).trans b8),?_,?_⟩
 ·have h1:=z.list b9 1 rfl;refine⟨es,h1,?_⟩;unfold Ed Pc;rw[hQ,ba];exact E.mono b8
 have h1:=z.list b9 0 rfl;unfold Ck Abz;rw[hQ,<-Nq];exact h1
end
end
section
variable {M:List (Par×Rat)}{sz:List UInt8->Nat}
def Auv {u:PH}{v w:Value}{Q:List Par}(E:Ab u v 2 (Q.map An))(H:Ab u w 2 (Q.map An))(hl:Q.length<=1000000) :
 Fn0 prog 45 [v,w] u fun r _=>r=.bool true:=by
 obtain⟨a,c,rfl⟩:=E.opn;obtain⟨b,d,rfl⟩:=H.opn;rw[A0k]at E H⊢;refine Fn0.o func45<|G.nF Q.length Q.length<|G.l (ι:=Nat) (fun n=>[(0,sV a Q.length c),(1,sV b Q.length d),(12,iV Q.length),(13,iV n)]) (fun _=>[])
  (fun n u' m'=>n<=Q.length/\m'=PH.mt) (fun n=>Q.length-n) 0 ⟨oV,rfl⟩ ?_
 rintro J n Z u1 m1 I ⟨hn,rfl⟩;by_cases h:n<Q.length
 ·refine G.lT n Q.length ?_;obtain⟨p,hp⟩:∃ p,Q[n]?=some p:=⟨_,A0i h⟩;obtain⟨O,V,rfl,X⟩:=Ab.at' (E.mono I) (j:=n) (e:=An p) (by simp[hp]);obtain⟨U,W,rfl,Y⟩:=Ab.at' (H.mono I) (j:=n) (e:=An p) (by simp[hp]);obtain⟨t,z⟩:=p;refine G.a O V Q.length c n 2 h<|G.lU (some 2) O (V+n*2) (.agg #[.int .i64 t,.string (mkS z)]) X<|G.a U W Q.length d n 2 h<|G.lU (some 2) U (W+n*2) (.agg #[.int .i64 t,.string (mkS z)]) Y<|G.neAgg 78 #[.int .i64 t,.string (mkS z)] #[.int .i64 t,.string (mkS z)] true kV kV kV (fun w=>by
   have:=Bo.eq (t,z) (t,z) w;rwa[decide_eq_true rfl]at this) ?_
  exact G.i n<|G.b (Z (n+1) _ _ _ cV I ⟨oV,rfl⟩ oV)
 obtain rfl:n=Q.length:=oV
 exact G.lF Q.length Q.length<|G.r (.bool true) ⟨rfl,rfl⟩
def ShM {κ:Type}[DecidableEq κ](enc:κ->Value)(u:PH)(o:Obj)(s:κ->Option Rat):Prop:=∃ l:List (κ×Value),Ep enc o l/\∀ k,(s k=none->D1 k l=none)/\∀ q,s k=some q->∃ v,D1 k l=some v/\A9 u v q
section
variable {κ:Type} [DecidableEq κ] {enc:κ->Value} {u:PH} {o:Obj} {s:κ->Option Rat}
def ShM.mono {u':PH}(h:ShM enc u o s)(hl:PH.le u u'):ShM enc u' o s:=by
 obtain⟨l,h1,h2⟩:=h;refine⟨l,h1,fun k=>⟨(h2 k).1,fun q hq=>?_⟩⟩;obtain⟨v,e,hv⟩:=(h2 k).2 q hq;exact⟨v,e,hv.mono hl⟩
def ShM.congr {d:κ->Option Rat}(h:ShM enc u o s)(e:∀ k,s k=d k):ShM enc u o d:=by
 rw[<-funext e];exact h
def ShM.empty:ShM enc u (.map #[] 0) (fun _=>none):=⟨[],Ep.empty,fun k=>⟨fun _=>rfl,fun q h=>(by cases h)⟩⟩
def ShM.put {o':Obj}{a:κ}{x:Value}{q:Rat}{l:List (κ×Value)}(n:∀ k,(s k=none->D1 k l=none)/\∀ q,s k=some q->∃ v,D1 k l=some v/\A9 u v q)(d:Ep enc o' (Is a x l))(t:A9 u x q) :
 ShM enc u o' (fun k=>if k=a then some q else s k):=by
 refine⟨_,d,fun k=>?_⟩;rw[Qi];show ((if k=a then some q else s k)=none->_)/\(∀ r,(if k=a then some q else s k)=some r->_);by_cases e:k=a
 ·rw[if_pos e,if_pos e];exact⟨fun h=>(by cases h),fun r h=>(by cases h;exact⟨x,rfl,t⟩)⟩
 rw[if_neg e,if_neg e];exact n k
end
section
variable {P:List Par} {C:CF} {q:Rat} {f g:Int} {tg:List UInt8->List UInt8} {m:Option Par->Rat} {Q:List Par} {qs:List Rat} {c0:Rat}
def shS (M:List (Par×Rat))(f:Int)(tg:List UInt8->List UInt8)(sz:List UInt8->Nat)(b:List UInt8):Rat:=Ap (fun t=>if t.1.1=f/\tg t.1.2=b then t.2/(1+(sz b:Rat)) else 0) M
def An6 {b:List UInt8}(t:Par×Rat):shS (M++[t]) f tg sz b=shS M f tg sz b+if t.1.1=f/\tg t.1.2=b then t.2/(1+(sz b:Rat)) else 0:=by
 unfold shS;rw[Sw]
theorem Aag {α:Type}{h:α->Rat}{d:Rat}:∀ l:List α,Ap (fun a=>h a/d) l=Ap h l/d
 |[]=>by show (0:Rat)=0/d;grind
 |a::l=>by
  show h a/d+Ap (fun a=>h a/d) l=(h a+Ap h l)/d;rw[Aag l];grind
def Als (n:Q.Nodup)(h:qs.length=Q.length){t:Par×Rat}(z:t∈Q.zip qs):B8 t.1 (Q.zip qs)=t.2:=by
 obtain⟨j,e,rfl⟩:=A2b.1 z;have d:j<Q.length:=by rw[A6j]at e;omega
 rw[List.getElem_zip];rw[Sp n h d];exact E7 oV
def Zs {α β:Type}{h:β->Rat}{φ:α->β}:∀ l:List α,Ap h (l.map φ)=Ap (fun a=>h (φ a)) l
 |[]=>rfl
 |a::l=>by
  show h (φ a)+Ap h (l.map φ)=h (φ a)+_;rw[Zs l]
theorem Avj (d:f≠g)(J:P.Nodup)(I:qs.length=(Au P g).length)(b:List UInt8)(z:Ct P f tg b (fun _=>1)=(sz b:Rat)) :
 shS ((Au P g).zip qs) f tg sz b=M3 P f tg (cfE c0 ((Au P g).zip qs)) b:=by
 have n:(Au P g).Nodup:=Iy J;unfold shS M3;rw[z,Aj (g:=fun t:Par×Rat=>(if t.1.1=f/\tg t.1.2=b then B8 t.1 ((Au P g).zip qs) else 0)/(1+(sz b:Rat))) fun t O=>by
  rw[Als n I O];split<;>grind,Aag]
 congr 1
 have H:=Zs (h:=fun p:Par=>if p.1=f/\tg p.2=b then B8 p ((Au P g).zip qs) else 0) (φ:=fun t:Par×Rat=>t.1) ((Au P g).zip qs);rw[<-H,show ((Au P g).zip qs).map (fun t=>t.1)=Au P g from A6u oV];unfold Ct;rw[Gd (fun p:Par=>decide (p.1=f)) _ (Au P g),show (Au P g).filter (fun p=>decide (p.1=f))=onF P f by
  unfold Au onF;rw[List.filter_filter];refine List.filter_congr fun p _=>?_;by_cases e:p.1=f
  ·rw[decide_eq_true e,decide_eq_false (fun E=>d (e.symm.trans E))];rfl
  rw[decide_eq_false e];rfl]
 rw[Bk (l:=List.filter (fun x:Par=>!decide (x.1=f)) (Au P g)) fun p hp=>(by
  rw[A3p]at hp;exact if_neg fun h=>by have:=hp.2;rw[decide_eq_true h.1]at this;cases this),A5k]
 refine Aj fun p hp=>?_;have:=(Dj.1 hp).2;by_cases e:tg p.2=b
 ·rw[if_pos ⟨this,e⟩,if_pos e];rfl
 rw[if_neg fun h=>e h.2,if_neg e]
def Aql (n:∀ x∈M,Tx x.2)(e:∀ b,sz b<=1000)(z:M.length<=1000)(b:List UInt8):Sz (shS M f tg sz b) 1000000:=by
 unfold shS;refine (Aw5 (s:=402) (k:=1000) (Aku fun t E=>?_) z).mono oV;have h:((((1+sz b:Nat):Int)):Rat)=1+(sz b:Rat):=by rw[A1f,A4f];rfl
 have I:=e b;have d:1+(sz b:Rat)≠0:=by rw[<-h,A1f];exact Jf oV
 have H:Sz (1+(sz b:Rat)) 1:=by rw[<-h];exact Qd oV
 split
 ·exact (Vx (n t E).sz H d).mono oV
 exact Qu.mono oV
end
section
variable {u:PH} {v cv:Value} {T:List (List UInt8×Nat)} {R:List Bw} {F:List Ao} {lab:Int} {L:List Cr} {K k i j a a' m m' N:Nat} {P:List Par} {q:Rat}
def Ax0 (F:List Ao)(lab:Int)(L:List Cr)(k i j a a':Nat)(q:Rat)(r:Value)(u:PH):Prop :=
 (¬ Fw F lab L a a'/\r=.tuple #[Xl,.int .i64 16])\/(Fw F lab L a a'/\k=0/\r=.tuple #[Xl,.int .i64 12]) \/
 (Fw F lab L a a'/\k≠0/\∃ (P:List Par) (mv:Value) (c0:Rat) (qs:List Rat),Dk F (Ax F lab L) P/\qs.length=(Au P (j:Int)).length/\r=.tuple #[mv,.int .i64 0]/\Of u mv c0 ((Au P (j:Int)).zip qs)/\Q6 (Au P (j:Int)) c0 ((Au P (j:Int)).zip qs) /\
  Aq7 P (Ax F lab L) q (i:Int) (j:Int) (tgL (Ax F lab L) P (i:Int) (j:Int)) (gR (c0::qs)) (cfE c0 ((Au P (j:Int)).zip qs)))
def Ue (ht:Ls u)(h:Ii u v cv T R F lab L K k i j a a' m m')(hn:Amc F lab L i N)(hq:Gw q) :
 Fn0 prog 18 [v,cv,.agg #[.int .i64 i,.int .i64 j],.string (mkS (Ag q))] u fun r u'=>Ax0 F lab L k i j a a' q r u':=by
 have ac:=Aiq ht h hn hq;have I:=h.w.mom;obtain⟨Z,z,hN,n,a0⟩:=hn;have W:=fun (P:List Par) (hP:Dk F (Ax F lab L) P) (H:Fw F lab L a a')=>h.dep hP H;obtain⟨xa,xc,xb,xd,xe,xf,rfl,_⟩:=id h.w.sch;obtain⟨a1,n1,c1,a2,n2,c2,rfl⟩:=id h.w.cof.opn;refine Fn0.o func18<|G.c call22 ac ?_;rintro v1 u1 l1 (⟨H,rfl⟩|⟨H,h0,rfl⟩|⟨H,h0,P,na,nc,ya,yc,ra,rc,hPL,rfl,hW,hM,hR⟩)
 ·unfold Ang;exact G.nT 16 0<|G.r (.tuple #[Xl,.int .i64 16]) ⟨rfl,.inl ⟨H,rfl⟩⟩
 ·unfold Ang;exact G.nT 12 0<|G.r (.tuple #[Xl,.int .i64 12]) ⟨rfl,.inr (.inl ⟨H,h0,rfl⟩)⟩
 refine G.nF 0 0 ?_;have d:=W P hPL H;obtain⟨ae,a6⟩:=Z P hPL;have V:=I.cpos h0;have X:=Ayl I V;have U:=Avd (P:=P) (q:=q) (f:=(i:Int)) (g:=(j:Int)) z hN hq fun c=>A0l U7 a6;have a5:=Ass (P:=P) (g:=(j:Int)) z hN;have af:(Au P (j:Int)).length<=P.length:=R8;have hs:=Awt U oV;have hA:=Mb (P:=P) (C:=Ax F lab L) (q:=q) (f:=(i:Int)) (g:=(j:Int)) (tg:=tgL (Ax F lab L) P (i:Int) (j:Int));have a4:=Asy d z hN hq oV X (n P) (a0 P) hs;have a7:=Asv d hq.pos V (n P);refine G.c call42 (Axl (A:=Ed (Ax F lab L) P q (i:Int) (j:Int) (tgL (Ax F lab L) P (i:Int) (j:Int))) (b:=Abz (Ax F lab L) P (j:Int)) (ht.mono l1) hM hR hs (by rw[hA.1];unfold Abz;rw[A0k,Ba]) (by rw[hA.1];omega) (fun r hr x E=>(U r hr x E).th) (fun x E=>(a5 x E).th) a7 a4) ?_;rintro v2 u2 l2 ⟨qs,lv,rfl,O,J,hS⟩;have hT:∀ x∈qs,Tx x:=fun x E=>by
  obtain⟨t,ad,rfl⟩:=A2b.1 E;rw[<-E7 ad];exact a4 _ J t oV
 rw[hA.1]at O;cases qs with
 |nil=>simp at O
 |cons c0 qs =>
  have e:qs.length=(Au P (j:Int)).length:=by simpa using O
  have a9:(Au P (j:Int)).Nodup:=Iy d.nd;have a3:D5 Bf (Au P (j:Int)):=hPL.1.filter _;have aa:=Au8 a3 e (hT c0 mV) (fun x E=>hT x (by simp[E]));have ab:=Ak6 d z hN hq oV X (n P) (a0 P) hs J (P9 a9 e);obtain⟨la,lc,a8⟩:=Ab.opn hS;subst a8;refine G.nF 0 0<|G.c call43 (Amn (hW.mono l2) hS a3 e oV (hT c0 mV) (fun x E=>hT x (by simp[E]))) ?_;rintro v3 u3 l3 ⟨mv,rfl,Y⟩;obtain⟨ma,mc,rfl,_⟩:=id Y.val;exact G.r (.tuple #[.agg #[.string (mkS (Ag c0)),.slice ma ((Au P (j:Int)).zip qs).length mc],.int .i64 0]) ⟨rfl,.inr (.inr ⟨H,h0,P,_,c0,qs,hPL,e,rfl,Y,aa,ab⟩)⟩
end
end
section
variable {l:List (List UInt8)}
def Y1:Value:=.agg #[.bool false,.slice none 0 0,.bool false,.slice none 0 0]
def R0.key {l2:List (List UInt8×Value)}(h:R0 l l2)(b:List UInt8):b∈l2.map (·.1)↔b∈l:=by
 rw[<-Aex (l:=l)];have d:=Hl (a:=b) (l:=l2);rw[h b]at d;constructor
 ·intro g e;rw[if_pos e]at d;exact d.1 rfl g
 intro n;rw[if_neg n]at d;exact A2h fun g=>by cases d.2 g
def Ato {b:List UInt8}:Fr l b<=l.length:=A3h _ _
def T1 {P:List Par}{C:CF}{q:Rat}{b b':Option Par->Rat}(h:Fq P C q b)(e:∀ x∈Ae P,b x=b' x):Fq P C q b':=fun x g=>by
 have d:=h x g;rw[Aj fun y n=>by rw[e y n]]at d;cases x with
 |none=>exact d
 |some p =>
  show _+q*b' (some p)=_;rw[<-e _ g];exact d
def Alq {P:List Par}{f:Option Par->Rat}{c0:Rat}(n:P.Nodup)(h0:f none=c0):∀ e∈Ae P,f e=cfE c0 (P.zip (P.map fun p=>f (some p))) e:=fun e d=>by
 cases e with
 |none=>exact h0
 |some p =>
  unfold Ae at d;rcases A0v.1 d with h|h
  ·cases h
  obtain⟨x,t,e⟩:=A0r.1 h;cases e;obtain⟨j,g,rfl⟩:=A2b.1 t;show _=B8 P[j] _;rw[Sp n mV g,E7 (by simpa using g),A3u]
section
variable {u:PH} {v cv mv:Value} {T:List (List UInt8×Nat)} {R:List Bw} {F:List Ao} {lab:Int} {L:List Cr} {K k i j a a' m m' N:Nat} {P:List Par} {q c0:Rat} {qs:List Rat}
def Uk (ht:Ls u)(h:Ii u v cv T R F lab L K k i j a a' m m')(hn:Amc F lab L i N)(hd:Fw F lab L a a')(h0:k≠0)(a7:Dk F (Ax F lab L) P)(br:qs.length=(Au P (j:Int)).length)(ce:Of u mv c0 ((Au P (j:Int)).zip qs))(cg:Q6 (Au P (j:Int)) c0 ((Au P (j:Int)).zip qs))
 (ci:∀ p∈P,Tx (Fv P (i:Int) (j:Int) (tgL (Ax F lab L) P (i:Int) (j:Int)) (cfE c0 ((Au P (j:Int)).zip qs)) (some p))) :
 Fn0 prog 19 [v,cv,.agg #[.int .i64 i,.int .i64 j],mv] u fun r u'=>∃ eb,r=.tuple #[eb,.int .i64 0]/\Of u' eb c0 (P.zip (P.map fun p=>Fv P (i:Int) (j:Int) (tgL (Ax F lab L) P (i:Int) (j:Int)) (cfE c0 ((Au P (j:Int)).zip qs)) (some p))):=by
 have fc:=Ro h;have g0:=(hn.p10 P a7).1;have dj:=h.ne0 h0 a7;have fa:=a7.1.nodup Dl;have d:=h.dep a7 hd;have ck:=fun (u':PH) (l:PH.le u u')=>Anm (h.w.sch.mono l) (h.w.ok.mono l) (ce.mono l) cg (by have:(Au P (j:Int)).length<=P.length:=R8;omega) fun p hp=>Ayy a7 h.w.vC p (F0.1 hp).1;have fb:(Au P (j:Int)).length<=P.length:=R8;have dp:=(h.iff a7).2 hd;have b1:=h.onto a7 dp;have ah:=fun (sz:List UInt8->Nat) (b:List UInt8) (hs:Ct P (i:Int) (tgL (Ax F lab L) P (i:Int) (j:Int)) b (fun _=>1)=(sz b:Rat))=>Avj (c0:=c0) (sz:=sz) d.ne d.nd br b hs;obtain⟨xa,xc,xb,xd,xe,xf,rfl,_⟩:=id h.w.sch;obtain⟨a1,n1,c1,a2,n2,c2,rfl⟩:=id h.w.cof.opn;obtain⟨ma,mc,rfl,hM⟩:=id ce.val;have dc:((Au P (j:Int)).zip qs).length=(Au P (j:Int)).length:=by rw[A6j];omega
 have a9:((Au P (j:Int)).zip qs).map (·.1)=Au P (j:Int):=A6u oV;have dk:(Au P (j:Int)).Nodup:=Iy fa;have cm:=fun (t:Par×Rat) (ht:t∈(Au P (j:Int)).zip qs)=>Als dk br ht;have aq:=cg.t;clear h cg hn ce;obtain⟨z,hz⟩:∃ z,cfE c0 ((Au P (j:Int)).zip qs)=z:=⟨_,rfl⟩;have cl:∀ p,B8 p ((Au P (j:Int)).zip qs)=z (some p):=fun p=>by rw[<-hz];rfl
 rw[hz]at ci ah⊢;obtain⟨Q,hQ⟩:∃ Q,Au P (j:Int)=Q:=⟨_,rfl⟩;rw[dc]at hM ck⊢;have dr:∀ p,p∈Q↔p∈P/\p.1≠(j:Int):=fun p=>by rw[<-hQ];exact F0
 have dw:=fun (u':PH) (pv:Value) (hp:Ab u' pv 2 (P.map An))=>Tw (f:=(j:Int)) hp dj oV;rw[hQ]at hM ck dc a9 fb dk cm cl aq ah dw⊢;generalize gd:Q.zip qs=M at *
 have gc:∀ n,(M.take n).map (·.1)=Q.take n:=fun n=>by rw[A37,a9]
 refine Fn0.o func19<|G.c call36 fc ?_;rintro v1 u1 l1 (⟨_,P',pa,pc,lv,hPL2,_,rfl,hL,hlv⟩|⟨hd',rfl⟩)
 rotate_left
 ·exact absurd hd hd'
 obtain rfl:=hPL2.eq a7;clear hPL2;have b4:=fun b=>Aei (C:=Ax F lab L) (P:=P') (f:=(i:Int)) (g:=(j:Int)) b;have bw:=fun b=>Xu (C:=Ax F lab L) (P:=P') (f:=(i:Int)) (g:=(j:Int)) b;obtain⟨qa,qc,g7,g8,o7,o8,k8,rfl,hq,d5,bf,bh,bz,be⟩:=hlv;obtain⟨tg,fi⟩:∃ tg,tgL (Ax F lab L) P' (i:Int) (j:Int)=tg:=⟨_,rfl⟩;rw[fi]at ci ah b1 b4 bw hq bf be d⊢;have f6:=Mr (P:=P') (f:=(i:Int));have ar:∀ p∈P',p.1=(i:Int)->p.2∈A2 P' (i:Int):=fun p hp hf=>U1 hp hf;obtain⟨X,hX⟩:∃ X,A2 P' (i:Int)=X:=⟨_,rfl⟩;rw[hX]at hq bf be b4 f6 ar⊢;have b0:∀ b,Fr (X.map tg) b<=1000:=fun b=>A0l Ato (by rw[A0k];omega);have d3:∀ b,Ct P' (i:Int) tg b (fun _=>1)=(Fr (X.map tg) b:Rat):=fun b=>by rw[bw b,b4 b]
 have bt:∀ b,shS M (i:Int) tg (Fr (X.map tg)) b=M3 P' (i:Int) tg z b:=fun b=>ah _ b (d3 b);have ca:=fun b=>be.key b;refine G.nF 0 0<|G.l (ι:=Nat×(Option Addr×Nat)) (fun n=>[(4,.p 0 0),(6,.p 2 0),(7,.p 3 0),(8,.p 4 0),(10,sV pa P'.length pc),(11,.p 1008 0),(13,sV n.2.1 n.1 n.2.2),(41,sV ma Q.length mc),(42,iV Q.length),(43,iV n.1)])
  (fun _=>[(0,⟨28,[sV xa T.length xc,sV xb R.length xd,sV xe F.length xf,iV lab]⟩),(2,⟨40,[iV i,iV j]⟩),(3,⟨55,[tV (Ag c0),sV ma Q.length mc]⟩),(4,⟨55,[tV [],sV none 0 0]⟩),
   (1008,⟨108,[.v (.int .i64 i),.v (.int .i64 j),.v (.slice qa X.length qc),.v (.map (some g7)),.v (.map (some g8))]⟩)])
  (fun n u' m'=>n.1<=Q.length/\Af PH.mt m' (.slice n.2.1 n.1 n.2.2) 78 2 ((Q.take n.1).map An)) (fun n=>Q.length-n.1) (0,(none,0)) ⟨oV,Af.nil _ _ _⟩ ?_
 rintro J ⟨n,⟨oa,oc⟩⟩ hJ u2 m2 l2 ⟨f9,bb⟩;simp only at f9 bb hJ;by_cases ao:n<Q.length
 ·refine G.lT n Q.length ?_;obtain⟨t,ac⟩:∃ t,M[n]?=some t:=⟨_,A0i oV⟩;have b3:Q[n]?=some t.1:=by rw[<-a9,A0n,ac];rfl
  have ad:Q.take (n+1)=Q.take n++[t.1]:=by rw[A0t,b3];rfl
  obtain⟨b,o,rfl,e⟩:=Ab.at' (hM.mono (l1.trans l2)) (j:=n) (e:=As t) (by simp[ac]);obtain⟨⟨H,E⟩,r⟩:=t;refine G.a b o Q.length mc n 3 ao<|G.lU (some 3) b (o+n*3) (.agg #[.int .i64 H,.string (mkS E),.string (mkS (Ag r))]) e<|G.B 78 2 24 (.agg #[.int .i64 0,.string (mkS [])]) [.agg #[.int .i64 H,.string (mkS E)]] (F1 (H,E)) ?_;intro g3 u3 l3 e3;have d9:((Q.take n).map An).length=n:=by rw[A0k,A0q];omega
  refine G.append 78 2 24 (.agg #[.int .i64 0,.string (mkS [])]) PH.mt ((Q.take n).map An) [An (H,E)] (.slice oa n oc) g3 0 1 1 kV rfl rfl oV bb e3 (F1 (H,E)) rfl oV (by rw[d9];omega) (by rw[d9];omega) ?_;intro v4 m4 bd;rw[show (Q.take n).map An++[An (H,E)]=(Q.take (n+1)).map An by rw[ad,A02];rfl]at bd;obtain⟨a4,c4,rfl⟩:=bd.shape;have f7:((Q.take (n+1)).map An).length=n+1:=by rw[A0k,A0q];omega
  rw[f7]at bd⊢;exact G.i n<|G.b (hJ (n+1,(a4,c4)) _ _ _ cV (l2.trans l3) ⟨dV,bd⟩ dV)
 obtain rfl:n=Q.length:=oV;refine G.lF Q.length Q.length ?_;clear hJ;rw[A05]at bb;refine G.give _ _ _ kV bb (fun g=>.inl rfl) ?_;intro u3 l3 hO;have ae:=(l1.trans l2).trans l3;refine G.c call44 (ck u3 ae) ?_;rintro v4 u4 l4 rfl;refine G.c call46 (dw u4 _ (hL.mono ((l2.trans l3).trans l4))) ?_;intro v5 u5 l5 hW;refine G.c call45 (Auv (hO.mono (l4.trans l5)) hW oV) ?_;rintro v6 u6 l6 rfl;refine G.mapMk kV ?_;intro g1 ge g4;refine G.mapMk kV ?_;intro g2 d4 g5;have ai:g2≠g1:=fun e=>by rw[e,Ac]at d4;cases d4
 have e8:=(((l2.trans l3).trans l4).trans l5).trans l6;obtain⟨m7,f8,ax,ay⟩:∃ m7:PH,m7=(PH.mt.upd g1 (.map #[] 0)).upd g2 (.map #[] 0)/\m7 g1=some (.map #[] 0)/\m7 g2=some (.map #[] 0):=⟨_,rfl,by rw[Ad _ _ ai.symm,Ac],Ac _ _ _⟩;rw[<-f8];obtain⟨ba,a6,rfl,d7,bu⟩:=id bz;have di:=bz.nodup;refine G.mapRange g8 ba a6 9 3 kV (.inl (e8 _ _ bh)) ?_;intro it d6 gf;have i1:g1≠it:=fun e=>by subst e;rw[d6]at ax;cases ax
 have i2:g2≠it:=fun e=>by subst e;rw[d6]at ay;cases ay
 refine G.l (ι:=List MapEntry×List (List UInt8×Value)) (fun _=>[(6,.p 2 0),(7,.p 3 0),(8,.p 4 0),(10,sV pa P'.length pc),(11,.p 1008 0),(16,.v (.map (some g1))),(17,.v (.map (some g2))),(71,.v (.pointer (some ⟨it,0,none⟩)))])
  (fun _=>[(2,⟨40,[iV i,iV j]⟩),(3,⟨55,[tV (Ag c0),sV ma Q.length mc]⟩),(4,⟨55,[tV [],sV none 0 0]⟩),
   (1008,⟨108,[.v (.int .i64 i),.v (.int .i64 j),.v (.slice qa X.length qc),.v (.map (some g7)),.v (.map (some g8))]⟩)])
  (fun n u' m'=>Fs nmV ba k8 n.1 n.2/\m' it=some (.mapIter (some g8) a6 (Ay n.1) a6)/\m' g1=some (.map #[] 0)/\∃ o,m' g2=some o/\ShM nmV u' o (fun b=>if b∈n.2.map (·.1) then some 0 else none)) (fun n=>k8.length-n.2.length) ([],[])
  ⟨Fs.nil _ _,Ac _ _ _,by rw[Ad _ _ i1];exact ax,_,by rw[Ad _ _ i2];exact ay,ShM.empty.congr fun b=>mV⟩ ?_
 rintro J ⟨D,S⟩ hJ u7 m8 l7 ⟨hS,c9,a3,o,U,O⟩;simp only at hS c9 a3 U O hJ;have cp:=e8.trans l7;refine G.mapNextL Fu.inj it g8 ba a6 k8 D S kV kV c9 (.inl (cp _ _ bh)) bu d7 di hS ?done1 ?next1
 case next1 =>
  rintro⟨b,xv⟩ e hp hkn he hek hev hS';simp only at hkn hek hev;refine G.mapEntry it g8 ba a6 D e kV (Ac _ _ _) (.inl (cp _ _ bh)) bu he ?_;rw[hek];refine G.c call47 (O5 (z:=0) oV oV) ?_;intro v8 u8 l8 e6;obtain⟨b8,a8,x8,c8,ex,eo,fu,f3,rfl⟩:=e6.opn;obtain⟨lk,cc,cb⟩:=O.mono l8;refine G.mapPut (et:=126) Fu g2 o lk b (.agg #[.bool b8,.slice a8 x8 c8,.bool ex,.slice eo fu f3]) kV kV (by rw[Ad _ _ i2];exact U) cc ?_;intro ec az;exact G.b (hJ (D++[e],S++[(b,xv)]) _ _ _ cV (l7.trans l8) ⟨hS',by rw[Ad _ _ i2.symm,Ac],by rw[Ad _ _ ai.symm,Ad _ _ i1];exact a3,_,Ac _ _ _,(ShM.put cb az e6).congr fun b'=>by
   dsimp only;rw[A02,A1t,A38];by_cases e':b'=b
   ·rw[if_pos e',if_pos (by rw[e'];simp)];rfl
   rw[if_neg e'];by_cases hb:b'∈S.map (·.1)
   ·rw[if_pos hb,if_pos (A3d _ hb)]
   rw[if_neg hb,if_neg fun h=>(A04.1 h).elim hb fun h=>e' (A07.1 h)]⟩ (by have:=hS'.len;simp at this;dsimp only;simp;omega))
 case done1 =>
 intro c7;have bs:ShM nmV u7 o (fun b=>if b∈X.map tg then some (shS (M.take 0) (i:Int) tg (Fr (X.map tg)) b) else none):=O.congr fun b=>by
  have e:b∈S.map (·.1)↔b∈X.map tg:=by
   rw[<-ca b];constructor
   ·intro h;obtain⟨p,hp,rfl⟩:=A0r.1 h;exact A0r.2 ⟨p,hS.sub p hp,rfl⟩
   intro h;obtain⟨p,hp,rfl⟩:=A0r.1 h;exact A0r.2 ⟨p,c7 p hp,rfl⟩
  by_cases hb:b∈X.map tg
  ·rw[if_pos (e.2 hb),if_pos hb];rfl
  rw[if_neg fun h=>hb (e.1 h),if_neg hb]
 clear hJ O c9;refine G.l (ι:=Nat) (fun n=>[(6,.p 2 0),(7,.p 3 0),(8,.p 4 0),(10,sV pa P'.length pc),(11,.p 1008 0),(16,.v (.map (some g1))),(17,.v (.map (some g2))),(80,sV ma Q.length mc),(81,iV Q.length),(82,iV n)])
  (fun _=>[(2,⟨40,[iV i,iV j]⟩),(3,⟨55,[tV (Ag c0),sV ma Q.length mc]⟩),(4,⟨55,[tV [],sV none 0 0]⟩),
   (1008,⟨108,[.v (.int .i64 i),.v (.int .i64 j),.v (.slice qa X.length qc),.v (.map (some g7)),.v (.map (some g8))]⟩)])
  (fun n u' m'=>n<=Q.length/\(∃ o1,m' g1=some o1/\ShM An u' o1 (fun p=>if p∈Q.take n then some (z (some p)) else none))/\∃ o2,m' g2=some o2/\ShM nmV u' o2 (fun b=>if b∈X.map tg then some (shS (M.take n) (i:Int) tg (Fr (X.map tg)) b) else none)) (fun n=>Q.length-n) 0
  ⟨oV,⟨_,a3,ShM.empty.congr fun b=>mV⟩,_,U,bs⟩ ?_
 clear a3 U bs;rintro J n hJ u8 m9 l8 ⟨gg,⟨o1,a3,au⟩,o2,U,O⟩;have bn:=cp.trans l8;by_cases ao:n<Q.length
 ·refine G.lT n Q.length ?_;obtain⟨t,ac⟩:∃ t,M[n]?=some t:=⟨_,A0i oV⟩;have du:=A0w ac;have b3:Q[n]?=some t.1:=by rw[<-a9,A0n,ac];rfl
  have ad:Q.take (n+1)=Q.take n++[t.1]:=by rw[A0t,b3];rfl
  have fh:M.take (n+1)=M.take n++[t]:=by rw[A0t,ac];rfl
  have cj:z (some t.1)=t.2:=by rw[<-cl];exact cm t du
  have dq:=((dr t.1).1 (A0w b3)).1;have bk:=aq t du;have bj:=fun b=>An6 (f:=(i:Int)) (tg:=tg) (M:=M.take n) (sz:=Fr (X.map tg)) (b:=b) t;rw[<-fh]at bj;obtain⟨b,o,rfl,e⟩:=Ab.at' (hM.mono (l1.trans bn)) (j:=n) (e:=As t) (by simp[ac]);obtain⟨⟨H,E⟩,r⟩:=t;simp only at b3 ad cj dq bk bj;refine G.a b o Q.length mc n 3 ao<|G.lU (some 3) b (o+n*3) (.agg #[.int .i64 H,.string (mkS E),.string (mkS (Ag r))]) e<|G.c call48 (Lh bk) ?_;intro gr ab I dy;obtain⟨ep,eh,fq,ey,cu,cq,ed,cz,rfl⟩:=dy.opn;obtain⟨lk,cc,cb⟩:=au.mono I;refine G.mapPut (et:=126) Bo g1 o1 lk (H,E) (.agg #[.bool ep,.slice eh fq ey,.bool cu,.slice cq ed cz]) kV kV a3 cc ?_;intro af az;have av:ShM An ab af (fun p=>if p∈Q.take (n+1) then some (z (some p)) else none):=(ShM.put cb az dy).congr fun p=>by
   rw[ad];by_cases e':p=(H,E)
   ·rw[if_pos e',if_pos (by rw[e'];simp),e',cj]
   rw[if_neg e'];simp[e']
  have b7:(m9.upd g1 af) g1=some af:=Ac _ _ _;have b9:(m9.upd g1 af) g2=some o2:=by rw[Ad _ _ ai];exact U
  by_cases hf:H=(i:Int)
  ·refine G.eT' H i hf ?_;have hx:=ar (H,E) dq hf;simp only at hx;refine G.mapGet (et:=9) Fu (.string (mkS [])) g7 o7 (X.map fun x=>(x,nmV (tg x))) E false kV kV (.inl ((bn.trans I) _ _ d5)) bf ?_;rw[Nu hx];have bg:tg E∈X.map tg:=List.mem_map_of_mem hx;obtain⟨bo,ak,aj⟩:=id (O.mono I);obtain⟨vs,b6,aa⟩:=(aj (tg E)).2 _ (if_pos bg);obtain⟨am,al,ap,an,Y,V,a0,Z,rfl⟩:=aa.opn;refine G.mapGet (et:=126) Fu Y1 g2 o2 bo (tg E) false kV kV (.inr b9) ak ?_;rw[b6];obtain⟨fo,df,da⟩:=id av;obtain⟨vg,b5,a5⟩:=(da (H,E)).2 _ (if_pos (by rw[ad];simp));obtain⟨er,ei,fr,ez,cw,cr,ee,d0,rfl⟩:=a5.opn;refine G.mapGet (et:=126) Bo Y1 g1 af fo (H,E) false kV kV (.inr b7) df ?_;rw[b5];refine G.mapGet (et:=3) Fu (.int .i64 0) g8 _ k8 (tg E) false kV kV (.inl ((bn.trans I) _ _ bh)) bz ?_;rw[be.look (tg E)];have gh:=b0 (tg E);refine G.p 1 (Fr (X.map tg) (tg E):Int) ((1+Fr (X.map tg) (tg E):Nat):Int)<|G.c call47 (O5 (z:=((1+Fr (X.map tg) (tg E):Nat):Int)) oV oV) ?_;intro gt gk ae cn;obtain⟨eu,ej,fs,f0,cx,cs,ef,d1,rfl⟩:=cn.opn;have e4:((((1+Fr (X.map tg) (tg E):Nat):Int)):Rat)=1+(Fr (X.map tg) (tg E):Rat):=by rw[A1f,A4f];rfl
   have dl:1+(Fr (X.map tg) (tg E):Rat)≠0:=by rw[<-e4,A1f];exact Jf oV
   have s4:Sz (1+(Fr (X.map tg) (tg E):Rat)) 1:=by rw[<-e4];exact Qd oV
   rw[e4]at cn;rw[cj]at a5;refine G.c call50 (Afs (a5.mono ae) cn (bk.sz.mono oV) (s4.mono oV) dl) ?_;intro gu gl bm e1;obtain⟨ga,g9,gz,gb,fx,fw,g6,fy,rfl⟩:=e1.opn;refine G.c call49 (Xh (aa.mono (ae.trans bm)) e1 ((Aql (fun x hx=>aq x (A23 hx)) b0 (by rw[A0q];omega) _).mono oV) ((Vx bk.sz s4 dl).mono oV)) ?_;intro gw gm co e5;obtain⟨ew,ek,ft,f1,cy,ct,eg,d2,rfl⟩:=e5.opn;obtain⟨fp,dg,db⟩:=id (O.mono (((I.trans ae).trans bm).trans co));refine G.mapPut (et:=126) Fu g2 o2 fp (tg E) (.agg #[.bool ew,.slice ek ft f1,.bool cy,.slice ct eg d2]) kV kV b9 dg ?_;intro ec cd;refine G.i n ?_;exact G.b (hJ (n+1) _ _ _ cV ((((l8.trans I).trans ae).trans bm).trans co) ⟨oV,⟨af,by rw[Ad _ _ ai.symm];exact b7,av.mono ((ae.trans bm).trans co)⟩,ec,Ac _ _ _,(ShM.put db cd e5).congr fun b'=>by
    rw[bj];by_cases e':b'=tg E
    ·rw[if_pos e',e',if_pos bg,if_pos ⟨hf,rfl⟩]
    rw[if_neg e'];by_cases hb:b'∈X.map tg
    ·rw[if_pos hb,if_pos hb,if_neg fun h=>e' h.2.symm,A5k]
    rw[if_neg hb,if_neg hb]⟩ oV)
  refine G.eF' H i hf<|G.i n ?_;exact G.b (hJ (n+1) _ _ _ cV (l8.trans I) ⟨oV,⟨af,b7,av⟩,o2,b9,(O.mono I).congr fun b'=>by
   rw[bj];by_cases hb:b'∈X.map tg
   ·rw[if_pos hb,if_pos hb,if_neg fun h=>hf h.1,A5k]
   rw[if_neg hb,if_neg hb]⟩ oV)
 obtain rfl:n=Q.length:=oV;refine G.lF Q.length Q.length ?_;clear hJ;refine G.giveP (ma:=m9) (sm:=PH.mt) kV (Vr _).symm (fun g=>.inr rfl) (fun g=>.inl rfl) ?_;intro u9 l9 ea;rw[A05]at au;rw[A00 oV]at O;have au:=au.mono l9;have O:=O.mono l9;have a3:=ea _ _ a3;have U:=ea _ _ U;have e9:=bn.trans l9;obtain⟨fn,dd,aw⟩:=au;obtain⟨bo,ak,aj⟩:=O;obtain⟨W,c3⟩:∃ W,W=fun p=>Fv P' (i:Int) (j:Int) tg z (some p):=⟨_,rfl⟩;rw[show (P'.zip (P'.map fun p=>Fv P' (i:Int) (j:Int) tg z (some p)))=P'.zip (P'.map W) by rw[c3]];have dv:∀ p∈P',Tx (W p):=fun p hp=>by rw[c3];exact ci p hp
 have dx:(P'.zip (P'.map W)).length=P'.length:=mV;refine G.l (ι:=Nat×(Option Addr×Nat)) (fun n=>[(6,.p 2 0),(8,.p 4 0),(11,.p 1008 0),(16,.v (.map (some g1))),(17,.v (.map (some g2))),(22,.p 26003 0),(125,sV pa P'.length pc),(126,iV P'.length),(127,iV n.1)])
  (fun n=>[(2,⟨40,[iV i,iV j]⟩),(4,⟨55,[tV [],sV none 0 0]⟩),
   (1008,⟨108,[.v (.int .i64 i),.v (.int .i64 j),.v (.slice qa X.length qc),.v (.map (some g7)),.v (.map (some g8))]⟩),(26003,⟨55,[.v (.string (mkS (Ag c0))),.v (.slice n.2.1 n.1 n.2.2)]⟩)])
  (fun n u' m'=>n.1<=P'.length/\Af PH.mt m' (.slice n.2.1 n.1 n.2.2) 80 3 (((P'.zip (P'.map W)).take n.1).map As)) (fun n=>P'.length-n.1) (0,(none,0)) ⟨oV,Af.nil _ _ _⟩ ?_
 rintro J ⟨n,⟨oa,oc⟩⟩ hJ ab m10 I ⟨dh,hA⟩;simp only at dh hA hJ;have bx:=e9.trans I;by_cases ao:n<P'.length
 ·refine G.lT n P'.length ?_;obtain⟨p,hp⟩:∃ p,P'[n]?=some p:=⟨_,A0i ao⟩;have b2:=A0w hp;have fj:(P'.zip (P'.map W))[n]?=some (p,W p):=by rw[List.getElem?_zip_eq_some];exact⟨hp,by rw[A0n,hp];rfl⟩
  have ad:(P'.zip (P'.map W)).take (n+1)=(P'.zip (P'.map W)).take n++[(p,W p)]:=by rw[A0t,fj];rfl
  have fd:=dv p b2;have c6:=ar p b2;have c5:W p=Fv P' (i:Int) (j:Int) tg z (some p):=by rw[c3]
  have ch:=dr p;have dm:p.1=(j:Int)->p.2∈X.map tg:=fun e=>by
   obtain⟨x,hx,e2⟩:=(b1 p.2).1 (U1 b2 e);rw[hX]at hx;rw[<-e2];exact List.mem_map_of_mem hx
  have fk:p∈Q->Tx (z (some p)):=fun fe=>by
   obtain⟨t,ds,fg⟩:=A0r.1 (by rw[a9];exact fe:p∈M.map (·.1));rw[<-fg,<-cl,cm t ds];exact aq t ds
  have ff:∀ b,Sz (shS M (i:Int) tg (Fr (X.map tg)) b) 1000000:=Aql aq b0 oV;obtain⟨bp,op,e0,e⟩:=Ab.at' (hL.mono bx) (j:=n) (e:=An p) (by simp[hp]);subst e0;obtain⟨H,E⟩:=p;simp only at c6 dm;refine G.a bp op P'.length pc n 2 ao<|G.lU (some 2) bp (op+n*2) (.agg #[.int .i64 H,.string (mkS E)]) e<|G.mapGet (et:=126) Bo Y1 g1 o1 fn (H,E) false kV kV (.inl (I _ _ a3)) dd ?_;refine dite (H=(j:Int)) (fun hg=>?A) (fun hg=>dite (H=(i:Int)) (fun hf=>?B) (fun hf=>?C))
  case' A =>
   rw[(aw (H,E)).1 (if_neg fun h=>(ch.1 h).2 hg)];refine G.eT' H j hg ?_;obtain⟨vs,b6,aa⟩:=(aj E).2 _ (if_pos (dm hg));obtain⟨am,al,ap,an,Y,V,a0,Z,rfl⟩:=aa.opn;refine G.mapGet (et:=126) Fu Y1 g2 o2 bo E false kV kV (.inl (I _ _ U)) ak ?_;rw[b6];have bl:=PH.le_refl ab;have ko:A9 ab (.agg #[.bool am,.slice al ap an,.bool Y,.slice V a0 Z]) (W (H,E)):=by
    rw[c5,Yj hg,<-bt];exact aa.mono I
  case' B =>
   have bi:(H,E)∈Q:=ch.2 ⟨b2,hg⟩;obtain⟨vg,b5,a5⟩:=(aw (H,E)).2 _ (if_pos bi);obtain⟨er,ei,fr,ez,cw,cr,ee,d0,rfl⟩:=a5.opn;rw[b5];refine G.eF' H j hg<|G.eT' H i hf<|G.mapGet (et:=9) Fu (.string (mkS [])) g7 o7 (X.map fun x=>(x,nmV (tg x))) E false kV kV (.inl (bx _ _ d5)) bf ?_;rw[Nu (c6 hf)];have bg:tg E∈X.map tg:=List.mem_map_of_mem (c6 hf);obtain⟨vs,b6,aa⟩:=(aj (tg E)).2 _ (if_pos bg);obtain⟨eu,ej,fs,f0,cx,cs,ef,d1,rfl⟩:=aa.opn;refine G.mapGet (et:=126) Fu Y1 g2 o2 bo (tg E) false kV kV (.inl (I _ _ U)) ak ?_;rw[b6];refine G.c call51 (Afb (a5.mono I) (aa.mono I) ((fk bi).sz.mono oV) ((ff _).mono oV)) ?_;intro gs ab bl dz;obtain⟨am,al,ap,an,Y,V,a0,Z,rfl⟩:=dz.opn;have ko:A9 ab (.agg #[.bool am,.slice al ap an,.bool Y,.slice V a0 Z]) (W (H,E)):=by
    rw[c5,Qm hg,if_pos hf,<-bt];exact dz
  case' C =>
   have bi:(H,E)∈Q:=ch.2 ⟨b2,hg⟩;obtain⟨vg,b5,a5⟩:=(aw (H,E)).2 _ (if_pos bi);obtain⟨am,al,ap,an,Y,V,a0,Z,rfl⟩:=a5.opn;rw[b5];refine G.eF' H j hg<|G.eF' H i hf ?_;have bl:=PH.le_refl ab;have ko:A9 ab (.agg #[.bool am,.slice al ap an,.bool Y,.slice V a0 Z]) (W (H,E)):=by
    rw[c5,Qm hg,if_neg hf,A7b,Rat.neg_zero,A5k];exact a5.mono I
  case A|B|C =>
   have e7:=I.trans bl;refine G.c call52 (Ts (ht.mono (((l1.trans e9).trans I).trans bl)) ko fd) ?_;rintro gx gn fl rfl;refine G.nF 0 0<|G.B 80 3 40 (.agg #[.int .i64 0,.string (mkS []),.string (mkS [])]) [As ((H,E),W (H,E))] (Gt _) ?_;intro f5 gp fm f4;have bq:(((P'.zip (P'.map W)).take n).map As).length=n:=by rw[A0k,A0q];omega
   refine G.append 80 3 40 (.agg #[.int .i64 0,.string (mkS []),.string (mkS [])]) PH.mt (((P'.zip (P'.map W)).take n).map As) [As ((H,E),W (H,E))] (.slice oa n oc) f5 0 1 1 kV rfl rfl oV hA f4 (Gt _) rfl oV (by rw[bq];omega) (by rw[bq];omega) ?_;intro gy gj ag;rw[show ((P'.zip (P'.map W)).take n).map As++[As ((H,E),W (H,E))]=((P'.zip (P'.map W)).take (n+1)).map As by rw[ad,A02];rfl]at ag;obtain⟨em,f2,rfl⟩:=ag.shape;have d8:(((P'.zip (P'.map W)).take (n+1)).map As).length=n+1:=by rw[A0k,A0q];omega
   rw[d8]at ag⊢;exact G.i n<|G.b (hJ (n+1,(em,f2)) _ _ _ cV ((e7.trans fl).trans fm) ⟨dV,ag⟩ dV)
 obtain rfl:n=P'.length:=oV;refine G.lF P'.length P'.length ?_;rw[A00 oV]at hA;refine G.give _ _ _ kV hA (fun g=>.inl rfl) ?_;intro gq gi hF;exact G.r (.tuple #[.agg #[.string (mkS (Ag c0)),.slice oa P'.length oc],.int .i64 0]) ⟨rfl,_,rfl,⟨oa,oc,by rw[dx],by rw[dx];exact hF⟩⟩
end
end
section
section
variable {u:PH} {v cv mv:Value} {T:List (List UInt8×Nat)} {R:List Bw} {F:List Ao} {lab:Int} {L:List Cr} {K k i j a a' m m' N:Nat} {P:List Par} {q c0:Rat} {qs:List Rat}
def Aj0 (F:List Ao)(lab:Int)(L:List Cr)(k a a':Nat)(q:Rat)(r:Value)(u:PH):Prop :=
 (¬ Fw F lab L a a'/\r=.tuple #[Xl,.int .i64 16])\/(Fw F lab L a a'/\k=0/\r=.tuple #[Xl,.int .i64 12]) \/
 (Fw F lab L a a'/\k≠0/\∃ (P:List Par) (mv:Value) (c0:Rat) (qs:List Rat),Dk F (Ax F lab L) P/\qs.length=P.length/\r=.tuple #[mv,.int .i64 0]/\Of u mv c0 (P.zip qs)/\Fq P (Ax F lab L) q (cfE c0 (P.zip qs)))
def Aaj (Q:Ls u)(h:Ii u v cv T R F lab L K k i j a a' m m')(O:Amc F lab L i N)(U:Gw q) :
 Fn0 prog 16 [v,cv,.agg #[.int .i64 i,.int .i64 j],.string (mkS (Ag q))] u fun r C=>Aj0 F lab L k a a' q r C:=by
 have H:=Ue Q h O U;have I:=fun (C:PH) (l:PH.le u C) (n:Fw F lab L a a') (h0:k≠0) (P:List Par) (mv:Value) (c0:Rat) (qs:List Rat) (d:Dk F (Ax F lab L) P) (e:qs.length=(Au P (j:Int)).length) (g:Of C mv c0 ((Au P (j:Int)).zip qs)) (z:Q6 (Au P (j:Int)) c0 ((Au P (j:Int)).zip qs)) (J:∀ p∈P,Tx (Fv P (i:Int) (j:Int) (tgL (Ax F lab L) P (i:Int) (j:Int)) (cfE c0 ((Au P (j:Int)).zip qs)) (some p)))=>Uk (Q.mono l) (h.mono l) O n h0 d e g z J;obtain⟨xa,xc,xb,xd,xe,xf,rfl,_⟩:=id h.w.sch;obtain⟨a1,n1,c1,a2,n2,c2,rfl⟩:=id h.w.cof.opn;refine Fn0.o func16<|G.c call18 H ?_;rintro v1 Z V (⟨n,rfl⟩|⟨n,h0,rfl⟩|⟨n,h0,P,mv,c0,qs,d,e,rfl,g,z,hrs1⟩)
 ·unfold Xl;exact G.nT 16 0<|G.r (.tuple #[Xl,.int .i64 16]) ⟨rfl,.inl ⟨n,rfl⟩⟩
 ·unfold Xl;exact G.nT 12 0<|G.r (.tuple #[Xl,.int .i64 12]) ⟨rfl,.inr (.inl ⟨n,h0,rfl⟩)⟩
 obtain⟨ma,mc,E,_⟩:=id g.val;subst E;refine G.nF 0 0<|G.c call19 (I Z V n h0 P _ c0 qs d e g z fun p hp=>(hrs1.full _ (Nr hp)).tx oV oV oV oV) ?_;rintro v2 u2 l2 ⟨W,rfl,t⟩;obtain⟨X,Y,E,_⟩:=id t.val;subst E;refine G.r (.tuple #[.agg #[.string (mkS (Ag c0)),.slice X _ Y],.int .i64 0]) ⟨rfl,.inr (.inr ⟨n,h0,P,_,c0,_,d,mV,rfl,t,?_⟩)⟩;exact T1 hrs1.norm (Alq (d.1.nodup Dl) rfl)
def Aoq (J:Ic u v T R F lab){b:Nat}(z:b<F.length)(Q:F.length<=100):Fn0 prog 168 [v,.int .i64 b] u fun r _=>r=.bool (decide ((F.getD b (0,0,0)).2.1=2)):=by
 obtain⟨U,W,V,X,Y,O,rfl,I,H,h⟩:=J;obtain⟨⟨n,d,t⟩,C⟩:∃ f,F[b]?=some f:=⟨_,A0i z⟩;rw[A0j,C,A3s];refine Fn0.o func168<|G.hT b 0<|G.lT b F.length ?_;obtain⟨g,o,rfl,e⟩:=Ab.at' h (j:=b) (e:=C4 (n,d,t)) (by simp[C]);refine G.a g o F.length O b 3 z<|G.f 98 g (o+b*3) 1 1<|G.lU none g (o+b*3+1) (.int .i64 d) (e.fld (j:=1) (xs:=#[.int .i64 n,.int .i64 d,.int .i64 t]) rfl rfl) ?_;by_cases E:d=2
 ·exact G.eT d 2<|G.r (.bool true) ⟨rfl,by rw[decide_eq_true E]⟩
 exact G.eF d 2<|G.r (.bool false) ⟨rfl,by rw[decide_eq_false E]⟩
end
end
section
def App {C:CF}{P:List Par}{f g:Int}{x:List UInt8}{n:Nat}{p:Par}(h:P[n]?=some p):Fh C (P.take (n+1)) f g x=Fh C (P.take n) f g x++if p.1=g/\C.t (Aw (f,x) p)≠0 then [p.2] else []:=by
 unfold Fh;rw[S6 h,A35]
 congr 1
 obtain⟨j,m⟩:=p;by_cases e:j=g
 ·subst e;rw[if_pos rfl];by_cases d:C.t (Aw (f,x) (j,m))=0
  ·rw[if_neg fun h=>h.2 d,A36 (by simp[d])];rfl
  rw[if_pos ⟨rfl,d⟩,A48 (by simp[d])];rfl
 rw[if_neg e,if_neg fun h=>e h.1];rfl
def R4 {q:Rat}:Ag q = [48]↔q=0:=by
 constructor
 ·intro h;exact Af9 (h.trans Ex.symm)
 rintro rfl;exact Ex
section
variable {u:PH} {v cv pv:Value} {T:List (List UInt8×Nat)} {R:List Bw} {F:List Ao} {lab:Int} {L:List Cr} {K k:Nat} {P:List Par} {C:CF} {f g:Int}
def Agy (hC:J0 u cv C K)(hK:K<=100000)(hP:Ab u pv 2 (P.map An))(hl:P.length<=100) :
 Fn0 prog 169 [pv,cv,.agg #[.int .i64 f,.int .i64 g]] u fun r _=>∃ a n c b,r=.tuple #[.slice a n c,.bool b]/\(b=true->∀ x∈A2 P f,(Fh C P f g x).length=1):=by
 have a6:=fun (u':PH) (l:PH.le u u') (p q:Par)=>Ul p q (hC.mono l) oV;obtain⟨a1,n1,c1,a2,n2,c2,rfl⟩:=hC.opn;obtain⟨pa,X,rfl⟩:=hP.opn;rw[A0k]at hP⊢;clear hC;refine Fn0.o func169<|G.l (ι:=Nat×(Option Addr×Nat)×List (List UInt8×List UInt8)) (fun n=>[(0,sV pa P.length X),(4,.p 0 0),(5,.p 1 0),(8,sV n.2.1.1 n.2.2.length n.2.1.2),(19,sV pa P.length X),(20,iV P.length),(21,iV n.1)])
  (fun _=>[(0,⟨34,[tV (Ag C.c),sV a1 n1 c1,sV a2 n2 c2]⟩),(1,⟨40,[iV f,iV g]⟩)])
  (fun n u' m'=>n.1<=P.length/\n.2.2.length<=n.1*100/\Af PH.mt m' (.slice n.2.1.1 n.2.2.length n.2.1.2) 51 2 (n.2.2.map Ix)/\∀ x∈A2 (P.take n.1) f,(Fh C P f g x).length=1) (fun n=>P.length-n.1) (0,(none,0),[]) ⟨oV,mV,Af.nil _ _ _,fun x hx=>by cases hx⟩ ?_
 rintro J ⟨n,⟨oa,oc⟩,O⟩ hJ u1 m1 l1 ⟨hn,hO,N,z⟩;simp only at hn hO N z hJ;by_cases U:n<P.length
 ·refine G.lT n P.length ?_;obtain⟨p,hp⟩:∃ p,P[n]?=some p:=⟨_,A0i U⟩;have V:=S6 (f:=f) hp;obtain⟨b,o,rfl,e⟩:=Ab.at' (hP.mono l1) (j:=n) (e:=An p) (by simp[hp]);obtain⟨H,d⟩:=p;refine G.a b o P.length X n 2 U<|G.lU (some 2) b (o+n*2) (.agg #[.int .i64 H,.string (mkS d)]) e ?_;simp only at V;by_cases hf:H=f
  rotate_left
  ·refine G.nT' H f hf ?_;rw[if_neg hf,A1i]at V;exact G.i n<|G.b (hJ (n+1,(oa,oc),O) _ _ _ cV l1 ⟨dV,dV,N,by dsimp only;rw[V];exact z⟩ dV)
  refine G.nF H f ?_;rw[if_pos hf]at V;refine G.l (ι:=Nat×(Option Addr×Nat)×List (List UInt8×List UInt8)) (fun r=>[(0,sV (some ⟨b,o,none⟩) P.length X),(4,.p 0 0),(5,.p 1 0),(8,sV r.2.1.1 r.2.2.length r.2.1.2),(10,.p 4002 0),(11,iV ((Fh C (P.take r.1) f g d).length)),(19,sV (some ⟨b,o,none⟩) P.length X),(20,iV P.length),(21,iV n),
   (30,.v (.slice (some ⟨b,o,none⟩) P.length X)),(31,.v (.int .i64 P.length)),(32,.v (.int .i64 r.1))])
   (fun _=>[(0,⟨34,[tV (Ag C.c),sV a1 n1 c1,sV a2 n2 c2]⟩),(1,⟨40,[iV f,iV g]⟩),(4002,⟨78,[iV H,tV d]⟩)])
   (fun r u' m'=>r.1<=P.length/\r.2.2.length<=n*100+r.1/\Af PH.mt m' (.slice r.2.1.1 r.2.2.length r.2.1.2) 51 2 (r.2.2.map Ix)) (fun r=>P.length-r.1) (0,(oa,oc),O) ⟨oV,dV,N⟩ ?_
  clear N hO;rintro J2 ⟨r,⟨Z,a0⟩,W⟩ m u2 m2 l2 ⟨hr,hO,N⟩;simp only at hr hO N m;by_cases Q:r<P.length
  ·refine G.lT r P.length ?_;obtain⟨q,hq⟩:∃ q,P[r]?=some q:=⟨_,A0i Q⟩;have E:=App (C:=C) (f:=f) (g:=g) (x:=d) hq;have aa:(Fh C (P.take r) f g d).length<=P.length:=by
    unfold Fh;refine A0l (A3h _ _) (A0l Mr ?_);rw[A0q];omega
   obtain⟨b2,o2,e0,e2⟩:=Ab.at' (hP.mono (l1.trans l2)) (j:=r) (e:=An q) (by simp[hq]);cases e0;obtain⟨q1,I⟩:=q;refine G.a b o P.length X r 2 Q<|G.lU (some 2) b (o+r*2) (.agg #[.int .i64 q1,.string (mkS I)]) e2 ?_;simp only at E;by_cases hg:q1=g
   rotate_left
   ·refine G.eF' q1 g hg ?_;rw[if_neg fun h=>hg h.1,A1i]at E;refine G.i r ?_;rw[<-E];exact G.b (m (r+1,(Z,a0),W) _ _ _ cV l2 ⟨dV,dV,N⟩ dV)
   refine G.eT' q1 g hg<|G.c call166 (a6 u2 (l1.trans l2) (H,d) (q1,I)) ?_;rintro v3 u3 l3 rfl;by_cases h0:C.t (Aw (H,d) (q1,I))=0
   ·refine G.y (Ag (C.t (Aw (H,d) (q1,I)))) [48] (R4.2 h0) ?_;rw[if_neg fun h=>h.2 (by rw[<-hf];exact h0),A1i]at E;refine G.i r ?_;rw[<-E];exact G.b (m (r+1,(Z,a0),W) _ _ _ cV (l2.trans l3) ⟨dV,dV,N⟩ dV)
   refine G.x (Ag (C.t (Aw (H,d) (q1,I)))) [48] (fun h=>h0 (R4.1 h)) ?_;rw[if_pos ⟨hg,by rw[<-hf];exact h0⟩]at E;have a8:(Fh C (P.take (r+1)) f g d).length=(Fh C (P.take r) f g d).length+1:=by rw[E,A03];rfl
   refine G.p ((Fh C (P.take r) f g d).length:Int) 1 ((Fh C (P.take (r+1)) f g d).length:Int)<|G.buildArr1 51 9 d I kV kV kV kV<|G.B 51 2 32 (.agg #[.string (mkS []),.string (mkS [])]) [Ix (d,I)] (Vb [(d,I)]) ?_;intro g4 u4 l4 e4;have a3:(W.map Ix).length=W.length:=A0k ..;refine G.append 51 2 32 (.agg #[.string (mkS []),.string (mkS [])]) PH.mt (W.map Ix) [Ix (d,I)] (.slice Z W.length a0) g4 0 1 1 kV rfl rfl oV N e4 (Vb [(d,I)]) rfl oV (by rw[a3];omega) (by rw[a3];omega) ?_;intro v5 m5 Y;rw[show W.map Ix++[Ix (d,I)]=(W++[(d,I)]).map Ix by rw[A02];rfl]at Y;obtain⟨a5,c5,rfl⟩:=Y.shape;rw[A0k]at Y⊢;exact G.i r<|G.b (m (r+1,(a5,c5),W++[(d,I)]) _ _ _ cV ((l2.trans l3).trans l4) ⟨dV,by dsimp only;rw[A03];simp;omega,Y⟩ dV)
  obtain rfl:r=P.length:=oV;refine G.lF P.length P.length ?_;rw[A05];clear m;by_cases h1:(Fh C P f g d).length=1
  ·refine G.nF ((Fh C P f g d).length:Int) 1<|G.i n ?_;exact G.b (hJ (n+1,(Z,a0),W) _ _ _ cV (l1.trans l2) ⟨dV,dV,N,by
    dsimp only;rw[V];intro x hx;rcases A04.1 hx with hx|hx
    ·exact z x hx
    rw[A07.1 hx];exact h1⟩ dV)
  exact G.nT ((Fh C P f g d).length:Int) 1<|G.drop PH.mt kV (PH.mt_le _)<|G.r (.tuple #[.slice none 0 0,.bool false]) ⟨rfl,_,_,_,false,rfl,fun h=>by cases h⟩
 obtain rfl:n=P.length:=oV;refine G.lF P.length P.length ?_;clear hJ;rw[A05]at z;refine G.give _ _ _ kV N (fun g=>.inl rfl) ?_;intro u3 l3 hF;refine G.l (ι:=Nat) (fun n=>[(5,.p 1 0),(8,sV oa O.length oc),(62,sV pa P.length X),(63,iV P.length),(64,iV n)])
  (fun _=>[(1,⟨40,[iV f,iV g]⟩)])
  (fun n u' m'=>n<=P.length/\m'=PH.mt) (fun n=>P.length-n) 0 ⟨oV,rfl⟩ ?_
 clear N;rintro J n hJ u4 m4 l4 ⟨ab,rfl⟩;by_cases U:n<P.length
 ·refine G.lT n P.length ?_;obtain⟨p,hp⟩:∃ p,P[n]?=some p:=⟨_,A0i U⟩;obtain⟨b,o,rfl,e⟩:=Ab.at' (hP.mono ((l1.trans l3).trans l4)) (j:=n) (e:=An p) (by simp[hp]);obtain⟨H,d⟩:=p;refine G.a b o P.length X n 2 U<|G.lU (some 2) b (o+n*2) (.agg #[.int .i64 H,.string (mkS d)]) e ?_;obtain⟨b0,a4⟩:∃ b0:Bool,C8 .neq H g=b0:=⟨_,rfl⟩;refine G.cmpG .neq .i64 H g b0 kV rfl a4<|G.l (ι:=Nat×Bool) (fun r=>[(5,.p 1 0),(8,sV oa O.length oc),(15,.p 19002 0),(16,bV r.2),(62,sV (some ⟨b,o,none⟩) P.length X),(63,iV P.length),(64,iV n),(73,sV oa O.length oc),(74,iV O.length),(75,iV r.1)])
   (fun _=>[(1,⟨40,[iV f,iV g]⟩),(19002,⟨78,[iV H,tV d]⟩)])
   (fun r u' m'=>r.1<=O.length/\m'=PH.mt) (fun r=>O.length-r.1) (0,b0) ⟨oV,rfl⟩ ?_
  rintro J2 ⟨r,bb⟩ m u5 m5 l5 ⟨hr,rfl⟩;simp only at hr m;by_cases Q:r<O.length
  ·refine G.lT r O.length ?_;obtain⟨⟨x,y⟩,a7⟩:∃ x,O[r]?=some x:=⟨_,A0i Q⟩;obtain⟨bo,oo,e0,eo⟩:=Ab.at' (hF.mono (l4.trans l5)) (j:=r) (e:=Ix (x,y)) (by simp[a7]);subst e0;refine G.a bo oo O.length oc r 2 Q<|G.lU (some 2) bo (oo+r*2) (.agg #[.string (mkS x),.string (mkS y)]) eo<|G.pub 23002 51 [.string (mkS x),.string (mkS y)] kV kV ?_;intro b6 h6 a9;cases bb with
   |true =>
    exact G.i r<|G.drop PH.mt kV (PH.mt_le _)<|G.b (m (r+1,true) _ _ _ cV l5 ⟨dV,rfl⟩ dV)
   |false =>
    have e6:ElP (PH.mt.upd b6 (.cells [Value.string (mkS x),.string (mkS y)].toArray 51 (0,0))) b6 0 (.agg #[.string (mkS x),.string (mkS y)]):=Jg (xs:=[Value.string (mkS x),.string (mkS y)]) (Ac _ _ _) rfl;refine G.addrA 51 9 2 b6 0 1 1 kV kV kV kV oV<|G.lM none b6 (0+1*1) (.string (mkS y)) (e6.fld (j:=1) (xs:=#[.string (mkS x),.string (mkS y)]) rfl rfl) ?_;by_cases hy:y=d
    ·exact G.q y d hy<|G.i r<|G.drop PH.mt kV (PH.mt_le _)<|G.b (m (r+1,true) _ _ _ cV l5 ⟨dV,rfl⟩ dV)
    exact G.w y d hy<|G.i r<|G.drop PH.mt kV (PH.mt_le _)<|G.b (m (r+1,false) _ _ _ cV l5 ⟨dV,rfl⟩ dV)
  obtain rfl:r=O.length:=oV;refine G.lF O.length O.length ?_;cases bb with
  |true =>
   exact G.i n<|G.b (hJ (n+1) _ _ _ cV (l4.trans l5) ⟨oV,rfl⟩ oV)
  |false=>exact G.r (.tuple #[.slice none 0 0,.bool false]) ⟨rfl,_,_,_,false,rfl,fun h=>by cases h⟩
 obtain rfl:n=P.length:=oV;exact G.lF P.length P.length<|G.r (.tuple #[.slice oa O.length oc,.bool true]) ⟨rfl,_,_,_,true,rfl,fun _=>z⟩
end
end
end Go.Proofs.YtdgncafgglafjaaGreatDoor
