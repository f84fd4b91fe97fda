/- Parts of one proof, joined by a program. -/
import Derived.Test.YtnafchoihfnkeaaGreatDoorS10
set_option linter.defProp false
set_option linter.unusedVariables false
set_option linter.unusedSimpArgs false
set_option linter.unusedSectionVars false
set_option maxHeartbeats 16000000
namespace Go.Proofs.YtnafchoihfnkeaaGreatDoor
open Go.Proofs.Tryz
open Go.RowKit Go.MapKept
def A2l:=@List.filter_append
def A0d:=@List.getElem?_range
def A1b:=@List.length_eq_zero_iff
def A0u:=@Array.size_modify
section
variable {j k l:Nat}
def noS:Nat->Bool:=fun _=>false
def Of (n:Nat)(A:Nat->Nat->Rat)(x:Rat)(j i:Nat):Rat:=qdt n (Br (dgS noS A x) j (idq i))
def Ahn {n:Nat}{C:Nat->Nat->Rat}{x y:Nat->Rat}(h:∀ i,i<n->x i=y i):qdt n (Br C j x)=qdt n (Br C j y):=Dr fun t _ i hi=>by
 unfold Br;split
 ·exact h i hi
 rfl
theorem Arj {n:Nat}{A:Nat->Nat->Rat}{x:Rat}(g:j<n)(u:k<n):(Ak n fun i=>dgS noS A x k i*Of n A x j i)=if j=k then Ez n noS A x else 0:=by
 have m:=Agx (dgS noS A x) g (dgS noS A x k) idq n;unfold Of;rw[<-m,Ahn (y:=dgS noS A x k) fun i hi=>by
  rw[D8 (j:=i) hi fun t v d=>by unfold idq;rw[if_neg (fun e=>d e.symm)];grind,show idq i i=1 from if_pos rfl];grind]
 by_cases e:j=k
 ·rw[if_pos e,<-e,Fa];rfl
 rw[if_neg e];exact Abl (a:=j) (b:=k) g u e (by rw[F9,E5 _ (fun h=>e h.symm)])
theorem Ao6 (n:Nat)(A:Nat->Nat->Rat)(j i:Nat):IsP (n+1) fun x=>Of n A x j i :=
 (IsP.det n (C:=fun x=>Br (dgS noS A (0+x)) j (idq i)) fun t s=>by
  unfold Br;by_cases e:t=j
  ·exact⟨idq i s,0,fun h=>by rw[if_pos e];grind⟩
  ·obtain⟨a,b,q⟩:=Y1 noS A 0 t s;exact⟨a,b,fun h=>by rw[if_neg e,q]⟩).congr fun x=>by
  show qdt n (Br (dgS noS A x) j (idq i))=qdt n (Br (dgS noS A (0+x)) j (idq i));rw[Ax8]
def Alt (n:Nat)(A:Nat->Nat->Rat)(x:Rat)(k:Nat):Ez n (Di noS k) A x=Of n A x k k:=by
 unfold Ez Of
 congr 1
 funext t i
 unfold Br;by_cases e:t=k
 ·subst e;rw[if_pos rfl];unfold dgS Di;rw[if_pos rfl,if_pos rfl]
 rw[if_neg e];unfold dgS Di;rw[if_neg e]
structure Lk (n:Nat)(A:Nat->Nat->Rat)(c:Nat->Rat)(b:Nat->Nat->Nat->Rat):Prop where
 det:∀ x,Ez n noS A x=evP (n+1) c x
 adj:∀ j i x,Of n A x j i=evP (n+1) (b j i) x
def Agl (n:Nat)(A:Nat->Nat->Rat):∃ c b,Lk n A c b:=by
 obtain⟨c,e⟩:=O6 n noS A;have d:=fun j i=>Ao6 n A j i;exact⟨c,fun j i=>(d j i).choose,e,fun j i=>(d j i).choose_spec⟩
section
variable {n:Nat} {A:Nat->Nat->Rat} {c:Nat->Rat} {b:Nat->Nat->Nat->Rat}
theorem Lk.eqs (h:Lk n A c b)(I:j<n)(u:k<n)(v:l<n+2) :
 (if l=0 then 0 else b j k (l-1))+(Ak n fun i=>A i k*(if l=n+1 then 0 else b j i l))=if l=n+1 then 0 else if j=k then c l else 0:=by
 refine Agk (d:=n+2) (c:=fun l=>(if l=0 then 0 else b j k (l-1))+(Ak n fun i=>A i k*(if l=n+1 then 0 else b j i l))) (c':=fun l=>if l=n+1 then 0 else if j=k then c l else 0) (fun x=>?_) v;have H:=Arj (A:=A) (x:=x) I u;have up:∀ f:Nat->Rat,evP (n+2) (fun l=>if l=n+1 then 0 else f l) x=evP (n+1) f x:=fun f=>by
  have J:Ak (n+1) (fun l=>(if l=n+1 then 0 else f l)*pwR x l)=Ak (n+1) (fun l=>f l*pwR x l):=Af fun l v=>by rw[if_neg oV]
  show Ak (n+1) (fun l=>(if l=n+1 then 0 else f l)*pwR x l)+(if n+1=n+1 then 0 else f (n+1))*pwR x (n+1)=_;rw[J,if_pos rfl];unfold evP;grind
 have z:evP (n+2) (fun l=>(if l=0 then 0 else b j k (l-1))+(Ak n fun i=>A i k*(if l=n+1 then 0 else b j i l))) x=x*Of n A x j k+Ak n fun i=>A i k*Of n A x j i:=by
  have K:evP (n+2) (fun l=>if l=0 then 0 else b j k (l-1)) x=x*Of n A x j k:=by
   rw[h.adj j k x];unfold evP;exact Ms (b j k) x (n+1)
  have L:∀ m,evP (n+2) (fun l=>Ak m fun i=>A i k*(if l=n+1 then 0 else b j i l)) x=Ak m fun i=>A i k*Of n A x j i:=fun m=>by
   induction m with
   |zero=>unfold evP;simp only[Ak];rw[B5 fun _ _=>by grind];grind
   |succ m ih =>
    rw[Ak,<-ih,h.adj j m x,<-up (b j m)];unfold evP;rw[<-Bk,<-B2];exact Af fun l _=>by dsimp only;rw[Ak];grind
  rw[<-K,<-L n];unfold evP;rw[<-B2];exact Af fun l _=>by grind
 have C:evP (n+2) (fun l=>if l=n+1 then 0 else if j=k then c l else 0) x=if j=k then Ez n noS A x else 0:=by
  rw[up fun l=>if j=k then c l else 0];by_cases e:j=k
  ·rw[if_pos e,h.det x];unfold evP;exact Af fun l _=>by dsimp only;rw[if_pos e]
  rw[if_neg e];unfold evP;exact B5 fun l _=>by dsimp only;rw[if_neg e];grind
 rw[z,C,<-H];have E:∀ i,dgS noS A x k i*Of n A x j i=x*(idq k i*Of n A x j i)+A i k*Of n A x j i:=fun i=>by
  unfold dgS noS;rw[if_neg mV];grind
 have F:(Ak n fun i=>idq k i*Of n A x j i)=Of n A x j k:=by
  rw[D8 u fun t N g=>by unfold idq;rw[if_neg g];grind,show idq k k=1 from if_pos rfl];grind
 rw[Af fun i _=>E i,B2,Bk,F]
theorem Lk.top (h:Lk n A c b)(e:j<n)(g:k<n):b j k n=0:=by
 have d:=h.eqs e g (l:=n+1) oV;rw[if_neg oV,if_pos rfl,B5 fun i _=>by rw[if_pos rfl];grind,Avv]at d;grind
def Lk.step (h:Lk n A c b)(e:j<n)(m:k<n)(t:l<n):b j k l+(Ak n fun i=>A i k*b j i (l+1))=if j=k then c (l+1) else 0:=by
 have d:=h.eqs e m (l:=l+1) oV;rw[if_neg oV,if_neg oV,Avv,Af (g:=fun i=>A i k*b j i (l+1)) fun i _=>by rw[if_neg oV]]at d;exact d
theorem Lk.last (h:Lk n A c b)(e:j<n)(m:k<n):(Ak n fun i=>A i k*b j i 0)=if j=k then c 0 else 0:=by
 have d:=h.eqs e m (l:=0) oV;rw[if_pos rfl,if_neg oV,Af (g:=fun i=>A i k*b j i 0) fun i _=>by rw[if_neg oV]]at d;grind
def Lk.trace (h:Lk n A c b)(e:l<n):((l+1:Nat):Rat)*c (l+1)=Ak n fun k=>b k k l:=by
 have d:=H4 h.det (cs:=fun k=>b k k) (fun k _ _ x=>by rw[Alt];exact h.adj k k x) e;rw[d];exact Af fun k _=>by unfold noS;rw[if_neg mV]
end
def Af0 (S:Nat->Bool)(A:Nat->Nat->Rat):∀ n,(∀ k,k<n->S k=true)->qdt n (mnS S A)=1
 |0,_=>rfl
 |n+1,h=>by rw[Agw (h n oV),Af0 S A n fun k d=>h k oV]
theorem Z8 (S:Nat->Bool):∀ n,(Ak n fun k=>if S k then 0 else 1)=((D7 n S:Nat):Rat)
 |0=>rfl
 |n+1=>by
  rw[Ak,Z8 S n];unfold D7;rw[Ayh,A2l,Atg];cases e:S n with
  |true=>simp[e];grind
  |false=>simp[e,Axq]
theorem Aar {n:Nat}{A:Nat->Nat->Rat}:∀ (m:Nat) (S:Nat->Bool) (c:Nat->Rat),D7 n S=m->m<=n->(∀ x,Ez n S A x=evP (n+1) c x)->c m=1
 |0,S,c,hm,_,hc=>by
  have h0:=hc 0;rw[Ty,Acx,Af0 S A n fun k u=>?_]at h0
  ·exact h0.symm
  unfold D7 at hm;have:=List.filter_eq_nil_iff.1 (Auo hm) k (Axf.2 u);simpa using this
 |m+1,S,c,hm,hn,hc=>by
  obtain⟨cs,d⟩:=Y2 n S A;have v:=H4 hc (cs:=cs) (fun k _ _ x=>d k x) (show m<n by omega);rw[Af (g:=fun k=>if S k then 0 else 1) fun k u=>?_,Z8,hm]at v
  ·have z:(0:Rat)<((m+1:Nat):Rat):=Rat.natCast_pos.2 oV;have E:((m+1:Nat):Rat)*(c (m+1)-1)=0:=by
    rw[Ayg,Rat.mul_add,v];grind
   rcases A0a.1 E with C|C
   ·rw[C]at z;exact absurd z fV
   grind
  cases e:S k with
  |true=>simp
  |false =>
   have H:=Aae u e;have F:D7 n S<=D7 n (Di S k)+1:=by
    unfold D7;have h:((List.range n).filter fun t=>!Di S k t)=((List.range n).filter fun t=>!S t).filter fun t=>decide (t≠k):=by
     rw[List.filter_filter];refine List.filter_congr fun t _=>?_;unfold Di;by_cases et:t=k
     ·simp[et]
     simp[et]
    rw[h];exact Ael k (List.nodup_range.sublist List.filter_sublist)
   have:=Aar m (Di S k) (cs k) oV oV (d k);simp[this]
def Lk.one {n:Nat}{A:Nat->Nat->Rat}{c:Nat->Rat}{b:Nat->Nat->Nat->Rat}(h:Lk n A c b):c n=1 :=
 Aar n noS c (by
  have:((List.range n).filter fun k=>!noS k)=List.range n:=List.filter_eq_self.2 fun _ _=>rfl;unfold D7;rw[this,List.length_range]) (Atb _) h.det
end
def Rec (n w:Nat)(X:List (List Rat)):Prop:=X.length=n/\∀ i,i<n->(gM X i).length=w
def en (X:List (List Rat))(i j:Nat):Rat:=gR (gM X i) j
def Aod {n w i:Nat}{X:List (List Rat)}{r:List Rat}(h:Rec n w X)(hi:i<n)(e:r.length=w):Rec n w (X.set i r):=by
 refine⟨by simp[h.1],fun j d=>?_⟩;rw[Ux (by rw[h.1];exact hi)];split
 ·exact e
 exact h.2 j d
section
variable {l:Nat}
def Eu (n:Nat)(X Y:Nat->Nat->Rat)(i k:Nat):Rat:=Ak n fun j=>X i j*Y j k
def V0 (f:Nat->Nat->Rat):∀ m n:Nat,(Ak m fun i=>Ak n fun k=>f i k)=Ak n fun k=>Ak m fun i=>f i k
 |0,n=>by simp only[Ak];exact (B5 fun _ _=>rfl).symm
 |m+1,n=>by rw[Ak,V0 f m n,<-B2];rfl
theorem Adm {n:Nat}(X Y Z:Nat->Nat->Rat)(i k:Nat):Eu n (Eu n X Y) Z i k=Eu n X (Eu n Y Z) i k:=by
 unfold Eu;rw[Af (g:=fun j=>Ak n fun t=>X i t*Y t j*Z j k) fun j _=>by
  rw[Af (f:=fun t=>X i t*Y t j*Z j k) (g:=fun t=>Z j k*(X i t*Y t j)) fun t _=>by grind,Bk];grind,V0]
 exact Af fun t _=>by
  rw[<-Bk];exact Af fun j _=>by grind
def U5 {n:Nat}{X X' Y d:Nat->Nat->Rat}{i k:Nat}(h:∀ j,j<n->X i j=X' i j)(g:∀ j,j<n->Y j k=d j k):Eu n X Y i k=Eu n X' d i k :=
 Af fun j e=>by rw[h j e,g j e]
section
variable {n:Nat} {a:Nat->Nat->Rat} {c:Nat->Rat} {b:Nat->Nat->Nat->Rat}
abbrev Amu (n:Nat)(a:Nat->Nat->Rat)(c:Nat->Rat)(b:Nat->Nat->Nat->Rat):Prop:=Lk n (fun i k=>-(a i k)) c b
theorem Lk.down (h:Amu n a c b)(u:l<n){j k:Nat}(m:j<n)(t:k<n):b j k l=Eu n (fun j i=>b j i (l+1)) a j k+if j=k then c (l+1) else 0:=by
 have d:=h.step m t u;have e:(Ak n fun i=>-(a i k)*b j i (l+1)) = -(Eu n (fun j i=>b j i (l+1)) a j k):=by
  unfold Eu;rw[Af (g:=fun i=>(-1)*(b j i (l+1)*a i k)) fun i _=>by grind,Bk];grind
 rw[e]at d;grind
theorem Lk.comm (h:Amu n a c b):∀ (d l:Nat),l+d=n->∀ j k,j<n->k<n->Eu n a (fun j i=>b j i l) j k=Eu n (fun j i=>b j i l) a j k
 |0,l,hl,j,k,m,v=>by
  unfold Eu;rw[B5 fun i hi=>by dsimp only;rw[show b i k l=0 from by rw[show l=n by omega];exact h.top hi v];grind,
   B5 fun i hi=>by dsimp only;rw[show b j i l=0 from by rw[show l=n by omega];exact h.top m hi];grind]
 |d+1,l,hl,j,k,m,v=>by
  have H:=Lk.comm h d (l+1) oV;have z:=fun j k (m:j<n) (v:k<n)=>h.down (l:=l) oV m v;have C:Eu n a (fun j i=>b j i l) j k=Eu n a (Eu n (fun j i=>b j i (l+1)) a) j k+c (l+1)*a j k:=by
   unfold Eu at z⊢;rw[Af (g:=fun i=>a j i*(Ak n fun t=>b i t (l+1)*a t k)+(if i=k then c (l+1)*a j i else 0)) fun i hi=>by
    dsimp only;rw[z i k hi v];split<;>grind,B2,D8 (f:=fun i=>if i=k then c (l+1)*a j i else 0) v fun t F u=>by rw[if_neg u],if_pos rfl]
  have E:Eu n (fun j i=>b j i l) a j k=Eu n (Eu n (fun j i=>b j i (l+1)) a) a j k+c (l+1)*a j k:=by
   unfold Eu at z⊢;rw[Af (g:=fun i=>(Ak n fun t=>b j t (l+1)*a t i)*a i k+(if i=j then c (l+1)*a i k else 0)) fun i hi=>by
    dsimp only;rw[z j i m hi];by_cases e:j=i
    ·rw[if_pos e,if_pos e.symm];grind
    rw[if_neg e,if_neg fun h=>e h.symm];grind,B2,D8 (f:=fun i=>if i=j then c (l+1)*a i k else 0) m fun t F u=>by rw[if_neg u],if_pos rfl]
  rw[C,E,<-Adm,U5 (X':=Eu n (fun j i=>b j i (l+1)) a) (fun i hi=>H j i m hi) fun _ _=>rfl]
theorem T3 (x:Rat):∀ n:Nat,(Ak n fun _=>x)=(n:Rat)*x
 |0=>by simp only[Ak];grind
 |n+1=>by rw[Ak,T3 x n,Axq];grind
theorem Lk.tr (h:Amu n a c b)(u:l<n):(Ak n fun i=>Eu n a (fun j i=>b j i l) i i)=((l:Nat):Rat)*c l-(n:Rat)*c l:=by
 rw[Af fun i hi=>h.comm (n-l) l oV i i hi hi];cases l with
 |zero =>
  have e:∀ i,i<n->Eu n (fun j i=>b j i 0) a i i = -(c 0):=fun i hi=>by
   have d:=h.last hi hi;rw[if_pos rfl]at d;unfold Eu;rw[<-d];rw[Af (g:=fun t=>(-1)*(-(a t i)*b i t 0)) fun t _=>by grind,Bk];grind
  rw[Af e,T3];rw[show (((0:Nat):Nat):Rat)=0 from rfl];grind
 |succ l =>
  have d:=h.trace (l:=l) oV;rw[Af (g:=fun k=>Eu n (fun j i=>b j i (l+1)) a k k+c (l+1)) fun k m=>by rw[h.down (l:=l) oV m m,if_pos rfl],B2,T3]at d;rw[d];grind
end
end
section
variable {A M:List (List Rat)}{n:Nat}
theorem N9 (g:Nat->Rat):∀ f:Nat,Ak (f+1) g=g 0+Ak f fun t=>g (t+1)
 |0=>by simp only[Ak];grind
 |f+1=>by
  have d:=N9 g f;rw[Ak,d];simp only[Ak];grind
theorem Zo (row:List Rat)(M:List (List Rat))(j:Nat):∀ (f m:Nat) (s:Rat),Ix row M j f m s=s+Ak f fun t=>gR row (m+t)*gR (gM M (m+t)) j
 |0,m,s=>by simp only[Ix,Ak];grind
 |f+1,m,s=>by
  rw[Ix,Zo row M j f (m+1),N9];rw[Af (f:=fun t=>gR row (m+1+t)*gR (gM M (m+1+t)) j) (g:=fun t=>gR row (m+(t+1))*gR (gM M (m+(t+1))) j) fun t _=>by
   rw[show m+1+t=m+(t+1) by omega]]
  simp only[Avb];grind
def Vb (row:List Rat)(M:List (List Rat))(n:Nat):∀ (f j:Nat) (l:List Rat),Eg row M n f j l=l++(List.range f).map fun t=>Ix row M (j+t) n 0 0
 |0,j,l=>by simp[Eg]
 |f+1,j,l=>by
  rw[Eg,Vb row M n f (j+1),List.range_succ_eq_map,Auk,List.map_map,Au1]
  congr 1
  rw[List.singleton_append]
  congr 1
  refine Ay6 fun t _=>?_;show Ix row M (j+1+t) n 0 0=Ix row M (j+(t+1)) n 0 0;rw[show j+1+t=j+(t+1) by omega]
theorem Xf (A M:List (List Rat))(n:Nat):∀ (f i:Nat) (N:List (List Rat)) (t:Rat),Fb A M n f i N t=(N++(List.range f).map (fun s=>Eg (gM A (i+s)) M n n 0 []),t+Ak f fun s=>gR (Eg (gM A (i+s)) M n n 0 []) (i+s))
 |0,i,N,t=>by
  simp only[Fb,Ak,List.range_zero,Axd,Auu]
  congr 1;grind
 |f+1,i,N,t=>by
  rw[Fb,Xf A M n f (i+1),N9,List.range_succ_eq_map,Auk,List.map_map,Au1,List.singleton_append];have d:(List.range f).map (fun s=>Eg (gM A (i+1+s)) M n n 0 [])=(List.range f).map ((fun s=>Eg (gM A (i+s)) M n n 0 [])∘Nat.succ):=Ay6 fun s _=>by
   show Eg (gM A (i+1+s)) M n n 0 []=Eg (gM A (i+(s+1))) M n n 0 [];rw[show i+1+s=i+(s+1) by omega]
  have e:(Ak f fun s=>gR (Eg (gM A (i+1+s)) M n n 0 []) (i+1+s))=Ak f fun s=>gR (Eg (gM A (i+(s+1))) M n n 0 []) (i+(s+1)):=Af fun s _=>by
   rw[show i+1+s=i+(s+1) by omega]
  rw[d,e];simp only[Avb]
  congr 1;grind
theorem W4 (x:Rat){n:Nat}:∀ (f i:Nat) (M:List (List Rat)),i+f<=n->Rec n n M->Rec n n (E3 x f i M)/\∀ a b,a<n->b<n->en (E3 x f i M) a b=en M a b+if a=b/\i<=a/\a<i+f then x else 0
 |0,i,M,_,h=>⟨h,fun a b _ _=>by rw[E3,if_neg oV];grind⟩
 |f+1,i,M,hi,h=>by
  have j:i<M.length:=by rw[h.1];omega
  have m:i<(gM M i).length:=by rw[h.2 i oV];omega
  have t:Rec n n (M.set i ((gM M i).set i (gR (gM M i) i+x))):=Aod h oV (by rw[Avx];exact h.2 i oV);obtain⟨u,v⟩:=W4 x f (i+1) _ oV t;rw[E3];refine⟨u,fun a b z C=>?_⟩;rw[v a b z C];have e:en (M.set i ((gM M i).set i (gR (gM M i) i+x))) a b=en M a b+if a=b/\a=i then x else 0:=by
   unfold en;rw[Ux j];by_cases d:i=a
   ·rw[if_pos d,Yb m];by_cases g:i=b
    ·rw[if_pos g,if_pos oV,<-d,<-g]
    rw[if_neg g,if_neg oV,<-d];grind
   rw[if_neg d,if_neg oV];grind
  rw[e];by_cases d:a=b/\i+1<=a/\a<i+1+f
  ·rw[if_pos d,if_neg oV,if_pos oV];grind
  rw[if_neg d];by_cases g:a=b/\a=i
  ·rw[if_pos g,if_pos oV];grind
  rw[if_neg g,if_neg oV];grind
def Abz {n i j:Nat}(d:j<n):gR (Eg (gM A i) M n n 0 []) j=Eu n (en A) (en M) i j:=by
 rw[Vb,Ava];unfold gR;rw[As7,Aty,A0d d];show Ix (gM A i) M (0+j) n 0 0=_;rw[Zo];unfold Eu;rw[Ax8];exact Af fun t _=>by
  rw[Aud,Aud];rfl
def Ahe :Rec n n (Fb A M n n 0 [] 0).1/\(∀ i j,i<n->j<n->en (Fb A M n n 0 [] 0).1 i j=Eu n (en A) (en M) i j)/\(Fb A M n n 0 [] 0).2=Ak n fun i=>Eu n (en A) (en M) i i:=by
 rw[Xf,Ava];have d:∀ i,i<n->gM ((List.range n).map fun s=>Eg (gM A (0+s)) M n n 0 []) i=Eg (gM A i) M n n 0 []:=fun i hi=>by
  unfold gM;rw[As7,Aty,A0d hi];show Eg (A.getD (0+i) []) M n n 0 []=_;rw[Aud]
 refine⟨⟨mV,fun i hi=>?_⟩,fun i j hi e=>?_,?_⟩
 ·show (gM ((List.range n).map fun s=>Eg (gM A (0+s)) M n n 0 []) i).length=n;rw[d i hi,Vb];simp
 ·show gR (gM ((List.range n).map fun s=>Eg (gM A (0+s)) M n n 0 []) i) j=_;rw[d i hi,Abz e]
 show (0:Rat)+Ak n _=_;rw[Ax8];exact Af fun i hi=>by
  rw[Aud,Abz hi]
theorem Wh {n:Nat}{A:List (List Rat)}{c:Nat->Rat}{b:Nat->Nat->Nat->Rat}(h:Amu n (en A) c b):∀ (f k:Nat) (M:List (List Rat)) (d:List Rat),k+f=n+1->1<=k->Rec n n M ->
 (∀ i j,i<n->j<n->en M i j=Eu n (en A) (fun j i=>b j i (n+1-k)) i j)->d=(List.range' (n+1-k) k).map c->F5 A n f k M d=(List.range (n+1)).map c
 |0,k,M,d,hk,h1,hM,he,ho=>by
  rw[F5,ho,show n+1-k=0 by omega,show k=n+1 by omega,List.range_eq_range']
 |f+1,k,M,d,hk,h1,hM,he,ho=>by
  have h0:gR d 0=c (n+1-k):=by
   rw[ho];obtain⟨m,rfl⟩:∃ m,k=m+1:=⟨k-1,oV⟩;rw[List.range'_succ];rfl
  obtain⟨N,v⟩:=W4 (gR d 0) (n:=n) n 0 M oV hM;have H:∀ i j,i<n->j<n->en (E3 (gR d 0) n 0 M) i j=b i j (n-k):=fun i j hi g=>by
   rw[v i j hi g,he i j hi g,h0,show n+1-k=n-k+1 by omega,h.comm (k-1) (n-k+1) oV i j hi g,h.down (l:=n-k) oV hi g];by_cases e:i=j
   ·rw[if_pos e,if_pos oV]
   rw[if_neg e,if_neg oV]
  obtain⟨I,J,K⟩:=Ahe (A:=A) (M:=E3 (gR d 0) n 0 M) (n:=n);have u:∀ i j,i<n->j<n->Eu n (en A) (en (E3 (gR d 0) n 0 M)) i j=Eu n (en A) (fun j i=>b j i (n-k)) i j:=fun i j hi g=>U5 (fun _ _=>rfl) fun t z=>H t j z g;have z:(Fb A (E3 (gR d 0) n 0 M) n n 0 [] 0).2/((-(k:Int):Int):Rat)=c (n-k):=by
   rw[K,Af fun i hi=>u i i hi hi,h.tr (l:=n-k) oV];have E:((n-k:Nat):Rat)=(n:Rat)-(k:Rat):=by
    have:n=(n-k)+k:=oV;have C:(n:Rat)=(((n-k)+k:Nat):Rat):=congrArg (fun m:Nat=>(m:Rat)) this;rw[Axq]at C;rw[C];grind
   have F:((-(k:Int):Int):Rat) = -(k:Rat):=by rw[Ayf,Au6]
   have L:(0:Rat)<(k:Rat):=Rat.natCast_pos.2 oV;rw[E,F];grind
  rw[F5,z];refine Wh h f (k+1) _ _ oV oV I (fun i j hi g=>?_) ?_
  ·rw[J i j hi g,u i j hi g,show n+1-(k+1)=n-k by omega]
  rw[ho,show n+1-(k+1)=n-k by omega,List.range'_succ,Auk,show n+1-k=n-k+1 by omega]
theorem Ab9 (g:Rec n n A){c:Nat->Rat}{b:Nat->Nat->Nat->Rat}(h:Amu n (en A) c b):Ao A=(List.range (n+1)).map c:=by
 unfold Ao;rw[g.1];have e:∀ i,i<n->gM (List.replicate n (List.replicate n (0:Rat))) i=List.replicate n 0:=fun i hi=>by
  unfold gM;rw[As7,Avg,if_pos hi];rfl
 refine Wh h n 1 _ _ oV oV ⟨Aur ..,fun i hi=>by rw[e i hi,Aur]⟩ (fun i j hi d=>?_) ?_
 ·unfold en;rw[e i hi];unfold gR;rw[As7,Avg,if_pos d];unfold Eu;rw[B5 fun t m=>by dsimp only;rw[show n+1-1=n by omega,h.top m d];grind];rfl
 rw[show n+1-1=n by omega];show [1] = [c n];rw[h.one]
end
section
variable {n:Nat}
theorem Afr:∀ (r:Nat) (C:Nat->Nat->Rat),qdt r (fun t i=>-(C t i))=qsg r*qdt r C
 |0,_=>by show (1:Rat)=1*1;grind
 |r+1,C=>by
  rw[qdt,qdt,<-Bk];refine Af fun j _=>?_;have e:B7 j (fun t i=>-(C t i))=fun t i=>-(B7 j C t i):=by
   funext t i
   unfold B7;split<;>rfl
  rw[e,Afr r (B7 j C),qsg];grind
theorem Af6 (x:Rat):∀ j,pwR (-x) j=qsg j*pwR x j
 |0=>by show (1:Rat)=1*1;grind
 |j+1=>by simp only[pwR,qsg];rw[Af6 x j];grind
theorem Aln {a:Nat->Nat->Rat}{c d:Nat->Rat}(g:∀ x,Ez n noS (fun i k=>-(a i k)) x=evP (n+1) c x)(h:∀ x,Ez n noS a x=evP (n+1) d x){j:Nat}(m:j<n+1):c j=qsg n*qsg j*d j:=by
 refine Agk (d:=n+1) (c':=fun j=>qsg n*qsg j*d j) (fun x=>?_) m;rw[<-g];have e:Ez n noS (fun i k=>-(a i k)) x=qsg n*Ez n noS a (-x):=by
  unfold Ez;rw[<-Afr]
  congr 1
  funext t i
  unfold dgS noS;rw[if_neg mV,if_neg mV];grind
 rw[e,h];unfold evP;rw[<-Bk];exact Af fun j _=>by rw[Af6];grind
def Af8:∀ (l:List Rat) (q:Rat),q≠0->(∀ j,j+1<(q::l).length->gR (q::l) j≠0->gR (q::l) (j+1)≠0/\sg (gR (q::l) (j+1)) = -(sg (gR (q::l) j)))->chg (sg q) l=l.length
 |[],_,_,_=>rfl
 |p::l,q,hq,h=>by
  obtain⟨g,m⟩:=h 0 mV hq;have e:p≠0:=g;have d:sg p = -(sg q):=m;rw[chg,if_pos d,<-d,Af8 l p e fun j t u=>h (j+1) (by simp at t⊢;omega) u,Auh]
def Af2:∀ (l:List Rat),l≠[]->(∀ j,j+1=l.length->gR l j≠0)->(∀ j,j+1<l.length->gR l j≠0->gR l (j+1)≠0/\sg (gR l (j+1)) = -(sg (gR l j)))->zer l+var l+1=l.length
 |[],h,_,_=>absurd rfl h
 |q::l,_,hl,h=>by
  by_cases e:q=0
  ·subst e;have d:l≠[]:=fun e=>hl 0 (by rw[e];rfl) rfl;have t:=Af2 l d (fun j g=>hl (j+1) (by rw[Auh,g])) fun j g m=>h (j+1) (by rw[Auh];omega) m;rw[Ajw,zer,if_pos rfl,Auh];omega
  rw[Arq l e,zer,if_neg e,Af8 l q e h,Auh];omega
theorem Us (i:Nat):∀ (k:Nat) (l:List Rat),I5 0 i k l=l
 |0,l=>rfl
 |k+1,l=>by
  rw[I5];split
  ·rfl
  have e:gR l k+0*gR l (k+1)=gR l k:=by grind
  rw[e,Us i k];by_cases g:k<l.length
  ·refine Awe fun j=>?_;rw[Au5];by_cases d:k=j
   ·rw[if_pos d,if_pos oV,<-d,Gd g,As5 g]
   rw[if_neg d]
  exact List.set_eq_of_length_le oV
def Pt:∀ (f i:Nat) (l:List Rat),F3 0 f i l=l
 |0,_,_=>rfl
 |f+1,i,l=>by rw[F3,Us,Pt f]
def Aby (p:List Rat):Fc 0 p=p:=Pt _ _ _
theorem Akd {A:List (List Rat)}(T:Rec n n A)(R:M4 n (en A))(hp:Pd n (en A)):C7 (Ao A) 0=0:=by
 obtain⟨c,b,h⟩:=Agl n (fun i k=>-(en A i k));obtain⟨d,H⟩:=O6 n noS (en A);have z:=Ab9 T h;have v:=fun j (m:j<n+1)=>Aln h.det H m;have I:=Sb R hp n noS d (by unfold D7;exact As9 (Aw8 _ _) mV) H;have K:D7 n noS=n:=by
  have:((List.range n).filter fun k=>!noS k)=List.range n:=List.filter_eq_self.2 fun _ _=>rfl;unfold D7;rw[this,List.length_range]
 have C:=fun j (m:j<n) (N:0<d j)=>Z3 R hp n noS d oV H j m N ⟨0,oV,rfl⟩ fun _ _ _=>oV;have g:(Ao A).length=n+1:=by rw[z];simp
 have L:∀ j,j<n+1->gR (Ao A) j=qsg n*qsg j*d j:=fun j m=>by
  rw[<-v j m,z];unfold gR;rw[As7,Aty,A0d m];rfl
 have F:∀ j,qsg j=1\/qsg j = -1:=fun j=>by
  induction j with
  |zero=>exact .inl rfl
  |succ j ih=>simp only[qsg];rcases ih with e|e<;>rw[e]<;>simp
 have E:qsg n*qsg n*d n=1:=by rw[<-v n oV];exact h.one
 have O:=Af2 (Ao A) (fun e=>by rw[e]at g;cases g) (fun j m=>by
  obtain rfl:j=n:=oV;rw[L j oV,E];decide) fun j m Q=>by
  rw[g]at m;rw[L j oV]at Q⊢;rw[L (j+1) oV];have J:0<d j:=by
   have:=I j oV;refine Au2 fun U=>Q ?_;have:d j=0:=by grind
   rw[this];grind
  have P:=C j oV J;rcases F n with t|t<;>rcases F j with u|u
  ·simp only[qsg];rw[t,u,Tg (q:=1*1*d j) (by grind),Qq (q:=1 * -1*d (j+1)) (by grind)];exact⟨by grind,rfl⟩
  ·simp only[qsg];rw[t,u,Qq (q:=1 * -1*d j) (by grind),Tg (q:=1 * - -1*d (j+1)) (by grind)];exact⟨by grind,rfl⟩
  ·simp only[qsg];rw[t,u,Qq (q:=-1*1*d j) (by grind),Tg (q:=-1 * -1*d (j+1)) (by grind)];exact⟨by grind,rfl⟩
  simp only[qsg];rw[t,u,Tg (q:=-1 * -1*d j) (by grind),Qq (q:=-1 * - -1*d (j+1)) (by grind)];exact⟨by grind,rfl⟩
 unfold C7;rw[Aby];omega
end
section
variable {i:Nat}
def Wo {P:List Par}(e:P.Nodup)(g:Par->Rat->Rat)(y:Nat->Rat):C5 (fun p=>g p (y (P.idxOf p))) P=Ak P.length fun i=>g (P.getD i Cd) (y i):=by
 have h:∀ k,k<=P.length->C5 (fun p=>g p (y (P.idxOf p))) (P.take k)=Ak k fun i=>g (P.getD i Cd) (y i):=fun k=>by
  induction k with
  |zero=>intro _;rfl
  |succ k ih =>
   intro n;have d:k<P.length:=oV
   rw[At0,As5 d];show C5 _ (P.take k++[P[k]])=_;rw[Ah2,ih oV,Ak];have j:P.idxOf P[k]=k:=List.Nodup.idxOf_getElem e k d;have m:P.getD k Cd=P[k]:=by rw[As7,As5 d];rfl
   rw[j,m]
 have:=h P.length (Atb _);rwa[At9]at this
def Er (C:CF)(p q:Par):Rat:=C.t (A5 p q)/C.c-C.s p/C.c*(C.s q/C.c)
def Cs (C:CF)(P:List Par):List (List Rat):=P.map fun p=>P.map fun q=>Er C p q
section
variable {C:CF} {P:List Par}
def Agy (hi:i<P.length):gM (Cs C P) i=P.map fun q=>Er C (P.getD i Cd) q:=by
 unfold Cs gM;rw[As7,Aty,As5 hi,As7,As5 hi];rfl
def R3:Rec P.length P.length (Cs C P):=⟨by simp[Cs],fun i hi=>by rw[Agy hi];simp⟩
def Nv {i k:Nat}(hi:i<P.length)(d:k<P.length):en (Cs C P) i k=Er C (P.getD i Cd) (P.getD k Cd):=by
 unfold en;rw[Agy hi];unfold gR;rw[As7,Aty,As5 d,As7 (l:=P) (i:=k),As5 d];rfl
theorem Aie (p q:Par)(h:A5 p q=A5 q p):Er C p q=Er C q p:=by
 unfold Er;rw[h];grind
def Ae5:M4 P.length (en (Cs C P)):=fun i k hi d=>by
 rw[Nv hi d,Nv d hi];exact Aie _ _ (Vh _ _)
theorem Adq (d:P.Nodup)(y:Nat->Rat)(m:Rat):Is (fun e=>match e with|none=>m|some p=>y (P.idxOf p)) P C =
 C.c*m*m+2*m*(Ak P.length fun i=>C.s (P.getD i Cd)*y i)+Ak P.length fun i=>y i*Ak P.length fun k=>C.t (A5 (P.getD i Cd) (P.getD k Cd))*y k:=by
 unfold Is Ah7;have g:∀ e:Option Par,C5 (fun f=>(match e with|none=>m|some p=>y (P.idxOf p))*Gh C e f*(match f with|none=>m|some p=>y (P.idxOf p))) (none::P.map some) =
  (match e with|none=>m|some p=>y (P.idxOf p))*(Gh C e none*m+Ak P.length fun k=>Gh C e (some (P.getD k Cd))*y k):=fun e=>by
  rw[C5,Pf,Wo d (fun p z=>(match e with|none=>m|some p=>y (P.idxOf p))*Gh C e (some p)*z) y,Rat.mul_add,<-Bk]
  congr 1
  ·grind
  exact Af fun k _=>by grind
 rw[Gw fun e _=>g e,C5,Pf];have j:=Wo d (fun p z=>z*(Gh C (some p) none*m+Ak P.length fun k=>Gh C (some p) (some (P.getD k Cd))*y k)) y;rw[show C5 (fun p=>(match (some p:Option Par) with|none=>m|some p=>y (P.idxOf p))*(Gh C (some p) none*m+Ak P.length fun k=>Gh C (some p) (some (P.getD k Cd))*y k)) P=_ from j];have h:(Ak P.length fun i=>y i*(Gh C (some (P.getD i Cd)) none*m+Ak P.length fun k=>Gh C (some (P.getD i Cd)) (some (P.getD k Cd))*y k))=m*(Ak P.length fun i=>C.s (P.getD i Cd)*y i)+Ak P.length fun i=>y i*Ak P.length fun k=>C.t (A5 (P.getD i Cd) (P.getD k Cd))*y k:=by
  rw[<-Bk,<-B2];refine Af fun i _=>?_;show y i*(C.s (P.getD i Cd)*m+Ak P.length fun k=>C.t (A5 (P.getD i Cd) (P.getD k Cd))*y k)=_;grind
 rw[h];show m*(C.c*m+Ak P.length fun k=>C.s (P.getD k Cd)*y k)+_=_;grind
theorem Afo (d:P.Nodup)(u:0<C.c)(hp:∀ z,0<=Is z P C):Pd P.length (en (Cs C P)):=fun y=>by
 have h:=hp fun e=>match e with|none=>-(Ak P.length fun i=>C.s (P.getD i Cd)*y i)/C.c|some p=>y (P.idxOf p)
 rw[Adq d]at h;have e:rfm P.length (en (Cs C P)) y=(Ak P.length fun i=>y i*Ak P.length fun k=>C.t (A5 (P.getD i Cd) (P.getD k Cd))*y k)/C.c + -((Ak P.length fun i=>C.s (P.getD i Cd)*y i)/C.c*((Ak P.length fun i=>C.s (P.getD i Cd)*y i)/C.c)):=by
  unfold rfm;generalize j:(Ak P.length fun i=>C.s (P.getD i Cd)*y i)=S;rw[Af (g:=fun i=>(1/C.c)*(y i*Ak P.length fun k=>C.t (A5 (P.getD i Cd) (P.getD k Cd))*y k)+(-(S/C.c)/C.c)*(C.s (P.getD i Cd)*y i)) fun i hi=>by
   rw[Af (g:=fun k=>(1/C.c)*(C.t (A5 (P.getD i Cd) (P.getD k Cd))*y k)+(-(C.s (P.getD i Cd)/C.c)/C.c)*(C.s (P.getD k Cd)*y k)) fun k v=>by
    rw[Nv hi v];unfold Er;grind,B2,Bk,Bk,j]
   grind,B2,Bk,Bk,j]
  grind
 rw[e];generalize (Ak P.length fun i=>C.s (P.getD i Cd)*y i)=S at *
 generalize (Ak P.length fun i=>y i*Ak P.length fun k=>C.t (A5 (P.getD i Cd) (P.getD k Cd))*y k)=Q at *
 have m:C.c*(-S/C.c)*(-S/C.c)+2*(-S/C.c)*S+Q=(Q/C.c + -(S/C.c*(S/C.c)))*C.c:=by grind
 rw[m]at h;refine Au2 fun E=>?_;have n:0 < -(Q/C.c + -(S/C.c*(S/C.c))):=by grind
 have:=Azv n u;grind
end
end
section
variable {F:CF}{N:Nat}{q:Rat}{u:PH}{v:Value}
def Afg (p:Par)(h:Aib u v F N):Fn0 prog 41 [v,A3 p] u fun r R=>An R r (F.s p):=by
 obtain⟨b,a,n,c,b',T,Y,c',g1,g2,L,Z,rfl,W,I,U,O,V⟩:=h;obtain⟨l,J,P,Q,_⟩:=O.at;refine Fn0.o func41 ?_;cases hx:F6 p l with
 |none =>
  refine G.mapNot (et:=103) Dq fz g1 L l p kV kV (.inl I) J hx<|G.c call56 (Dk (z:=0) oV oV) ?_;intro v1 u1 X H;rw[Q p (Gv.1 hx)];rw[show ((0:Int):Rat)=0 by decide +kernel]at H;obtain⟨t,m,E,C,e,d,j,g,rfl⟩:=H.opn;exact G.r (.agg #[.bool t,.slice m E C,.bool e,.slice d j g]) ⟨rfl,H⟩
 |some xv =>
  have K:=(P _ (H5 hx)).1;obtain⟨t,m,E,C,e,d,j,g,rfl⟩:=K.opn;exact G.mapHas (et:=103) Dq fz g1 L l p (.agg #[.bool t,.slice m E C,.bool e,.slice d j g]) kV kV (.inl I) J hx<|G.r (.agg #[.bool t,.slice m E C,.bool e,.slice d j g]) ⟨rfl,K⟩
def Aj8 (p q:Par)(h:Aib u v F N):Fn0 prog 38 [v,A3 p,A3 q] u fun r U=>An U r (F.t (A5 p q)):=by
 obtain⟨b,a,n,c,b',V,n',c',g1,g2,o1,P,rfl,Y,W,K,X,Q⟩:=h;obtain⟨l,L,R,T,_⟩:=Q.at;refine Fn0.o func38<|G.c call98 (Ar3 p q) ?_;rintro v0 u0 J rfl;cases hx:F6 (A5 p q) l with
 |none =>
  refine G.mapNot (et:=103) Alw fz g2 P l (A5 p q) kV kV (.inl (J _ _ K)) L hx<|G.c call56 (Dk (z:=0) oV oV) ?_;intro v1 u1 Z I;rw[T _ (Gv.1 hx)];rw[show ((0:Int):Rat)=0 by decide +kernel]at I;obtain⟨C,m,H,E,e,d,j,g,rfl⟩:=I.opn;exact G.r (.agg #[.bool C,.slice m H E,.bool e,.slice d j g]) ⟨rfl,I⟩
 |some xv =>
  have O:=(R _ (H5 hx)).1;obtain⟨C,m,H,E,e,d,j,g,rfl⟩:=O.opn;exact G.mapHas (et:=103) Alw fz g2 P l (A5 p q) (.agg #[.bool C,.slice m H E,.bool e,.slice d j g]) kV kV (.inl (J _ _ K)) L hx<|G.r (.agg #[.bool C,.slice m H E,.bool e,.slice d j g]) ⟨rfl,O.mono J⟩
def Ue (h:Tx q):Fn0 prog 36 [.string (mkS (Ap q))] u fun v _=>v=.int .i64 (sgn q.num):=by
 refine Fn0.o func36<|G.c call47 (Fp h) ?_;rintro L I C rfl;refine G.c call54 (Eq h) ?_;intro O J l2 d;obtain⟨t,n,H,z,g,e,m,j,rfl⟩:=d.opn;refine G.c call96 (Wv d (As9 h.sz.1 oV)) ?_;rintro P K E rfl;exact G.r _ ⟨rfl,rfl⟩
def Alr (h:Tx q):Fn0 prog 15 [.string (mkS (Ap q))] u fun v _=>v=.int .i64 (sgn q.num):=by
 refine Fn0.o func15<|G.c call59 (H0 h) ?_;rintro L I z rfl;refine G.c call17 (T4 h) ?_;intro O J C d;obtain⟨n,m,H,t,e,j,g,rfl,_⟩:=d.opn;refine G.c call60 (Ajm d (As9 h.sz.1 oV)) ?_;rintro P K E rfl;exact G.r _ ⟨rfl,rfl⟩
end
section
variable {C:CF}{k:Nat}
structure M6 (C:CF)(k:Nat):Prop where
 c:C.c=(k:Rat)
 lt:k<100
 s:∀ p,De 75 18 (C.s p)
 t:∀ p,De 75 18 (C.t p)
def M6.tx {C:CF}{k:Nat}(h:M6 C k):Tx C.c:=by
 rw[h.c];exact (De.nat (a:=2) (by have:=h.lt;omega)).tx oV oV oV oV
def M6.cpos (h:M6 C k)(h0:k≠0):0<C.c:=by
 rw[h.c];have d:=Aee k;refine Rat.lt_of_le_of_ne d fun e=>Nq (D:=k) oV e.symm
def M6.cne (h:M6 C k)(h0:k≠0):C.c≠0:=by
 rw[h.c];exact Nq oV
def M6.csz (h:M6 C k):Sz C.c 1000:=h.tx.sz.mono oV
def M6.mean (h:M6 C k)(h0:k≠0)(p:Par):De 75 20 (C.s p/C.c):=by
 rw[h.c];exact (h.s p).divn (n:=k) (m:=2) oV (by have:=h.lt;omega)
def M6.tn (h:M6 C k)(h0:k≠0)(p:Par×Par):De 75 20 (C.t p/C.c):=by
 rw[h.c];exact (h.t p).divn (n:=k) (m:=2) oV (by have:=h.lt;omega)
def As2 (C:CF)(p q:Par):Rat:=C.t (A5 p q)/C.c-C.s p/C.c*(C.s q/C.c)
def M6.cov (h:M6 C k)(h0:k≠0)(p q:Par):De 171 60 (As2 C p q) :=
 (h.tn h0 _).sub ((h.mean h0 p).mul (h.mean h0 q)) (f:=170) oV oV
def De.s1000 {a b:Nat}{q:Rat}(h:De a b q)(g:0<a)(d:a<=400)(j:0<b)(e:b<=400):Sz q 1000000000000:=(h.szn g d j e).mono oV
end
section
variable {N d:Nat}{q:Rat}
theorem Dn.lift (j:Nat)(h:Dn d N q):Dn (d+j) (N*12^j) q:=by
 obtain⟨k,e,g⟩:=h;refine⟨k*((12^j:Nat):Int),?_,?_⟩
 ·rw[Av9,Au6,<-e,Aww,Awt];grind
 rw[Au7];exact Ats _ g
def Dn.to {d e N M:Nat}(h:Dn d N q)(j:d<=e)(g:N*12^(e-d)<=M):Dn e M q:=by
 have:=h.lift (e-d);rw[show d+(e-d)=e by omega]at this;exact this.mono g
end
section
open Go.RowKit Go.MapKept Go.Shelf Go.Sort
variable {L:List Par}
def Pp (L:List Par):Av (L.map A3)=L.flatMap Bv:=by
 unfold Av;rw[List.flatMap_map];rfl
def Et (L:List Par):(L.flatMap Bv).length=L.length*2:=by
 induction L with
 |nil=>rfl
 |cons x L ih=>rw[Azl,Atg,ih,K2,Auh,At2];omega
def Xv {L d:List Par}(j:d.length=L.length)(rest:List Value):putCells id 0 (flatK Bv 2 d.toArray) (L.flatMap Bv++rest).toArray=(d.flatMap Bv++rest).toArray:=by
 have g:=Et L;have h:=Et d;have m:(flatK Bv 2 d.toArray).size=d.length*2:=by rw[size_flatK];simp
 apply A2j;intro t;unfold putCells;rw[Array.getElem?_mapIdx,Avh,Avh,m];by_cases e:t<d.length*2
 ·rw[Atl oV,Atl oV,Nt K2 d t e];have:(L.flatMap Bv)[t]?=some (L.flatMap Bv)[t]:=As5 oV;rw[this];simp only[Awh,Atu,Aud,true_and,if_pos e,id,Awx];rw[get_flatK Bv 2 _ t (by simpa using e)]
 rw[At1 oV,At1 oV,g,h,j];cases hr:rest[t-L.length*2]? with
 |none=>rfl
 |some x =>
  simp only[Awh,Atu,Aud,true_and];rw[if_neg oV]
def Ack (L:List Par):Ax 2 (L.map A3):=by
 intro e g;obtain⟨x,_,rfl⟩:=Ate.1 g;exact⟨rfl,fun y d=>by simp[A3,Value.cells]at d;rcases d with rfl|rfl<;>rfl⟩
def Akq {u m0 m:PH}{v:Value}(hA:Ae m0 m v 110 2 (L.map A3))(a3:L.Nodup)(hl:L.length<=1000000) :
 Aj prog 94 [v,.func (.func 95) #[] #[]] u m fun r u' m'=>r=.tuple #[]/\Ae m0 m' v 110 2 ((Ee Bd L).map A3):=by
 have hp:=Hd (c:=Bd) L;have J:(Ee Bd L).length=L.length:=hp.length_eq;intro w N;obtain⟨a4,h⟩:=hA;rcases h with ⟨rfl,he,rfl⟩|⟨g,cap,rest,Z,rfl,rfl,O,I,K⟩
 ·have hL:L = []:=by simpa using he
  subst hL;refine (AnyF.slices_SortFunc_none Tryz.sortPar none 0 _ w).mono ?_;rintro e w' ⟨rfl,rfl⟩;exact⟨_,u,m,rfl,N,⟨Atb _,fun _ _ _=>rfl,fun _ _=>rfl,fun _ _ h=>h,⟨rfl,rfl⟩,fun f=>f.elim⟩,rfl,by
   have e:Ee Bd ([]:List Par) = []:=A1b.1 J;rw[e];exact Ae.nil _ _ _⟩
 rw[Ata]at O⊢;rw[Pp]at I N;have R:w.heap[g]?=some (.cells (L.flatMap Bv++rest).toArray 110 (0,0)):=N.pm g _ (Ab _ _ _);have hH:HoldsK Bv 2 w g 0 L.toArray:=Aha (enc:=Bv) (k:=2) K2 R (by
  show (L.flatMap Bv++rest).take (L.length*2)=_;rw[Ayn (by rw[Et];omega),Atp (by rw[Et];omega)])
 have W:g<w.heap.size:=B0 R;have H:=AnyQ.slices_SortFunc_total Tryz.sortPar 2 (fun w=>kV) (fun w=>kV) Bv (fun _=>rfl) (fun x v hv=>by simp at hv;rcases hv with rfl|rfl<;>rfl) Bd Fr.swo 95 #[] g 0 cap L.toArray w call95 (Aeh g 0 _ w) hH W gV Fr.tot
 change Calls prog 94 _ _ _ at H;simp only[Azi]at H;refine Calls.mono H ?_;rintro e w' ⟨rfl,nn,os,rfl⟩;change Aoy _ _ _ (sortWorldK Bv 2 w g 0 nn (Ee Bd L).toArray os);obtain⟨w',U⟩:∃ w',w'=sortWorldK Bv 2 w g 0 nn (Ee Bd L).toArray os:=⟨_,rfl⟩;have C:w'.heap=w.heap.modify g (onCells (putCells id 0 (flatK Bv 2 (Ee Bd L).toArray)))++os:=by rw[U];rfl
 have a0:w'.os=w.os/\w'.output=w.output:=by rw[U];exact⟨rfl,rfl⟩
 rw[<-U];have a1:w.heap.size<=w'.heap.size:=by rw[C,Array.size_append,A0u];omega
 have F:∀ k,k<w.heap.size->k≠g->w'.heap[k]?=w.heap[k]?:=fun k d T=>by
  rw[C,Axr (by rw[A0u];exact d),Az1,if_neg (fun e=>T e.symm)]
 have P:w'.heap[g]?=some (.cells ((Ee Bd L).flatMap Bv++rest).toArray 110 (0,0)):=by
  rw[C,Axr (by rw[A0u];exact W),Az1,if_pos rfl,R];show some (Obj.cells (putCells id 0 _ _) _ _)=_;rw[Xv J]
 have a2:u g=none:=(N.ap g).resolve_right (by rw[Ab];simp);have Q:=Ack (Ee Bd L);refine⟨_,fun k=>if k<w.heap.size then u k else w'.heap[k]?,m0.upd g (.cells (Av ((Ee Bd L).map A3)++rest).toArray 110 (0,0)),rfl,⟨?_,?_,?_,?_⟩,⟨a1,?_,?_,?_,a0,fun f=>f.elim⟩,rfl,Q,.inr ⟨g,cap,rest,Z,rfl,by rw[Ata,J],by rw[Ata,J];exact O,?_,K⟩⟩
 ·intro k o d;simp only at d;split at d
  ·rename_i E;have T:k≠g:=fun e=>by subst e;rw[a2]at d;cases d
   rw[F k E T];exact N.pu k o d
  exact d
 ·intro k o d;by_cases e:k=g
  ·subst e;rw[Ab]at d;cases d;rw[P,Pp]
  rw[Ac _ _ e]at d;have:=N.pm k o (by rw[Ac _ _ e];exact d);rw[F k (B0 this) e];exact this
 ·intro k;simp only;by_cases E:k<w.heap.size
  ·rw[if_pos E];rcases N.ap k with h|h
   ·exact .inl h
   by_cases e:k=g
   ·subst e;rw[Ab]at h;cases h
   right;rw[Ac _ _ e]at h⊢;exact h
  right;have e:k≠g:=fun e=>oV;rw[Ac _ _ e];have:=N.pm.none (g:=k) (by show w.heap.size<=k;omega);rw[Ac _ _ e]at this;exact this
 ·intro k cs t fr j z d Y;simp only;by_cases E:k<w.heap.size
  ·rw[if_pos E];by_cases e:k=g
   ·subst e;rw[P]at d;cases d;exfalso;have X:Value.int .u64 z∈(Ee Bd L).flatMap Bv++rest:=by
     rw[Avh]at Y;exact Ato Y
    have V:∀ x∈(Ee Bd L).flatMap Bv++rest,Bh x=true:=fun x hx=>by
     rcases Ati.1 hx with h|h
     ·rw[<-Pp]at h;exact E7 Q x h
     exact K x h
    have:=V _ X;cases this
   rw[F k E e]at d;exact N.cl k cs t fr j z d Y
  rw[if_neg E];exact d
 ·intro k d n;refine F k d fun e=>?_;subst e;simp only at n;rw[Ab]at n;cases n
 ·intro k d;simp only;exact if_pos d
 ·intro k d n;by_cases e:k=g
  ·subst e;simp only at n;rw[Ab]at n;cases n
  simp only at n;rw[Ac _ _ e]at n⊢;exact n
 rw[Pp,Atg,Et,J];rw[Atg,Et]at I;exact I
end
section
variable {F:List Aq}{R:List Ch}{T:List (List UInt8×Nat)}{lab:Int}{n:Nat}{u:PH}{v:Value}
def Aa3 (F:List Aq)(lab:Int)(p:Par):Prop:=(p.1 = -1/\0<=lab/\p.2 = [])\/(∃ (k:Nat) (f:Aq),p.1=(k:Int)/\F[k]?=some f/\(f.2.1=2\/p.2 = []))
def Al1 {p:Par}(N:In u v T R F lab)(ok:By u T R F lab)(hp:Aa3 F lab p) :
 Fn0 prog 92 [v,A3 p] u fun r _=>r=.bool true:=by
 obtain⟨W,Y,X,Z,xe,U,rfl,L,K,z⟩:=N;have O:=ok.f2;refine Fn0.o func92 ?_;rcases hp with ⟨h,t,g⟩|⟨k,f,h,E,g⟩
 ·exact G.eT' p.1 (-1) h<|G.hT' lab 0 t<|G.q p.2 [] g<|G.r (.bool true) ⟨rfl,rfl⟩
 obtain⟨V,Q⟩:=p;simp only at h g;subst h;have P:=(Atc.1 E).1;obtain⟨m,C,rfl,H⟩:=Ad.at' z (j:=k) (e:=Ce f) (by simp[E]);obtain⟨I,d,J⟩:=f;simp only at g;refine G.eF k (-1)<|G.hF k F.length<|G.a m C F.length U k 3 P<|G.f 82 m (C+k*3) 1 1<|G.lU none m (C+k*3+1) (.int .i64 d) (H.fld (j:=1) (xs:=#[.int .i64 I,.int .i64 d,.int .i64 J]) rfl rfl) ?_;by_cases t:d=2
 ·exact G.eT d 2<|G.r (.bool true) ⟨rfl,rfl⟩
 exact G.eF d 2<|G.q Q [] (g.resolve_left t)<|G.r (.bool true) ⟨rfl,rfl⟩
def Ao1 {u m:PH}{b:Nat}{x:Par×Rat}(t:ElP m b 0 v)(e:In u v T R F lab)(ok:By u T R F lab)(hp:Aa3 F lab x.1) :
 FnK prog 91 [Bj x,.pointer (some ⟨b,0,none⟩)] u m fun v _=>v=.bool false:=by
 have d:=Al1 e ok hp;obtain⟨z,E,C,H,I,J,rfl,j,h,g⟩:=e;refine FnK.of func91 kV kV<|G.lM (some 4) b 0 (.agg #[.slice z T.length E,.slice C R.length H,.slice I F.length J,.int .i64 lab]) t<|G.c call92 d ?_;rintro N L K rfl;exact G.r (.bool false) ⟨rfl,rfl⟩
def Aj6 {u m:PH}{v cap:Value}{T:List (Par×Rat)}{fid:Nat}(h:Ad u v 3 (T.map Bj))(Q:T.length<=1000000)
 (d:∀ args w,(callFunc fid args).run prog w=.ok (.enter fid args) w) (L:∀ p∈T,∀ C,PH.le u C->FnK prog fid [Bj p,cap] C m fun v _=>v=.bool false) :
 FnK prog 155 [v,.func (.func fid) #[] #[cap]] u m fun P _=>P=.int .i64 (-1):=by
 obtain⟨a,c,rfl⟩:=h.opn;rw[Ata]at h⊢;refine FnK.of func155 kV kV<|G.l (ι:=Nat) (fun i=>[(0,sV a T.length c),(1,.v (.func (.func fid) #[] #[cap])),(7,iV T.length),(8,iV i)]) (fun _=>[])
  (fun i C N=>i<=T.length/\N=m) (fun i=>T.length-i) 0 ⟨oV,rfl⟩ ?_
 rintro J i K O U z ⟨hi,rfl⟩;by_cases g:i<T.length
 ·refine G.lT i T.length ?_;have t:T[i]?=some T[i]:=As5 g;obtain⟨E,H,rfl,I⟩:=Ad.at' (h.mono z) (j:=i) (e:=Bj T[i]) (by simp[t]);refine G.a E H T.length c i 3 oV<|G.lU (some 3) E (H+i*3) (Bj T[i]) I<|G.callK fid [Bj T[i],cap] kV d (L T[i] (Ath g) O z) ?_;rintro W V l2 rfl;exact G.i i<|G.b (K (i+1) _ _ _ cV (z.trans l2) ⟨oV,rfl⟩ oV)
 obtain rfl:i=T.length:=oV;exact G.lF T.length T.length<|G.r (.int .i64 (-1)) ⟨rfl,rfl⟩
def Z7 {u m:PH}{v cap:Value}{T:List (Par×Rat)}{fid:Nat}(h:Ad u v 3 (T.map Bj))(j:T.length<=1000000)
 (d:∀ args w,(callFunc fid args).run prog w=.ok (.enter fid args) w) (g:∀ p∈T,∀ e,PH.le u e->FnK prog fid [Bj p,cap] e m fun v _=>v=.bool false) :
 FnK prog 90 [v,.func (.func fid) #[] #[cap]] u m fun t _=>t=.bool false:=by
 obtain⟨a,c,rfl⟩:=h.opn;refine FnK.of func90 kV kV<|G.callK _ _ kV call155 (Aj6 h j d g) ?_;rintro E C z rfl;exact G.hF (-1) 0<|G.r (.bool false) ⟨rfl,rfl⟩
def C8 (F:List Aq)(n:Nat):List Nat:=(List.range n).filter fun i=>(F.getD i (0,0,0)).2.1==1
def Aii {f:Aq}(d:F[n]?=some f):C8 F (n+1)=if f.2.1=1 then C8 F n++[n] else C8 F n:=by
 unfold C8;rw[Ayh,A2l];have e:(F.getD n (0,0,0))=f:=by simp[As7,d]
 by_cases h:f.2.1=1
 ·rw[if_pos h,A1a (by rw[e];simp[h])];rfl
 rw[if_neg h,A09 (by rw[e];simp[h])];simp
def Zp (F:List Aq)(n:Nat):(C8 F n).length<=n:=by
 unfold C8;exact As9 (Aw8 _ _) mV
def T6 {n i:Nat}:i∈C8 F n↔i<n/\(F.getD i (0,0,0)).2.1=1:=by
 unfold C8;simp[Axo]
def Ada (F:List Aq)(n:Nat):(C8 F n).Nodup:=List.nodup_range.filter _
def Acj (U:In u v T R F lab)(ok:By u T R F lab) :
 Fn0 prog 93 [v] u fun r W=>Ad W r 1 (Ah (C8 F F.length)):=by
 have I:=Alz U ok;obtain⟨xa,xc,xb,xd,xe,X,rfl,a1,a0,E⟩:=U;have a2:=ok.f2;refine Fn0.o func93<|G.c call88 I ?_;rintro v1 u1 l1 rfl;refine G.nF 0 0<|G.l (ι:=Nat×(Option Addr×Nat)) (fun i=>[(3,sV i.2.1 (C8 F i.1).length i.2.2),(10,sV xe F.length X),(11,iV F.length),(12,iV i.1)]) (fun _=>[])
  (fun i W m'=>i.1<=F.length/\Ae PH.mt m' (.slice i.2.1 (C8 F i.1).length i.2.2) 3 1 (Ah (C8 F i.1))) (fun i=>F.length-i.1) (0,(none,0)) ⟨oV,Ae.nil _ _ _⟩ ?_
 rintro J ⟨i,⟨L,N⟩⟩ H u2 m2 l2 ⟨hi,h⟩;simp only at hi h H;have K:=l1.trans l2;have a3:=Zp F i;by_cases t:i<F.length
 ·refine G.lT i F.length ?_;obtain⟨f,m⟩:∃ f,F[i]?=some f:=⟨_,As5 t⟩;have z:=Aii m;obtain⟨O,P,rfl,ef⟩:=Ad.at' (E.mono K) (j:=i) (e:=Ce f) (by simp[m]);obtain⟨p1,C,p3⟩:=f;simp only at z;refine G.a O P F.length X i 3 t<|G.lU (some 3) O (P+i*3) (.agg #[.int .i64 p1,.int .i64 C,.int .i64 p3]) ef ?_;by_cases Q:C=1
  ·rw[if_pos Q]at z;refine G.eT C 1<|G.buildU 3 1 8 (.int .i64 0) (Ah [i]) kV (Az [i]) rfl oV (by simp[Ah]) (by simp[Ah]) ?_;intro g3 u3 V e3;refine G.append 3 1 8 (.int .i64 0) PH.mt (Ah (C8 F i)) (Ah [i]) (.slice L (C8 F i).length N) g3 0 1 1 kV rfl rfl oV h e3 (Az [i]) rfl oV (by simp[Ah];omega) (by simp[Ah];omega) ?_;intro v4 m4 d;have e4:Ah (C8 F i)++Ah [i]=Ah (C8 F (i+1)):=by rw[z];simp[Ah]
   rw[e4]at d;obtain⟨Y,Z,rfl⟩:=d.shape;have e5:(Ah (C8 F (i+1))).length=(C8 F (i+1)).length:=by simp[Ah]
   rw[e5]at d⊢;exact G.i i<|G.b (H (i+1,(Y,Z)) _ _ _ cV (l2.trans V) ⟨dV,d⟩ dV)
  rw[if_neg Q]at z;refine G.eF C 1<|G.i i ?_;rw[<-z]at h⊢;exact G.b (H (i+1,(L,N)) _ _ _ cV l2 ⟨dV,h⟩ dV)
 obtain rfl:i=F.length:=oV;refine G.lF F.length F.length<|G.give _ _ _ kV h (fun g=>.inl rfl) ?_;intro u3 V hL;exact G.r (.slice L (C8 F F.length).length N) ⟨rfl,hL⟩
end
section
open Go.RowKit Go.MapKept Go.Sort
variable {A:List (Par×Rat)}{C:CF}{F:List Aq}
def Ng (F:List Aq)(p:Par):Bool:=decide (0<=p.1)&&(F.getD p.1.toNat (0,0,0)).2.1==2
def Im (F:List Aq)(A:List (Par×Rat))(n:Nat):List Par:=((A.take n).map (·.1)).filter (Ng F)
theorem Aid {n:Nat}{x:Par×Rat}(h:A[n]?=some x):Im F A (n+1)=if Ng F x.1=true then Im F A n++[x.1] else Im F A n:=by
 unfold Im;have e:A.take (n+1)=A.take n++[x]:=by rw[At0,h];rfl
 by_cases d:Ng F x.1=true
 ·grind
 grind
def Amd (F:List Aq)(A:List (Par×Rat))(n:Nat):(Im F A n).length<=A.length:=by
 refine As9 (Aw8 _ _) ?_;rw[Ata,Atm];omega
def Jl (i:Nat):Par:=((i:Int),[])
def I7 (F:List Aq):List Par:=(C8 F F.length).map Jl
def I1 (p:Par):Ax 2 [A3 p]:=Ack [p]
def Ace (h:(A.map (·.1)).Nodup):(I7 F++Im F A A.length).Nodup:=by
 refine Awq.2 ⟨?_,?_,?_⟩
 ·refine List.Pairwise.map _ (fun a b d e=>?_) (Ada F F.length);unfold Jl at e;simp only[Aun]at e;exact d oV
 ·unfold Im;rw[At9];exact h.filter _
 intro a j b m e;subst e;obtain⟨i,hi,rfl⟩:=Ate.1 j;have g:=(Axo.1 m).2;unfold Ng Jl at g;simp only[Atj,beq_iff_eq,Avo]at g;have n:=(T6.1 hi).2;omega
theorem Ag3 (g:Can Bd C.s A){p:Par}:p∈I7 F++Im F A A.length↔(∃ (i:Nat) (f:Aq),p=Jl i/\F[i]?=some f/\f.2.1=1)\/(C.s p≠0/\∃ (i:Nat) (f:Aq),p.1=(i:Int)/\F[i]?=some f/\f.2.1=2):=by
 have j:p∈A.map (·.1)↔C.s p≠0:=by
  constructor
  ·intro h;obtain⟨x,n,rfl⟩:=Ate.1 h;obtain⟨d,e⟩:=g.val x n;rw[<-d];exact e
  intro h;exact Au2 fun m=>h (g.out p m)
 rw[Ati];refine or_congr ?_ ?_
 ·unfold I7;rw[Ate];constructor
  ·rintro⟨i,hi,rfl⟩;obtain⟨d,e⟩:=T6.1 hi;refine⟨i,F[i],rfl,As5 d,?_⟩;rw[As7,As5 d,Awo]at e;exact e
  rintro⟨i,f,rfl,hf,d⟩;refine⟨i,T6.2 ⟨(Atc.1 hf).1,?_⟩,rfl⟩;rw[As7,hf,Awo];exact d
 unfold Im;unfold Ng;constructor
 ·grind
 grind
abbrev Uy (F:List Aq)(C:CF)(L:List Par):Prop :=
 Hk Bd L/\∀ p,p∈L↔(∃ (i:Nat) (f:Aq),p=Jl i/\F[i]?=some f/\f.2.1=1)\/(C.s p≠0/\∃ (i:Nat) (f:Aq),p.1=(i:Int)/\F[i]?=some f/\f.2.1=2)
def Uy.eq {L d:List Par}(h:Uy F C L)(e:Uy F C d):L=d :=
 Aa0 Fr h.1 e.1 fun p=>(h.2 p).trans (e.2 p).symm
def Asg (u:PH)(r:Value)(F:List Aq)(C:CF):Prop :=
 (r=.tuple #[.slice none 0 0,.int .i64 3]/\∃ L,24<L.length/\Uy F C L)\/∃ (ps:Value) (L:List Par),r=.tuple #[ps,.int .i64 0]/\Ad u ps 2 (L.map A3)/\L.length<=24/\Uy F C L
theorem N6 {u:PH}{v w:Value}{T:List (List UInt8×Nat)}{R:List Ch}{lab:Int}{K:Nat}(hX:In u v T R F lab)(ok:By u T R F lab)(hC:Lp u w C K)(sC:CFS C)(vC:CFV C)(hK:K<=100000)(hb:∀ p,C.s p≠0->Aa3 F lab p) :
 Fn0 prog 35 [v,w] u fun r u'=>Asg u' r F C:=by
 have ai:=fun (u':PH) (l:PH.le u u')=>Alz (hX.mono l) (ok.mono l);have an:=fun (u':PH) (l:PH.le u u')=>Art (hC.mono l) sC vC oV;obtain⟨U,W,V,X,E,t,rfl,ar,aq,ag⟩:=id hX;obtain⟨A,Q,a1,c1,a2,c2,rfl,hA,hQ,cA,cQ,kA,kQ⟩:=hC;have aw:=ok.f2;refine Fn0.o func35<|G.c call88 (ai u (PH.le_refl _)) ?_;rintro v1 u1 l1 rfl;refine G.nF 0 0<|G.c call89 (an u1 l1) ?_;rintro v2 u2 l2 rfl;have O:=l1.trans l2;refine G.pub 0 30 [.slice U T.length W,.slice V R.length X,.slice E F.length t,.int .i64 lab] kV kV ?_;intro b au av;have a3:∀ (m':PH),m' b=some (.cells [Value.slice U T.length W,.slice V R.length X,.slice E F.length t,.int .i64 lab].toArray 30 (0,0))->ElP m' b 0 (.agg #[.slice U T.length W,.slice V R.length X,.slice E F.length t,.int .i64 lab]):=fun m' h=>Akn (xs:=[.slice U T.length W,.slice V R.length X,.slice E F.length t,.int .i64 lab]) h rfl;obtain⟨z,ac⟩:∃ z:PH,z=PH.mt.upd b (.cells [Value.slice U T.length W,.slice V R.length X,.slice E F.length t,.int .i64 lab].toArray 30 (0,0)):=⟨_,rfl⟩;have n:z b=some (.cells [Value.slice U T.length W,.slice V R.length X,.slice E F.length t,.int .i64 lab].toArray 30 (0,0)):=by rw[ac];exact Ab _ _ _
 rw[<-ac];refine G.callK _ _ kV call90 (Z7 (cap:=.pointer (some ⟨b,0,none⟩)) (hA.mono O) oV call91 fun x hx u' l'=>Ao1 (a3 z n) (hX.mono (O.trans l')) (ok.mono (O.trans l')) (hb x.1 (by obtain⟨q1,q2⟩:=cA.val x hx;rw[<-q1];exact q2))) ?_;rintro v3 u3 l3 rfl;have a9:=O.trans l3;refine G.lM (some 4) b 0 (.agg #[.slice U T.length W,.slice V R.length X,.slice E F.length t,.int .i64 lab]) (a3 z n)<|G.c call93 (Acj (hX.mono a9) (ok.mono a9)) ?_;intro v4 u4 l4 hN;obtain⟨na,nc,rfl⟩:=hN.opn;have al:(Ah (C8 F F.length)).length=(C8 F F.length).length:=by simp[Ah]
 rw[al]at hN⊢;have ay:=Zp F F.length;have ao:=a9.trans l4;refine G.l (ι:=Nat×(Option Addr×Nat)) (fun i=>[(2,.v (.pointer (some ⟨b,0,none⟩))),(3,.p 1 0),(6,sV i.2.1 ((C8 F F.length).take i.1).length i.2.2),(28,sV na (C8 F F.length).length nc),(29,iV ((C8 F F.length).length)),(30,iV i.1)])
  (fun _=>[(1,⟨38,[tV (Ap C.c),sV a1 A.length c1,sV a2 Q.length c2]⟩)])
  (fun i u' m'=>i.1<=(C8 F F.length).length/\Ae z m' (.slice i.2.1 ((C8 F F.length).take i.1).length i.2.2) 110 2 ((((C8 F F.length).take i.1).map Jl).map A3)) (fun i=>(C8 F F.length).length-i.1) (0,(none,0)) ⟨oV,Ae.nil _ _ _⟩ ?_
 rintro J ⟨i,⟨pa,pc⟩⟩ Y u5 m5 l5 ⟨hi,d⟩;simp only at hi d Y;have ap:=ao.trans l5;by_cases m:i<(C8 F F.length).length
 ·refine G.lT i ((C8 F F.length).length:Int) ?_;obtain⟨k,hk⟩:∃ k,(C8 F F.length)[i]?=some k:=⟨_,As5 m⟩;have am:(C8 F F.length).take (i+1)=(C8 F F.length).take i++[k]:=by rw[At0,hk];rfl
  obtain⟨bb,ob,rfl,eb⟩:=Ad.at' (hN.mono l5) (j:=i) (e:=.int .i64 k) (by simp[Ah,hk]);have b1:((C8 F F.length).take i).length=i:=by rw[Atm];omega
  refine G.a bb ob (C8 F F.length).length nc i 1 m<|G.lU none bb (ob+i*1) (.int .i64 k) eb<|G.B 110 2 24 (.agg #[.int .i64 0,.string (mkS [])]) [.agg #[.int .i64 k,.string (mkS [])]] (I1 (Jl k)) ?_;intro g6 u6 l6 e6;refine G.k 110 2 24 (.agg #[.int .i64 0,.string (mkS [])]) z _ [A3 (Jl k)] _ g6 0 1 1 d e6 (I1 (Jl k)) ?_;intro v7 m7 H;have e7:(((C8 F F.length).take i).map Jl).map A3++[A3 (Jl k)]=(((C8 F F.length).take (i+1)).map Jl).map A3:=by rw[am];simp
  rw[e7]at H;obtain⟨a7,c7,rfl⟩:=H.shape;rw[Ata,Ata]at H⊢;exact G.i i<|G.b (Y (i+1,(a7,c7)) _ _ _ cV (l5.trans l6) ⟨dV,H⟩ dV)
 obtain rfl:i=(C8 F F.length).length:=oV;refine G.lF ((C8 F F.length).length:Int) ((C8 F F.length).length:Int) ?_;clear Y;rw[At9]at d⊢;have aa:Ae z m5 (.slice pa (I7 F++Im F A 0).length pc) 110 2 ((I7 F++Im F A 0).map A3):=by
  have e1:Im F A 0 = []:=rfl;have e2:(I7 F).length=(C8 F F.length).length:=by unfold I7;simp
  rw[e1,Auu,e2];exact d
 have e0:(C8 F F.length).length=(I7 F++Im F A 0).length:=by
  have e1:Im F A 0 = []:=rfl;have e2:(I7 F).length=(C8 F F.length).length:=by unfold I7;simp
  rw[e1,Auu,e2]
 rw[e0];have az:(I7 F).length<=8:=by unfold I7;rw[Ata];omega
 refine G.l (ι:=Nat×(Option Addr×Nat)) (fun i=>[(2,.v (.pointer (some ⟨b,0,none⟩))),(6,sV i.2.1 (I7 F++Im F A i.1).length i.2.2),(41,sV a1 A.length c1),(42,iV A.length),(43,iV i.1)]) (fun _=>[])
  (fun i u' m'=>i.1<=A.length/\Ae z m' (.slice i.2.1 (I7 F++Im F A i.1).length i.2.2) 110 2 ((I7 F++Im F A i.1).map A3)) (fun i=>A.length-i.1) (0,(pa,pc)) ⟨oV,aa⟩ ?_
 clear d aa e0;rintro J ⟨i,⟨pa,pc⟩⟩ Y u6 m6 l6 ⟨hi,d⟩;simp only at hi d Y;have ae:=ap.trans l6;have ax:=Amd F A i;by_cases m:i<A.length
 ·refine G.lT i A.length ?_;obtain⟨x,a0⟩:∃ x,A[i]?=some x:=⟨_,As5 m⟩;have hs:=Aid (F:=F) a0;have Z:Aa3 F lab x.1:=hb x.1 (by obtain⟨q1,q2⟩:=cA.val x (Ato a0);rw[<-q1];exact q2);obtain⟨ba,oa,rfl,ea⟩:=Ad.at' (hA.mono ae) (j:=i) (e:=Bj x) (by simp[a0]);obtain⟨⟨p1,P⟩,q⟩:=x;simp only at hs Z;refine G.a ba oa A.length c1 i 3 m<|G.lU (some 3) ba (oa+i*3) (.agg #[.int .i64 p1,.string (mkS P),.string (mkS (Ap q))]) ea ?_;have step:∀ {u7:PH},PH.le u6 u7->Ng F (p1,P)=false->True:=fun _ _=>trivial;by_cases h0:0<=p1
  ·refine G.hT' p1 0 h0 ?_;obtain⟨k,f,aj,a4⟩:∃ (k:Nat) (f:Aq),p1=(k:Int)/\F[k]?=some f:=by
    rcases Z with ⟨h1,_⟩|⟨k,f,h1,hf,_⟩
    ·simp only at h1;omega
    exact⟨k,f,h1,hf⟩
   subst aj;have ak:=(Atc.1 a4).1;have ad:m6 b=some (.cells [Value.slice U T.length W,.slice V R.length X,.slice E F.length t,.int .i64 lab].toArray 30 (0,0)):=d.see n;refine G.f 30 b 0 2 2<|G.lM none b (0+2) (.slice E F.length t) ((a3 m6 ad).fld (j:=2) (xs:=#[.slice U T.length W,.slice V R.length X,.slice E F.length t,.int .i64 lab]) rfl rfl) ?_;obtain⟨fb,fo,rfl,ef⟩:=Ad.at' (ag.mono ae) (j:=k) (e:=Ce f) (by simp[a4]);refine G.a fb fo F.length t k 3 ak ?_;obtain⟨f1,f2,f3⟩:=f;refine G.f 82 fb (fo+k*3) 1 1<|G.lU none fb (fo+k*3+1) (.int .i64 f2) (ef.fld (j:=1) (xs:=#[.int .i64 f1,.int .i64 f2,.int .i64 f3]) rfl rfl) ?_;have a6:Ng F ((k:Int),P)=(f2==2):=by
    unfold Ng;simp only[Avo,As7,a4,Awo];rw[decide_eq_true oV];rfl
   rw[a6]at hs;by_cases h2:f2=2
   ·rw[if_pos (by simpa using h2)]at hs;refine G.eT f2 2<|G.B 110 2 24 (.agg #[.int .i64 0,.string (mkS [])]) [.agg #[.int .i64 k,.string (mkS P)]] (I1 ((k:Int),P)) ?_;intro g7 u7 l7 e7;refine G.k 110 2 24 (.agg #[.int .i64 0,.string (mkS [])]) z _ [A3 ((k:Int),P)] _ g7 0 1 1 d e7 (I1 ((k:Int),P)) ?_;intro v8 m8 I;have e8:(I7 F++Im F A i).map A3++[A3 ((k:Int),P)]=(I7 F++Im F A (i+1)).map A3:=by rw[hs];simp
    rw[e8]at I;obtain⟨a8,c8,rfl⟩:=I.shape;rw[Ata]at I⊢;exact G.i i<|G.b (Y (i+1,(a8,c8)) _ _ _ cV (l6.trans l7) ⟨dV,I⟩ dV)
   rw[if_neg (by simpa using h2)]at hs;refine G.eF f2 2<|G.i i ?_;rw[<-hs]at d⊢;exact G.b (Y (i+1,(pa,pc)) _ _ _ cV l6 ⟨dV,d⟩ dV)
  refine G.hF' p1 0 h0 ?_;have a6:Ng F (p1,P)=false:=by
   unfold Ng;rw[decide_eq_false h0];rfl
  rw[a6,if_neg mV]at hs;refine G.i i ?_;rw[<-hs]at d⊢;exact G.b (Y (i+1,(pa,pc)) _ _ _ cV l6 ⟨dV,d⟩ dV)
 obtain rfl:i=A.length:=oV;refine G.lF A.length A.length ?_;have N:(I7 F++Im F A A.length).Nodup:=Ace (cA.srt.nodup Fr);have a5:∀ p,p∈I7 F++Im F A A.length↔_:=fun p=>Ag3 (F:=F) cA (p:=p);have ab:(I7 F++Im F A A.length).length<=1000000:=by grind
 generalize I7 F++Im F A A.length=L at d N a5 ab;by_cases af:24<L.length
 ·exact G.gT L.length 24<|G.drop PH.mt kV (PH.mt_le _)<|G.r (.tuple #[.slice none 0 0,.int .i64 3]) ⟨rfl,.inl ⟨rfl,Ee Bd L,by rw[(Hd (c:=Bd) L).length_eq];exact af,Q0 Fr N,fun p=>(Hd (c:=Bd) L).mem_iff.trans (a5 p)⟩⟩
 refine G.gF L.length 24<|G.callA _ _ kV kV call94 (C3 m6).symm (Il m6) (Akq d N ab) ?_;rintro v7 u7 m7 l7 ⟨rfl,hS⟩ _;have hp:=Hd (c:=Bd) L;have b0:(Ee Bd L).length=L.length:=hp.length_eq;refine G.give _ _ _ kV hS (fun g=>.inl rfl) ?_;intro u8 l8 ah;exact G.drop PH.mt kV (PH.mt_le _)<|G.r (.tuple #[.slice pa L.length pc,.int .i64 0]) ⟨rfl,.inr ⟨_,Ee Bd L,rfl,ah,oV,Q0 Fr N,fun p=>hp.mem_iff.trans (a5 p)⟩⟩
end
section
variable {A:List (Par×Rat)}{C:CF}{F:List Aq}{i n:Nat}{p:Par}
def Gb (F:List Aq)(A:List (Par×Rat))(i:Nat):List Par:=if (F.getD i (0,0,0)).2.1=1 then [Jl i] else (A.map (·.1)).filter fun p=>p.1==(i:Int)
def F8 (F:List Aq)(A:List (Par×Rat))(n:Nat):List Par:=(List.range n).flatMap (Gb F A)
def Qc (F:List Aq)(A:List (Par×Rat))(n:Nat):F8 F A (n+1)=F8 F A n++Gb F A n:=by
 unfold F8;rw[Ayh,List.flatMap_append];simp
theorem Wa (h:p∈Gb F A i):p.1=(i:Int):=by
 unfold Gb at h;split at h
 ·simp at h;subst h;rfl
 grind
def Ajo (h:p∈F8 F A n):0<=p.1/\p.1<(n:Int):=by
 obtain⟨i,hi,hp⟩:=Ax3.1 h;have:=Wa hp;simp at hi;omega
def Ak0 {p q:Par}(h:p.1<q.1):Bd p q<0:=by
 unfold Bd Od;rw[if_pos h,if_pos oV];omega
def Qh {F:List Aq}{A:List (Par×Rat)}(d:Hk Bd (A.map (·.1))):∀ n,Hk Bd (F8 F A n)
 |0=>List.Pairwise.nil
 |n+1=>by
  rw[Qc];refine Av8.2 ⟨Qh d n,?_,fun p hp q e=>?_⟩
  ·unfold Gb;split
   ·exact Azh _ _
   exact d.filter _
  have g:=Ajo hp;have h:=Wa e;exact Ak0 oV
theorem Zq (m:Can Bd C.s A)(v:∀ f∈F,f.2.1=1\/f.2.1=2):p∈F8 F A F.length↔(∃ (i:Nat) (f:Aq),p=Jl i/\F[i]?=some f/\f.2.1=1)\/(C.s p≠0/\∃ (i:Nat) (f:Aq),p.1=(i:Int)/\F[i]?=some f/\f.2.1=2):=by
 have g:p∈A.map (·.1)↔C.s p≠0:=by
  constructor
  ·intro h;obtain⟨x,u,rfl⟩:=Ate.1 h;obtain⟨d,j⟩:=m.val x u;rw[<-d];exact j
  intro h;exact Au2 fun t=>h (m.out p t)
 unfold F8;rw[Ax3];constructor
 ·rintro⟨i,hi,hp⟩;unfold Gb at hp;split at hp
  ·grind
  grind
 rintro (⟨i,f,rfl,hf,d⟩|⟨h0,i,f,d,hf,j⟩)
 ·have e:F.getD i (0,0,0)=f:=by simp[As7,hf]
  refine⟨i,by simpa using (Atc.1 hf).1,?_⟩;unfold Gb;rw[e,if_pos d];simp
 have e:F.getD i (0,0,0)=f:=by simp[As7,hf]
 refine⟨i,by simpa using (Atc.1 hf).1,?_⟩;unfold Gb;rw[e,if_neg oV];exact Axo.2 ⟨g.2 h0,by simpa using d⟩
theorem Amf (n:Nat):(F8 F A n).length<=n*(A.length+1):=by
 induction n with
 |zero=>exact Atu _
 |succ n ih =>
  rw[Qc,Atg,At2,Avm];have:(Gb F A n).length<=A.length+1:=by
   unfold Gb;split
   ·simp
   grind
  omega
def Gg (A:List (Par×Rat))(i n:Nat):List Par:=((A.take n).map (·.1)).filter fun p=>p.1==(i:Int)
theorem Adx {x:Par×Rat}(h:A[n]?=some x):Gg A i (n+1)=if x.1.1=(i:Int) then Gg A i n++[x.1] else Gg A i n:=by
 unfold Gg;have e:A.take (n+1)=A.take n++[x]:=by rw[At0,h];rfl
 by_cases d:x.1.1=(i:Int)
 ·grind
 grind
def Ail (A:List (Par×Rat))(i n:Nat):(Gg A i n).length<=A.length:=by
 refine As9 (Aw8 _ _) ?_;rw[Ata,Atm];omega
def Vg {u:PH}{v w:Value}{T:List (List UInt8×Nat)}{R:List Ch}{lab:Int}{K:Nat}(hX:In u v T R F lab)(ok:By u T R F lab)(hC:Lp u w C K)(sC:CFS C)(vC:CFV C)(hK:K<=10000)(hb:∀ p,C.s p≠0->Aa3 F lab p) :
 Fn0 prog 10 [v,w] u fun r Z=>Asg Z r F C:=by
 have am:=fun (Z:PH) (l:PH.le u Z)=>Qy (hX.mono l) (ok.mono l);have aq:=fun (Z:PH) (l:PH.le u Z)=>Ac3 (hC.mono l) sC vC oV;have ae:∀ f∈F,f.2.1=1\/f.2.1=2:=fun f I=>by
  obtain⟨n,k,_,U,_⟩:=ok.feat.ok f I;rcases U with ⟨U,_⟩|⟨U,_⟩
  ·exact .inl U
  exact .inr U
 obtain⟨xa,xc,xb,xd,xe,xf,rfl,ax,aw,aj⟩:=id hX;obtain⟨A,Q,a1,c1,a2,c2,rfl,hA,hQ,cA,cQ,kA,kQ⟩:=hC;have ay:=ok.f2;have al:∀ n,n<=8->(F8 F A n).length<=100000:=fun n hn=>by
  have:=Amf (F:=F) (A:=A) n;have U:n*(A.length+1)<=8*(A.length+1):=Ats _ hn;omega
 refine Fn0.o func10<|G.c call29 (am u (PH.le_refl _)) ?_;rintro v1 u1 l1 rfl;refine G.nF 0 0<|G.c call44 (aq u1 l1) ?_;rintro v2 u2 l2 rfl;have ar:=l1.trans l2;refine G.l (ι:=Nat×(Option Addr×Nat)) (fun i=>[(2,.p 0 0),(3,.p 1 0),(7,sV i.2.1 (F8 F A i.1).length i.2.2),(26,sV xe F.length xf),(27,iV F.length),(28,iV i.1)])
  (fun _=>[(0,⟨30,[sV xa T.length xc,sV xb R.length xd,sV xe F.length xf,iV lab]⟩),(1,⟨38,[tV (Ap C.c),sV a1 A.length c1,sV a2 Q.length c2]⟩)])
  (fun i Z m'=>i.1<=F.length/\Ae PH.mt m' (.slice i.2.1 (F8 F A i.1).length i.2.2) 110 2 ((F8 F A i.1).map A3)) (fun i=>F.length-i.1) (0,(none,0)) ⟨oV,Ae.nil _ _ _⟩ ?_
 rintro J ⟨i,⟨Y,V⟩⟩ hJ u3 m3 l3 ⟨hi,H⟩;simp only at hi H hJ;have a3:=ar.trans l3;have ap:=al i oV;by_cases af:i<F.length
 ·refine G.lT i F.length ?_;obtain⟨f,a6⟩:∃ f,F[i]?=some f:=⟨_,As5 af⟩;have ac:F.getD i (0,0,0)=f:=by simp[As7,a6]
  have hs:=Qc F A i;obtain⟨fb,fo,rfl,ef⟩:=Ad.at' (aj.mono a3) (j:=i) (e:=Ce f) (by simp[a6]);obtain⟨f1,f2,f3⟩:=f;refine G.a fb fo F.length xf i 3 af<|G.lU (some 3) fb (fo+i*3) (.agg #[.int .i64 f1,.int .i64 f2,.int .i64 f3]) ef ?_;by_cases ad:f2=1
  ·have hp:Gb F A i = [Jl i]:=by unfold Gb;rw[ac,if_pos ad]
   rw[hp]at hs;refine G.eT f2 1<|G.B 110 2 24 (.agg #[.int .i64 0,.string (mkS [])]) [.agg #[.int .i64 i,.string (mkS [])]] (I1 (Jl i)) ?_;intro g6 u6 l6 e6;refine G.k 110 2 24 (.agg #[.int .i64 0,.string (mkS [])]) PH.mt ((F8 F A i).map A3) [A3 (Jl i)] _ g6 0 1 1 H e6 (I1 (Jl i)) ?_;intro v7 m7 z;rw[show (F8 F A i).map A3++[A3 (Jl i)]=(F8 F A (i+1)).map A3 by rw[hs];simp]at z;obtain⟨a7,c7,rfl⟩:=z.shape;rw[Ata]at z⊢;exact G.i i<|G.b (hJ (i+1,(a7,c7)) _ _ _ cV (l3.trans l6) ⟨dV,z⟩ dV)
  have hp:Gb F A i=Gg A i A.length:=by unfold Gb Gg;rw[ac,if_neg ad,At9]
  rw[hp]at hs;refine G.eF f2 1 ?_;have a9:Ae PH.mt m3 (.slice Y (F8 F A i++Gg A i 0).length V) 110 2 ((F8 F A i++Gg A i 0).map A3):=by
   rw[show Gg A i 0 = [] from rfl,Auu];exact H
  have e0:(F8 F A i).length=(F8 F A i++Gg A i 0).length:=by rw[show Gg A i 0 = [] from rfl,Auu]
  rw[e0];refine G.l (ι:=Nat×(Option Addr×Nat)) (fun n=>[(2,.p 0 0),(3,.p 1 0),(7,sV n.2.1 (F8 F A i++Gg A i n.1).length n.2.2),(8,iV i),(26,sV (some ⟨fb,fo,none⟩) F.length xf),(27,iV F.length),(28,iV i),(42,sV a1 A.length c1),(43,iV A.length),(44,iV n.1)])
   (fun _=>[(0,⟨30,[sV xa T.length xc,sV xb R.length xd,sV (some ⟨fb,fo,none⟩) F.length xf,iV lab]⟩),(1,⟨38,[tV (Ap C.c),sV a1 A.length c1,sV a2 Q.length c2]⟩)])
   (fun n Z m'=>n.1<=A.length/\Ae PH.mt m' (.slice n.2.1 (F8 F A i++Gg A i n.1).length n.2.2) 110 2 ((F8 F A i++Gg A i n.1).map A3)) (fun n=>A.length-n.1) (0,(Y,V)) ⟨oV,a9⟩ ?_
  clear H a9 e0;rintro J2 ⟨n,⟨Y,V⟩⟩ E u4 m4 l4 ⟨hn,H⟩;simp only at hn H E;have b0:=Ail A i n;by_cases N:n<A.length
  ·refine G.lT n A.length ?_;obtain⟨x,a5⟩:∃ x,A[n]?=some x:=⟨_,As5 N⟩;have O:=Adx (i:=i) a5;obtain⟨ba,oa,rfl,ea⟩:=Ad.at' (hA.mono (a3.trans l4)) (j:=n) (e:=Bj x) (by simp[a5]);obtain⟨⟨d,t⟩,q⟩:=x;simp only at O;refine G.a ba oa A.length c1 n 3 N<|G.lU (some 3) ba (oa+n*3) (.agg #[.int .i64 d,.string (mkS t),.string (mkS (Ap q))]) ea ?_;by_cases W:d=(i:Int)
   ·rw[if_pos W]at O;refine G.eT' d i W<|G.B 110 2 24 (.agg #[.int .i64 0,.string (mkS [])]) [.agg #[.int .i64 d,.string (mkS t)]] (I1 (d,t)) ?_;intro g6 u6 l6 e6;refine G.k 110 2 24 (.agg #[.int .i64 0,.string (mkS [])]) PH.mt ((F8 F A i++Gg A i n).map A3) [A3 (d,t)] _ g6 0 1 1 H e6 (I1 (d,t)) ?_;intro v7 m7 z;rw[show (F8 F A i++Gg A i n).map A3++[A3 (d,t)]=(F8 F A i++Gg A i (n+1)).map A3 by rw[O];simp]at z;obtain⟨a7,c7,rfl⟩:=z.shape;rw[Ata]at z⊢;exact G.i n<|G.b (E (n+1,(a7,c7)) _ _ _ cV (l4.trans l6) ⟨dV,z⟩ dV)
   rw[if_neg W]at O;refine G.eF' d i W<|G.i n ?_;rw[<-O]at H⊢;exact G.b (E (n+1,(Y,V)) _ _ _ cV l4 ⟨dV,H⟩ dV)
  obtain rfl:n=A.length:=oV;refine G.lF A.length A.length<|G.i i ?_;rw[<-hs]at H⊢;exact G.b (hJ (i+1,(Y,V)) _ _ _ cV (l3.trans l4) ⟨dV,H⟩ dV)
 obtain rfl:i=F.length:=oV;refine G.lF F.length F.length ?_;clear hJ;have X:∀ p,p∈F8 F A F.length↔_:=fun p=>Zq (F:=F) cA ae (p:=p);have P:Hk Bd (F8 F A F.length):=Qh cA.srt _;generalize av:F8 F A F.length=L at H X P ap;have ao:∀ x∈A,(x.1.1 = -1/\0<=lab/\x.1.2 = [])\/(0<=x.1.1/\x.1∈L):=fun x hx=>by
  obtain⟨q1,q2⟩:=cA.val x hx;have ag:C.s x.1≠0:=by rw[<-q1];exact q2
  rcases hb x.1 ag with h|⟨k,f,h1,I,h3⟩
  ·exact .inl h
  refine .inr ⟨oV,(X x.1).2 ?_⟩;rcases ae f (Ato I) with h4|h4
  ·refine .inl ⟨k,f,?_,I,h4⟩;obtain⟨⟨d,t⟩,q⟩:=x;simp only at h1 h3;rw[h1,h3.resolve_left oV];rfl
  exact .inr ⟨ag,k,f,h1,I,h4⟩
 refine G.l (ι:=Nat) (fun i=>[(2,.p 0 0),(7,sV Y L.length V),(61,sV a1 A.length c1),(62,iV A.length),(63,iV i)])
  (fun _=>[(0,⟨30,[sV xa T.length xc,sV xb R.length xd,sV xe F.length xf,iV lab]⟩)])
  (fun i Z m'=>i<=A.length/\m'=m3) (fun i=>A.length-i) 0 ⟨oV,rfl⟩ ?_
 rintro J i hJ u4 m4 l4 ⟨az,rfl⟩;have au:=a3.trans l4;by_cases a0:i<A.length
 ·refine G.lT i A.length ?_;obtain⟨x,a4⟩:∃ x,A[i]?=some x:=⟨_,As5 a0⟩;have hx:=ao x (Ato a4);obtain⟨ba,oa,rfl,ea⟩:=Ad.at' (hA.mono au) (j:=i) (e:=Bj x) (by simp[a4]);obtain⟨⟨d,t⟩,q⟩:=x;simp only at hx;refine G.a ba oa A.length c1 i 3 a0<|G.lU (some 3) ba (oa+i*3) (.agg #[.int .i64 d,.string (mkS t),.string (mkS (Ap q))]) ea ?_;rcases hx with ⟨h1,U,h3⟩|⟨h1,U⟩
  ·exact G.eT' d (-1) h1<|G.hT' lab 0 U<|G.q t [] h3<|G.i i<|G.b (hJ (i+1) _ _ _ cV l4 ⟨oV,rfl⟩ oV)
  refine G.eF d (-1)<|G.l (ι:=Nat×Bool) (fun n=>[(2,.p 0 0),(7,sV Y L.length V),(13,.p 21002 0),(14,bV n.2),(61,sV (some ⟨ba,oa,none⟩) A.length c1),(62,iV A.length),(63,iV i),(82,sV Y L.length V),(83,iV L.length),(84,iV n.1)])
   (fun _=>[(0,⟨30,[sV xa T.length xc,sV xb R.length xd,sV xe F.length xf,iV lab]⟩),(21002,⟨116,[iV d,tV t,tV (Ap q)]⟩)])
   (fun n Z m'=>n.1<=L.length/\m'=m4/\n.2=(L.take n.1).any fun y=>decide (y=(d,t))) (fun n=>L.length-n.1) (0,false) ⟨oV,rfl,rfl⟩ ?_
  rintro J2 ⟨n,ah⟩ E u5 m5 l5 ⟨hn,rfl,I⟩;simp only at hn I E;by_cases N:n<L.length
  ·refine G.lT n L.length ?_;obtain⟨y,a8⟩:∃ y,L[n]?=some y:=⟨_,As5 N⟩;have m:((L.take (n+1)).any fun y=>decide (y=(d,t)))=(((L.take n).any fun y=>decide (y=(d,t)))||decide (y=(d,t))):=by
    rw[At0,a8,List.any_append];simp
   obtain⟨gs,cs,ab⟩:=H.ptr (fun e=>by
    have:L.length=0:=by simpa using congrArg List.length e
    omega)
   simp only[Value.slice.injEq]at ab;obtain⟨rfl,_,rfl⟩:=ab;have an:ElP m5 gs (0+n*2) (A3 y):=H.el (by rw[Aty,a8];rfl);refine G.a gs 0 L.length V n 2 N<|G.lM (some 2) gs (0+n*2) (.agg #[.int .i64 y.1,.string (mkS y.2)]) an ?_;cases ah with
   |true =>
    refine G.i n ?_;rw[<-I,Bool.true_or]at m;exact G.b (E (n+1,true) _ _ _ cV l5 ⟨dV,rfl,m.symm⟩ dV)
   |false =>
    rw[<-I,Azw]at m;by_cases W:y=(d,t)
    ·rw[decide_eq_true W]at m;exact G.eqAgg 110 #[.int .i64 y.1,.string (mkS y.2)] #[.int .i64 d,.string (mkS t)] true kV kV kV (fun w=>by rw[<-decide_eq_true W];exact Dq.eq y (d,t) w)<|G.i n<|G.b (E (n+1,true) _ _ _ cV l5 ⟨dV,rfl,m.symm⟩ dV)
    rw[decide_eq_false W]at m;exact G.eqAgg 110 #[.int .i64 y.1,.string (mkS y.2)] #[.int .i64 d,.string (mkS t)] false kV kV kV (fun w=>by rw[<-decide_eq_false W];exact Dq.eq y (d,t) w)<|G.i n<|G.b (E (n+1,false) _ _ _ cV l5 ⟨dV,rfl,m.symm⟩ dV)
  obtain rfl:n=L.length:=oV;refine G.lF L.length L.length ?_;have aa:((L.take L.length).any fun y=>decide (y=(d,t)))=true:=by
   rw[At9];exact Ax1.2 ⟨_,U,mV⟩
  rw[aa]at I;subst I;exact G.i i<|G.b (hJ (i+1) _ _ _ cV (l4.trans l5) ⟨oV,rfl⟩ oV)
 obtain rfl:i=A.length:=oV;refine G.lF A.length A.length ?_;by_cases ai:24<L.length
 ·exact G.gT L.length 24<|G.drop PH.mt kV (PH.mt_le _)<|G.r (.tuple #[.slice none 0 0,.int .i64 3]) ⟨rfl,.inl ⟨rfl,L,ai,P,X⟩⟩
 refine G.gF L.length 24<|G.give _ _ _ kV H (fun g=>.inl rfl) ?_;intro u8 l8 ak;exact G.r (.tuple #[.slice Y L.length V,.int .i64 0]) ⟨rfl,.inr ⟨_,L,rfl,ak,oV,P,X⟩⟩
end
section
variable [Ca] [Df]
end
structure Anz (u:PH)(v cv:Value)(T:List (List UInt8×Nat))(R:List Ch)(F:List Aq)(lab:Int)(C:CF)(K k:Nat)(P:List Par):Prop where
 sch:In u v T R F lab
 ok:By u T R F lab
 cof:Lp u cv C K
 sC:CFS C
 vC:CFV C
 K:K<=10000
 bel:∀ p,C.s p≠0->Aa3 F lab p
 mom:M6 C k
 prm:Uy F C P
 p24:P.length<=24
 lab0:0<=lab
 d:CFD 16 (10^75) C
def CFD.to {d e N M:Nat}{F:CF}(h:CFD d N F)(g:d<=e)(j:N*12^(e-d)<=M):CFD e M F:=⟨h.c.to g j,fun p=>(h.s p).to g j,fun q=>(h.t q).to g j⟩
theorem Ass {q n d j:Rat}(e:q=n*j)(hi:d*j=1):q*d=n:=by rw[e];grind
section
variable {F:List Aq}{lab:Int}{p:Par}
def Agi {p:Par}:∀ (L:List LF) (C:CF),(G4 C L).s p≠0->C.s p≠0\/∃ q,some (some (p,q))∈L
 |[],C,h=>.inl h
 |x::L,C,h=>by
  rcases Agi L (C.mul x.cf) h with m|⟨q,n⟩
  ·rcases Fg (a:=x.cf.s p*C.c) (b:=C.s p*x.cf.c) m with g|g
   ·right;have d:=(Cc g).1
    match x,d with
    |none,d=>exact absurd rfl d
    |some none,d=>exact absurd rfl d
    |some (some (p',q)),d =>
     have j:(if p=p' then q else 0)≠0:=d;by_cases e:p=p'
     ·subst e;exact⟨q,Aw3 ..⟩
     rw[if_neg e]at j;exact absurd rfl j
   exact .inl (Cc g).1
  exact .inr ⟨q,Auv _ n⟩
def Ac2 {m:List (List UInt8)}(h:(cfT F lab m).s p≠0):Aa3 F lab p/\∃ (a:Nat) (q:Rat),(E4 F lab m)[a]?=some (some (some (p,q)))/\∀ (i:Nat) (f:Aq),p.1=(i:Int)->F[i]?=some f->f.2.1=2->q=1:=by
 rcases Agi _ _ h with h|⟨q,O⟩
 ·exact absurd rfl h
 obtain⟨a,v,z⟩:=Avy O;have E:a<m.length:=by rw[Gl]at v;exact v
 have e:=Ib (F:=F) (lab:=lab) (w:=m[a]) (As5 E);have d:Ge F lab a m[a]=some (some (p,q)):=by
  rw[As5 v,z]at e;exact (Auq e).symm
 have u:(E4 F lab m)[a]?=some (some (some (p,q))):=by rw[e,d]
 generalize m[a]=w at d;by_cases I:(a:Int)=lab
 ·have J:Ge F lab a w=Rp w:=by unfold Ge;rw[if_pos I]
  rw[J]at d;unfold Rp at d;split at d
  ·cases d
  simp only[Atd,Aun]at d;obtain⟨rfl,_⟩:=d;exact⟨.inl ⟨rfl,oV,rfl⟩,a,q,u,fun i f n=>by simp only at n;omega⟩
 rcases Gj (F:=F) (w:=w) I with n|⟨i,f,C,N,n⟩
 ·rw[n]at d;cases d
 rw[n]at d;unfold Jr at d;by_cases t:f.2.1=2
 ·rw[if_pos t]at d;simp only[Atd,Aun]at d;obtain⟨rfl,rfl⟩:=d;exact⟨.inr ⟨i,f,rfl,C,.inl t⟩,a,_,u,fun _ _ _ _ _=>rfl⟩
 rw[if_neg t]at d;split at d
 ·split at d<;>cases d
 simp only[Atd,Aun]at d;obtain⟨rfl,_⟩:=d;refine⟨.inr ⟨i,f,rfl,C,.inr rfl⟩,a,q,u,fun j g K H L=>?_⟩;simp only at K;obtain rfl:i=j:=oV;rw[C]at H;cases H;exact absurd L t
theorem Af5 :∀ {L:List G7},(Fs F lab L).s p≠0->∃ y∈L,(cfT F lab y.1).s p≠0:=by
 intro L;induction L using L6 with
 |h0=>exact fun h=>absurd rfl h
 |h1 L y ih =>
  intro h;rw[Hw]at h;rcases Fg (a:=(Fs F lab L).s p) (b:=(cfT F lab y.1).s p*(y.2.1:Rat)) h with h1|h1
  ·obtain⟨z,hz,h2⟩:=ih h1;exact⟨z,Avn _ hz,h2⟩
  ·exact⟨y,mV,(Cc h1).1⟩
end
def Asd:Aiq (CF.num 0):=⟨rfl,fun _=>rfl,fun _=>rfl⟩

theorem Aj5 {T:List (List UInt8×Nat)}{F:List Aq}{lab:Int}(hF:Ef T F lab)(h1:-1<=lab)(h2:∀ l:Nat,lab=(l:Int)->l<T.length)(z:Option Par->Rat)(P:List Par):∀ {L:List G7},(∀ y∈L,Dv T y.1)->0<=Is z P (Fs F lab L):=by
 intro L;induction L using L6 with
 |h0=>exact fun _=>by show 0<=Is z P (CF.num 0);rw[Asd.norm z P];exact Ay4
 |h1 L y ih =>
  intro h;have i1:=ih fun z hz=>h z (Avn _ hz);have hy:=h y mV;have hlen:=hy.len;rw[Hw,Aig];rcases Xn hF hy h1 (fun l hl=>by have:=h2 l hl;omega) with ⟨_,o⟩|⟨_,o⟩
  ·rw[o.norm];generalize Ahp z P (cfT F lab y.1).s=v;have hw:(0:Rat)<=(y.2.1:Rat):=by grind
   have hv:0<=v*v:=by
    rcases Rat.le_total (a:=0) (b:=v) with h|h
    ·exact A0i h h
    ·have:=A0i (a:=-v) (b:=-v) (by grind) (by grind);grind
   have:=A0i hv hw;grind
  ·rw[o.norm];grind
section
variable {F:List Aq}{n:Nat}
section
variable {P:Program} [A7 P] {fn:Func} {Post:Bz} {st:List KI×S} {u m:PH}
def G.storeE {t:TypeId}(sz i:Nat)(m0:PH)(es:List Value)(g n c j:Nat)(e H x:Value)(h:Al P (adv P st)=.store (some 1) (.pointer (some ⟨g,0+j*sz+i,none⟩)) x)(ha:Ae m0 m (.slice (some ⟨g,0,none⟩) n c) t sz es)(hj:es[j]?=some e)(hi:i<sz)(N:H.cells.toList=e.cells.toList.set i x)(Q:x.cells = #[x])(K:Bh x=true)
 (k:∀ V,Ae m0 V (.slice (some ⟨g,0,none⟩) n c) t sz (es.set j H)->G P fn Post (nx (adv P st) undef) u V):G P fn Post st u m:=by
 obtain⟨d,hh⟩:=ha;obtain⟨v,rfl⟩:=Atc.1 hj;rcases hh with ⟨hn,_,_⟩|⟨g',cap,rest,h0,rfl,U,hc,hl,T⟩
 ·cases hn
 simp only[Value.slice.injEq,Atd,Addr.mk.injEq]at U;obtain⟨⟨rfl,_⟩,rfl,rfl⟩:=U;have J:=(d _ (Ath v)).1;have L:=(d _ (Ath v)).2;have I:=A4 d;have a0:j*sz+sz<=es.length*sz:=by
  have:=Ats sz v;rw[Nat.succ_mul]at this;exact this
 have C:H.cells.size=sz:=by
  rw[<-Awc,N,Avx,Awc];exact J
 have E:Ax sz (es.set j H):=d.set ⟨C,fun y z=>by
  rw[N]at z;rcases Axy z with z|rfl
  ·exact L y z
  exact K⟩
 refine G.storeM 1 g (0+j*sz+i) t (Av es++rest) x h (Ab _ _ _) (fun y z=>?_) (by rw[Atg,I];omega) (by rw[Q];rfl) (by rw[Q];simp[K]) ?_
 ·rcases Ati.1 z with z|z
  ·exact E7 d y z
  exact T y z
 rw[Dz];have X:(Av es++rest).take (0+j*sz+i)++x.cells.toList++(Av es++rest).drop (0+j*sz+i+1)=Av (es.set j H)++rest:=by
  have Y:Av (es.set j H)=(Av es).set (j*sz+i) x:=by
   have q1:=On (e:=H) d C v;have W:=On (e:=es[j]) d J v;rw[List.set_getElem_self]at W;rw[q1,N]
   conv=>rhs;rw[W]
   have O:((Av es).take (j*sz)).length=j*sz:=by rw[Atm,I];omega
   have R:es[j].cells.toList.length=sz:=by simpa using J
   rw[Au1,Au1,Awm _ _ oV,O,Nat.add_sub_cancel_left,Ayu _ _ oV]
  have Z:(Av es++rest).set (j*sz+i) x=(Av es).set (j*sz+i) x++rest:=Ayu _ _ oV;rw[Y,<-Z,List.set_eq_take_append_cons_drop,if_pos (by rw[Atg];omega),Q,Aud];simp
 rw[X];refine k _ ⟨E,.inr ⟨g,c,rest,h0,rfl,by rw[Avx],by rw[Avx];exact hc,?_,T⟩⟩;rw[Atg,A4 E,Avx,<-I,<-Atg];exact hl
end
def Asm {u:PH}{v:Value}{a:Nat}(h:Ad u v 3 (F.map Ce))(W:F.length<=1000000):Fn0 prog 24 [v,.int .i64 a] u fun r _=>r=.bool (F.any fun f=>f.1==a):=by
 obtain⟨V,L,rfl⟩:=h.opn;rw[Ata]at h⊢;refine Fn0.o func24<|G.l (ι:=Nat) (fun i=>[(1,iV a),(7,sV V F.length L),(8,iV F.length),(9,iV i)]) (fun _=>[])
  (fun i Y R=>i<=F.length/\(∀ j f,j<i->F[j]?=some f->f.1≠a)/\R=PH.mt) (fun i=>F.length-i) 0 ⟨oV,fun j f z=>oV,rfl⟩ ?_
 rintro J i O Z X l2 ⟨hi,h0,rfl⟩;by_cases t:i<F.length
 ·refine G.lT i F.length ?_;obtain⟨f,d⟩:∃ f,F[i]?=some f:=⟨_,As5 t⟩;obtain⟨H,I,rfl,N⟩:=Ad.at' (h.mono l2) (j:=i) (e:=Ce f) (by simp[d]);obtain⟨C,T,U⟩:=f;refine G.a H I F.length L i 3 t<|G.lU (some 3) H (I+i*3) (.agg #[.int .i64 C,.int .i64 T,.int .i64 U]) N ?_;by_cases K:C=a
  ·refine G.eT C a ?_;exact G.r (.bool true) ⟨rfl,by
    rw[Ax1.2 ⟨_,Ato d,by simpa using K⟩]⟩
  refine G.eF C a<|G.i i ?_;exact G.b (O (i+1) _ _ _ cV l2 ⟨oV,fun j g z E=>by
   rcases (by omega:j<i\/j=i) with e|rfl
   ·exact h0 j g e E
   rw[d]at E;cases E;exact K,rfl⟩ oV)
 obtain rfl:i=F.length:=oV;refine G.lF F.length F.length ?_;exact G.r (.bool false) ⟨rfl,by
  rw[Azp.2 fun f Q=>by
   obtain⟨j,z,rfl⟩:=Avy Q;simpa using h0 j _ z (As5 z)]⟩
def nmB (j:Nat):List UInt8:=[98]++[Vq j]
def Amv {j:Nat}(h:j<26):Hl (nmB j)=true:=by
 have d:∀ n:Fin 26,Hl (nmB n.val)=true:=jV
 exact d ⟨j,h⟩
def Aog {l:List Nat}(g:∀ a∈l,a<n)(j:∀ (k:Nat) x y,l[k]?=some x->l[k+1]?=some y->x<y):l.length<=n:=by
 have h:∀ k (d:k<l.length),k<=l[k]:=by
  intro k;induction k with
  |zero=>intro _;omega
  |succ k ih =>
   intro d;have:=ih oV;have:=j k _ _ (As5 oV) (As5 d);omega
 rcases At5 l.length with e|e
 ·omega
 have t:=h (l.length-1) oV;have v:=g _ (Ath (show l.length-1<l.length by omega));omega
def Ame {u H:PH}{t:List Ch}{r:Ch}{C:Option Addr}{c':Nat}(h:Nj u n (t++[r]))(K:PH.le u H)(L:n<=900)(J:Ad H (.slice C (r.2.1++[n]).length c') 1 (Ah (r.2.1++[n]))):Nj H (n+1) (t++[(r.1,r.2.1++[n],(C,c'))]):=by
 have z:r∈t++[r]:=mV;have h0:∀ x∈t,x∈t++[r]:=fun x d=>Avn _ d;have split:∀ x,x∈t++[(r.1,r.2.1++[n],(C,c'))]->x∈t\/x=(r.1,r.2.1++[n],(C,c')):=fun x d=>by
  rcases Ati.1 d with d|d
  ·exact .inl d
  exact .inr (by simpa using d)
 refine⟨?_,?_,?_,?_,?_,?_,?_⟩
 ·have:=h.names;rw[Atk]at this⊢;exact this
 ·intro x d;rcases split x d with d|rfl
  ·exact h.ne x (h0 x d)
  simp
 ·intro x d a g;rcases split x d with d|rfl
  ·have:=h.lt x (h0 x d) a g;omega
  rcases Ati.1 g with g|g
  ·have:=h.lt r z a g;omega
  simp at g;omega
 ·intro x d;rcases split x d with d|rfl
  ·exact h.len x (h0 x d)
  have:=Aog (h.lt r z) (h.asc r z);simp only[Atg,Aux];omega
 ·intro x d k a b g j;rcases split x d with d|rfl
  ·exact h.asc x (h0 x d) k a b g j
  simp only at g j;rcases At8 (k+1) r.2.1.length with I|I
  ·rw[Atl oV]at g j;exact h.asc r z k a b g j
  rw[At1 I]at j;have E:k+1-r.2.1.length=0:=by
   obtain⟨q,_⟩:=Atc.1 j;simp at q;omega
  rw[E]at j;simp at j;subst j;rw[Atl oV]at g;exact h.lt r z a (Ato g)
 ·intro a g;by_cases e:a=n
  ·subst e;exact⟨_,by simp;right;rfl,mV⟩
  obtain⟨x,d,v⟩:=h.all a oV;rcases Ati.1 d with d|d
  ·exact⟨x,Avn _ d,v⟩
  simp at d;subst d;exact⟨_,by simp;right;rfl,Avn _ v⟩
 intro x d;rcases split x d with d|rfl
 ·exact (h.at' x (h0 x d)).mono K
 exact J
def Ai8 {u C:PH}{T:List (List UInt8×Nat)}{R v:List Ch}{lab:Int}(ok:By u T R F lab)(hT:T.length<=11)(K:∀ a∈T,a.1≠nmB T.length)(H:Nj C (T.length+1) v)(t:v.length=R.length):By C (T++[(nmB T.length,2)]) v F lab:=by
 have L:=Amv (j:=T.length) oV;refine⟨⟨⟨?_,?_⟩,?_⟩,?_,⟨?_,ok.feat.nodup⟩,?_,?_,?_,?_,ok.f2,ok.l1,?_⟩
 ·intro s g;rw[Atk]at g;rcases Ati.1 g with g|g
  ·exact ok.att.names.word s g
  simp at g;subst g;exact L
 ·rw[Atk,Awq];refine⟨ok.att.names.nodup,mV,fun a d b z e=>?_⟩;simp at z;obtain⟨x,N,rfl⟩:=Ate.1 d;exact K x N (e.trans z)
 ·intro a d;rcases Ati.1 d with d|d
  ·exact ok.att.kind a d
  simp at d;subst d;exact⟨mV,mV⟩
 ·rw[Atg];exact H
 ·intro f I;obtain⟨n,k,h,E⟩:=ok.feat.ok f I;exact⟨n,k,by rw[Atl (Atc.1 h).1];exact h,E⟩
 ·rw[Atg];simp
 ·rw[Atg];simp;omega
 ·rw[t];exact ok.r1
 ·rw[t];exact ok.r2
 intro l J;obtain⟨n,h⟩:=ok.l2 l J;exact⟨n,by rw[Atl (Atc.1 h).1];exact h⟩
end
def S7 (T:List (List UInt8×Nat)):Ax 2 (T.map Ej):=by
 intro e g;obtain⟨x,_,rfl⟩:=Ate.1 g;exact⟨rfl,fun y d=>by simp[Ej,Value.cells]at d;rcases d with rfl|rfl<;>rfl⟩
def Ajk (R:List Ch):Ax 2 (R.map Gs):=by
 intro e d;obtain⟨x,_,rfl⟩:=Ate.1 d;exact O2 x _ mV
def Aps {u:PH}{v:Value}{T:List (List UInt8×Nat)}{R:List Ch}{F:List Aq}{lab:Int}(hX:In u v T R F lab)(ok:By u T R F lab)(hT:T.length<=11)(hn:∀ a∈T,a.1≠nmB T.length) :
 Fn0 prog 25 [v,.int .i64 2] u fun r u'=>∃ R',In u' r (T++[(nmB T.length,2)]) R' F lab/\By u' (T++[(nmB T.length,2)]) R' F lab:=by
 obtain⟨xa,xc,xb,xd,xe,xf,rfl,a2,a0,Y⟩:=hX;have r1:=ok.r1;have r2:=ok.r2;obtain⟨d,r,rfl⟩:∃ d r,R=d++[r]:=⟨R.dropLast,R.getLast (fun e=>by rw[e]at r1;simp at r1),(List.dropLast_concat_getLast _).symm⟩;have a7:=ok.rel.at' r mV;have ad:=ok.rel.len r mV;refine Fn0.o func25<|G.appendL 77 2 24 (.agg #[.string (mkS []),.int .i64 0]) PH.mt [] (T.map Ej) (.slice none 0 0) xa T.length xc kV rfl rfl oV (Ae.nil _ _ _) a2 (S7 T) gV gV ?_;intro v1 m1 E;rw[Ava]at E;obtain⟨a1,c1,rfl⟩:=E.shape;rw[Ata]at E⊢;refine G.c call75 (O8 (p:=[98]) (i:=T.length) oV mV) ?_;rintro v2 u2 l2 rfl;refine G.B 77 2 24 (.agg #[.string (mkS []),.int .i64 0]) [.agg #[.string (mkS ([98]++[Vq T.length])),.int .i64 2]] (S7 [(nmB T.length,2)]) ?_;intro g3 u3 l3 e3;refine G.k 77 2 24 (.agg #[.string (mkS []),.int .i64 0]) PH.mt (T.map Ej) [Ej (nmB T.length,2)] (.slice a1 T.length c1) g3 0 1 1 E e3 (S7 [(nmB T.length,2)]) ?_;intro v4 m4 H;rw[show T.map Ej++[Ej (nmB T.length,2)]=(T++[(nmB T.length,2)]).map Ej by rw[Atk];rfl]at H;obtain⟨a4,c4,rfl⟩:=H.shape;rw[Ata]at H⊢;refine G.appendL 155 2 40 (.agg #[.string (mkS []),.slice none 0 0]) m4 [] ((d++[r]).map Gs) (.slice none 0 0) xb (d++[r]).length xd kV rfl rfl oV (Ae.nil _ _ _) (a0.mono (l2.trans l3)) (Ajk _) (by rw[Ata];simp at r2⊢;omega) (by rw[Ata];simp at r2⊢;omega) ?_;intro v5 m5 m;rw[Ava]at m;obtain⟨C,O,rfl⟩:=m.ptr mV;rw[Ata]at m⊢;have ac:(d++[r]).length=d.length+1:=mV
 refine G.s ((d++[r]).length:Int) 1 (d.length:Int)<|G.a C 0 (d++[r]).length O d.length 2 oV ?_;have a3:ElP m5 C (0+d.length*2) (Gs r):=m.el mV;refine G.f 155 C (0+d.length*2) 1 1<|G.lM none C (0+d.length*2+1) (.slice r.2.2.1 r.2.1.length r.2.2.2) (a3.fld (j:=1) (xs:=#[.string (mkS r.1),.slice r.2.2.1 r.2.1.length r.2.2.2]) rfl rfl) ?_;have n:(Ah r.2.1).length=r.2.1.length:=by simp[Ah]
 refine G.appendL 3 1 8 (.int .i64 0) m5 [] (Ah r.2.1) (.slice none 0 0) r.2.2.1 r.2.1.length r.2.2.2 kV rfl rfl oV (Ae.nil _ _ _) (a7.mono (l2.trans l3)) (Az _) (by simp[n];omega) (by simp[n];omega) ?_;intro v6 m6 I;rw[Ava]at I;obtain⟨a6,c6,rfl⟩:=I.shape;rw[n]at I⊢;refine G.buildU 3 1 8 (.int .i64 0) (Ah [T.length]) kV (Az [T.length]) rfl oV (by simp[Ah]) (by simp[Ah]) ?_;intro g7 u7 l7 e7;refine G.append 3 1 8 (.int .i64 0) m5 (Ah r.2.1) (Ah [T.length]) (.slice a6 r.2.1.length c6) g7 0 1 1 kV rfl rfl oV I e7 (Az [T.length]) rfl oV (by simp[n];omega) (by simp[n];omega) ?_;intro v8 m8 J;rw[show Ah r.2.1++Ah [T.length]=Ah (r.2.1++[T.length]) by simp[Ah]]at J;obtain⟨L,N,rfl⟩:=J.shape;have P:(Ah (r.2.1++[T.length])).length=(r.2.1++[T.length]).length:=by simp[Ah]
 rw[P]at J⊢;obtain⟨mx,V,a9,U⟩:=At.swap (x:=⟨.slice (some ⟨C,0,none⟩) (d++[r]).length O,155,2,(d++[r]).map Gs⟩) (y:=⟨.slice L (r.2.1++[T.length]).length N,3,1,Ah (r.2.1++[T.length])⟩) J m;refine G.f 155 C (0+d.length*2) 1 1<|G.storeE (t:=155) 2 1 mx ((d++[r]).map Gs) C (d++[r]).length O d.length (Gs r) (Gs (r.1,r.2.1++[T.length],(L,N))) (.slice L (r.2.1++[T.length]).length N) kV a9 mV oV rfl rfl rfl ?_;intro X K;have e9:((d++[r]).map Gs).set d.length (Gs (r.1,r.2.1++[T.length],(L,N)))=(d++[(r.1,r.2.1++[T.length],(L,N))]).map Gs:=by
  rw[Atk,Atk,Awm _ _ mV,Ata,Avc];rfl
 rw[e9]at K;have Q:PH.le mx X:=fun g o hg=>K.see hg;obtain⟨my,ae,af⟩:=U ⟨.slice (some ⟨C,0,none⟩) (d++[r]).length O,155,2,(d++[(r.1,r.2.1++[T.length],(L,N))]).map Gs⟩ X K;have a5:PH.le m4 X:=fun g o hg=>Q g o (V.see hg);refine G.giveP (ma:=X) (sm:=PH.mt) kV (Akr X).symm (fun g=>.inr rfl) (fun g=>.inl rfl) ?_;intro ab aa z;have W:=((l2.trans l3).trans l7).trans aa;have Z:Nj ab (T.length+1) (d++[(r.1,r.2.1++[T.length],(L,N))]):=Ame ok.rel W oV (Ae.list V (Q.trans z));have h:(d++[(r.1,r.2.1++[T.length],(L,N))]).length=(d++[r]).length:=mV
 exact G.r (.agg #[.slice a4 (T++[(nmB T.length,2)]).length c4,.slice (some ⟨C,0,none⟩) (d++[r]).length O,.slice xe F.length xf,.int .i64 lab]) ⟨rfl,_,⟨_,_,_,_,_,_,by rw[h],Ae.list H (a5.trans z),by rw[h];exact Ae.list K z,Y.mono W⟩,Ai8 ok hT hn Z h⟩
section
variable {R:List Ch}{T:List (List UInt8×Nat)}{a:Nat}{lab:Int}{n:List UInt8}{u:PH}
def Ai0 (T:List (List UInt8×Nat)):Prop:=∀ a∈T,(∃ j,a.1=nmA j)\/∃ j,j<T.length/\a.1=nmB j
def Aml (h:Ai0 T)(hT:T.length<26):∀ a∈T,a.1≠nmB T.length:=by
 intro a v e;rcases h a v with ⟨j,d⟩|⟨j,d,g⟩
 ·rw[d]at e;unfold nmA nmB at e;simp at e
 rw[g]at e;unfold nmB at e;simp only[Ayt,Ava,Ave,and_true,true_and]at e;have m:=Ts (i:=j) oV;have t:=Ts (i:=T.length) hT;rw[e,t]at m;omega
def Ai0.snoc (h:Ai0 T)(k:Nat):Ai0 (T++[(nmB T.length,k)]):=by
 intro a d;rcases Ati.1 d with d|d
 ·rcases h a d with g|⟨j,m,e⟩
  ·exact .inl g
  exact .inr ⟨j,gV,e⟩
 simp at d;subst d;exact .inr ⟨T.length,mV,rfl⟩
def TOK.nmOK (h:TOK T):Ai0 T:=by
 intro a d;have:a.1∈T.map (·.1):=Ate.2 ⟨a,d,rfl⟩;rw[h.nm]at this;obtain⟨j,_,e⟩:=Ate.1 this;exact .inl ⟨j,e.symm⟩
def Afl {F:List Aq}(ok:By u T R F lab)(h:T[a]?=some (n,2))(hF:∀ f∈F,f.1≠a):By u T R F (a:Int):=by
 refine⟨ok.att,ok.rel,⟨fun f d=>?_,ok.feat.nodup⟩,ok.t1,ok.t2,ok.r1,ok.r2,ok.f2,oV,fun l j=>?_⟩
 ·obtain⟨n,k,e,g,_⟩:=ok.feat.ok f d;have:=hF f d;exact⟨n,k,e,g,oV⟩
 have:l=a:=oV;subst this;exact⟨n,h⟩
def Akj (ok:By u T R [] lab){a e:Nat}(g:T[a]?=some (n,2))(h:(a:Int)≠lab)(j:e<=1):By u T R [(a,1,e)] lab:=by
 refine⟨ok.att,ok.rel,⟨fun f d=>?_,mV⟩,ok.t1,ok.t2,ok.r1,ok.r2,mV,ok.l1,ok.l2⟩;simp at d;subst d;exact⟨n,2,g,.inl ⟨rfl,rfl,j⟩,h⟩
def Ys {s:Src}{ts:List Int}{k:Nat}(most:Nat)(aa:1<=most)(ae:most<=6)(h:Lc u s ts)(hk:k<=s.n) :
 Aj prog 6 [s.ptr,.int .i64 most] u (s.M k) fun v H P=>∃ (T:List (List UInt8×Nat)) (R:List Ch) (F:List Aq) (lab:Int) (k':Nat),In H v T R F lab/\By H T R F lab/\T.length<=8/\0<=lab/\F≠[]/\k'<=s.n/\P=s.M k'/\F.length<=most:=by
 refine Aj.o func6<|G.A call23 (Acg most aa ae h hk) ?_;rintro v1 u1 m1 l1 ⟨T,R,F,lab,k1,hX,ok,aj,a7,rfl,I,_,ab⟩ _;rw[C3];have m:=I.nmOK;obtain⟨Q,L,V,W,X,Y,rfl,O,a0,E⟩:=id hX;have al:=ok.l1;have ak:=ok.f2;refine G.joinF (ι:=Int) (fun st=>Ac6 prog st [.bool false]) (fun z=>[(0,.v s.ptr),(4,.p 0 0),(5,.p 1003 0)])
  (fun z=>[(0,⟨30,[sV none 0 0,sV none 0 0,sV none 0 0,iV 0]⟩),(1003,⟨30,[sV Q T.length L,sV V R.length W,sV X F.length Y,iV z]⟩)])
  (fun z H P=>P=s.M k1/\By H T R F z) (fun _=>kV) kV ?tail ?way
 case way =>
  intro d;by_cases hl:lab<0
  ·refine G.lT' lab 0 hl<|G.l (ι:=Nat×Int) (fun i=>[(0,.v s.ptr),(4,.p 0 0),(5,.p 1003 0),(15,sV Q T.length L),(16,iV T.length),(17,iV i.1)])
    (fun i=>[(0,⟨30,[sV none 0 0,sV none 0 0,sV none 0 0,iV 0]⟩),(1003,⟨30,[sV Q T.length L,sV V R.length W,sV X F.length Y,iV i.2]⟩)])
    (fun i H P=>i.1<=T.length/\P=s.M k1/\By H T R F i.2) (fun i=>T.length-i.1) (0,lab) ⟨oV,rfl,ok⟩ ?_
   rintro J ⟨i,z⟩ hJ u2 m2 l2 ⟨hi,rfl,g⟩;simp only at hi g hJ;by_cases a9:i<T.length
   ·refine G.lT i T.length ?_;obtain⟨x,a5⟩:∃ x,T[i]?=some x:=⟨_,As5 a9⟩;obtain⟨ba,oa,rfl,ea⟩:=Ad.at' (O.mono l2) (j:=i) (e:=Ej x) (by simp[a5]);obtain⟨xn,xk⟩:=x;refine G.a ba oa T.length L i 2 a9<|G.lU (some 2) ba (oa+i*2) (.agg #[.string (mkS xn),.int .i64 xk]) ea ?_;by_cases h2:xk=2
    ·subst h2;refine G.eT (2:Nat) 2<|G.c call24 (Asm (a:=i) (E.mono l2) oV) ?_;rintro v3 u3 K rfl;cases hu:F.any fun f=>f.1==i with
     |true =>
      exact G.i i<|G.b (hJ (i+1,z) _ _ _ cV (l2.trans K) ⟨dV,rfl,g.mono K⟩ dV)
     |false =>
      refine G.i i ?_;exact G.b (hJ (i+1,(i:Int)) _ _ _ cV (l2.trans K) ⟨dV,rfl,Afl (g.mono K) a5 fun f hf e=>by
       have:=Azp.1 hu f hf;simp[e]at this⟩ dV)
    exact G.eF xk 2<|G.i i<|G.b (hJ (i+1,z) _ _ _ cV l2 ⟨dV,rfl,g⟩ dV)
   obtain rfl:i=T.length:=oV;refine G.lF T.length T.length ?_;exact d z _ _ _ kV cV l2 ⟨rfl,g⟩
  refine G.lF lab 0 ?_;exact d lab _ _ _ kV cV (PH.le_refl _) ⟨rfl,ok⟩
 rintro z u2 m2 l2 ⟨rfl,g⟩;have a6:In u2 (.agg #[.slice Q T.length L,.slice V R.length W,.slice X F.length Y,.int .i64 z]) T R F z:=⟨_,_,_,_,_,_,rfl,O.mono l2,a0.mono l2,E.mono l2⟩;have ah:=E.mono l2;clear hX O a0 ok I E;refine G.joinF (ι:=(List (List UInt8×Nat)×(Option Addr×Nat))×(List Ch×(Option Addr×Nat))×(Option Addr×Nat)×Int) (fun st=>Ac6 prog st [.bool false]) (fun _=>[(0,.v s.ptr),(4,.p 0 0),(5,.p 1003 0)])
  (fun i=>[(0,⟨30,[sV none 0 0,sV none 0 0,sV none 0 0,iV 0]⟩),(1003,⟨30,[sV i.1.2.1 i.1.1.length i.1.2.2,sV i.2.1.2.1 i.2.1.1.length i.2.1.2.2,sV i.2.2.1.1 F.length i.2.2.1.2,iV i.2.2.2]⟩)])
  (fun i H P=>P=s.M k1/\By H i.1.1 i.2.1.1 F i.2.2.2/\In H (.agg #[.slice i.1.2.1 i.1.1.length i.1.2.2,.slice i.2.1.2.1 i.2.1.1.length i.2.1.2.2,.slice i.2.2.1.1 F.length i.2.2.1.2,.int .i64 i.2.2.2]) i.1.1 i.2.1.1 F i.2.2.2/\Ai0 i.1.1/\i.1.1.length<=7/\0<=i.2.2.2) (fun _=>kV) kV ?tail2 ?way2
 case way2 =>
  intro d;by_cases hl:z<0
  ·refine G.lT' z 0 hl<|G.c call25 (Aps a6 g oV (Aml m oV)) ?_;rintro v3 u3 K ⟨U,C,t⟩;obtain⟨ya,yc,yb,yd,ye,yf,rfl,a3,a1,Z⟩:=id C;have a8:(T++[(nmB T.length,2)]).length=T.length+1:=mV;refine G.s ((T++[(nmB T.length,2)]).length:Int) 1 (T.length:Int) ?_;have ok4:By u3 (T++[(nmB T.length,2)]) U F (T.length:Int):=Afl t (n:=nmB T.length) mV fun f hf e=>by
    obtain⟨n,kd,h1,_⟩:=g.feat.ok f hf;have:=(Atc.1 h1).1;omega
   exact d ((T++[(nmB T.length,2)],(ya,yc)),(U,(yb,yd)),(ye,yf),(T.length:Int)) _ _ _ kV cV K ⟨rfl,ok4,⟨_,_,_,_,_,_,rfl,a3,a1,Z⟩,m.snoc 2,dV,dV⟩
  refine G.lF z 0 ?_;exact d ((T,(Q,L)),(R,(V,W)),(X,Y),z) _ _ _ kV cV (PH.le_refl _) ⟨rfl,g,a6,m,dV,dV⟩
 rintro⟨⟨T,⟨Q,L⟩⟩,⟨R,⟨V,W⟩⟩,⟨X,Y⟩,z⟩ u3 m3 K ⟨rfl,t,C,m,hT7,hz⟩;simp only at t C m hT7 hz;by_cases N:F = []
 ·subst N;refine G.eT' ((([]:List Aq).length:Nat):Int) 0 rfl<|G.c call25 (Aps C t oV (Aml m oV)) ?_;rintro v4 u4 l4 ⟨U,ac,ok4⟩;obtain⟨ya,yc,yb,yd,ye,yf,rfl,a4,a2,ai⟩:=id ac;have a8:(T++[(nmB T.length,2)]).length=T.length+1:=mV;refine G.s ((T++[(nmB T.length,2)]).length:Int) 1 (T.length:Int)<|G.A call26 (Jw (n:=2) (h.mono (((l1.trans l2).trans K).trans l4)) a7 oV oV) ?_;rintro v5 u5 m5 l5 ⟨r,k5,rfl,hr,ad,rfl⟩ _;rw[C3];refine G.B 82 3 24 (.agg #[.int .i64 0,.int .i64 0,.int .i64 0]) [.agg #[.int .i64 T.length,.int .i64 1,.int .i64 r]] (Ii (T.length,1,r)) ?_;intro g6 u6 l6 e6;have af:((T.length:Nat):Int)≠z:=by
   intro e;obtain⟨n,hn⟩:=t.l2 T.length e.symm;have:=(Atc.1 hn).1;omega
  have ag:By u6 (T++[(nmB T.length,2)]) U [(T.length,1,r)] z:=Akj (n:=nmB T.length) (ok4.mono (l5.trans l6)) mV af oV;exact G.r (.agg #[.slice ya (T++[(nmB T.length,2)]).length yc,.slice yb U.length yd,.slice (some ⟨g6,0,none⟩) 1 1,.int .i64 z]) ⟨_,U,[(T.length,1,r)],z,k5,⟨_,_,_,_,_,_,rfl,a4.mono (l5.trans l6),a2.mono (l5.trans l6),e6.listP⟩,ag,oV,hz,mV,ad,rfl,aa⟩
 refine G.eqlF (F.length:Int) 0 kV (by
  have:F.length≠0:=fun e=>N (A1b.1 e);omega) ?_
 exact G.r (.agg #[.slice Q T.length L,.slice V R.length W,.slice X F.length Y,.int .i64 z]) ⟨T,R,F,z,k1,C,t,oV,hz,N,a7,rfl,ab⟩
end
section
variable {F:List Aq}{L:List G7}{R:List Ch}{T:List (List UInt8×Nat)}{lab:Int}{u:PH}
def Apx {n:Nat}(h:n<=8):1374926400^n*7*100<10^100:=by
 have d:1374926400^n<=1374926400^8:=Atq oV h;have e:1374926400^8<10^80:=jV
 have g:(10:Nat)^80*100000<10^100:=jV
 omega
def Vc (ok:By u T R F lab)(hT:T.length<=8)(d:∀ y∈L,Dv T y.1/\y.2.1<=7)(e:L.length<=100):CFS (Fs F lab L)/\CFV (Fs F lab L):=by
 obtain⟨g,h⟩:=Ym ok d;refine⟨g.cfs oV ?_,h⟩;have hp:=Apx hT;have:=Ats (1374926400^T.length*7) e;omega
def X3 {v:Value}{a:Option Addr}{c:Nat}(X:In u v T R F lab)(ok:By u T R F lab)(H:T.length<=8)(hL:Ad u (.slice a L.length c) 2 (L.map Li))(hW:WOK u T L)(hl:L.length<=6) :
 Fn0 prog 8 [v,.slice a L.length c] u fun r N=>Ar1 N r (Fs F lab L) 1530:=by
 have Y:=fun (N:PH) (l:PH.le u N)=>Qy (X.mono l) (ok.mono l);obtain⟨xa,xc,xb,xd,xe,xf,rfl,ah,ag,af⟩:=id X;have ai:=Apx H;have I:∀ n,∀ y∈L.take n,Dv T y.1/\y.2.1<=7:=fun n y hy=>by
  obtain⟨_,q1,_,q2⟩:=hW y (Avd hy);exact⟨q1,q2⟩
 have d:∀ n,CFS (Fs F lab (L.take n)):=fun n=>(Vc ok H (I n) (by rw[Atm];omega)).1;refine Fn0.o func8<|G.c call29 (Y u (PH.le_refl _)) ?_;rintro v1 u1 l1 rfl;refine G.nF 0 0<|G.gF L.length 2000<|G.callO _ _ kV call30 (H2 (n:=0) oV oV) ?_;intro v2 u2 m2 l2 k2 _;rw[C3];have n0:(⟨((0:Int):Rat),fun _=>0,fun _=>0⟩:CF)=CF.num 0:=by rw[show ((0:Int):Rat)=0 by decide +kernel];rfl
 rw[n0]at k2;obtain⟨b,a2,n,c2,b',a',n',c',g1,g2,rfl⟩:=Lo k2;refine G.l (ι:=Nat×(Bool×SlI)×(Bool×SlI)×Nat×Nat) (fun i=>[(2,.p 0 0),(4,.p 1 0),(7,.p 6001 0),(22,sV a L.length c),(23,iV L.length),(24,iV i.1)])
  (fun i=>[(0,⟨30,[sV xa T.length xc,sV xb R.length xd,sV xe F.length xf,iV lab]⟩),(1,⟨38,[tV [],sV none 0 0,sV none 0 0]⟩),(6001,⟨92,[bV i.2.1.1,sV i.2.1.2.1 i.2.1.2.2.1 i.2.1.2.2.2,bV i.2.2.1.1,sV i.2.2.1.2.1 i.2.2.1.2.2.1 i.2.2.1.2.2.2,.v (.map (some i.2.2.2.1)),.v (.map (some i.2.2.2.2))]⟩)])
  (fun i N m'=>i.1<=L.length/\Ip m' N (.agg #[.bool i.2.1.1,.slice i.2.1.2.1 i.2.1.2.2.1 i.2.1.2.2.2,.bool i.2.2.1.1,.slice i.2.2.1.2.1 i.2.2.1.2.2.1 i.2.2.1.2.2.2,.map (some i.2.2.2.1),.map (some i.2.2.2.2)]) (Fs F lab (L.take i.1)) (255*i.1))
  (fun i=>L.length-i.1) (0,(b,a2,n,c2),(b',a',n',c'),g1,g2) ⟨oV,k2⟩ ?_
 rintro J ⟨i,⟨b,a2,n,c2⟩,⟨b',a',n',c'⟩,g1,g2⟩ hJ u3 m3 l3 ⟨hi,O⟩;simp only at hi O hJ;have t:=(l1.trans l2).trans l3;by_cases K:i<L.length
 ·refine G.lT i L.length ?_;obtain⟨y,h⟩:∃ y,L[i]?=some y:=⟨_,As5 K⟩;obtain⟨hS,hT,a0,m⟩:=hW y (Ato h);obtain⟨ba,oa,rfl,ea⟩:=Ad.at' (hL.mono t) (j:=i) (e:=Li y) (by simp[h]);obtain⟨E,w,ya,yc⟩:=y;simp only at hS hT a0 m;have Z:L.take (i+1)=L.take i++[(E,w,ya,yc)]:=by rw[At0,h];rfl
  have hP:Ahw u (.agg #[.slice xa T.length xc,.slice xb R.length xd,.slice xe F.length xf,.int .i64 lab]) (.slice ya E.length yc) T R F lab E:=⟨X,ok,hS,hT⟩;have a4:=hT.len;obtain⟨d1,d2⟩:=Ami ok hT;have sK:CFS ((cfT F lab E).scale (w:Rat)):=(d1.scale (Am9 m)).cfs oV oV;have g:Fs F lab (L.take (i+1))=(Fs F lab (L.take i)).add ((cfT F lab E).scale (w:Rat)):=by rw[Z,Hw]
  refine G.a ba oa L.length c i 2 K<|G.lU (some 2) ba (oa+i*2) (.agg #[.slice ya E.length yc,.int .i64 w]) ea<|G.c call31 (Ag8 (hP.mono t)) ?_;rintro v4 u4 l4 rfl;refine G.nF 0 0<|G.lF w (-1000000000000)<|G.gF w 1000000000000<|G.c call33 (Aja (hP.mono (t.trans l4)) oV) ?_;rintro v5 u5 l5 ⟨k5,sF⟩;obtain⟨b5,a5,n5,c5,aa,a8,aj,ab,ad,ae,rfl⟩:=O0 k5;refine G.c call14 (Uo (z:=(w:Int)) oV oV) ?_;intro v6 u6 l6 k6;rw[Au6]at k6;obtain⟨b6,a6,n6,c6,a9,ak,ac,rfl,_⟩:=k6.opn;have a1:SB (w:Rat):=(Am9 m).small oV oV;refine G.callA _ _ kV kV call32 (C3 m3).symm (Il m3)
   (Aj4 (((O.grow l4).grow l5).grow l6) (k5.mono l6) k6 a1 (d i) sF sK (by rw[<-g];exact d (i+1))) ?_
  intro v7 u7 m7 l7 C _;rw[<-g]at C;rw[C3];obtain⟨b7,a7,n7,c7,Q,P,a3,U,V,W,rfl⟩:=Lo C;exact G.i i<|G.b (hJ (i+1,(b7,a7,n7,c7),(Q,P,a3,U),V,W) _ _ _ cV ((((l3.trans l4).trans l5).trans l6).trans l7) ⟨dV,C.congr rfl dV⟩ dV)
 obtain rfl:i=L.length:=oV;refine G.lF L.length L.length ?_;have hc:=d L.length;rw[At9]at O hc;refine G.callK _ _ kV call34 (Ahx O.i hc oV) ?_;rintro v7 u7 l7 ⟨r,rfl,C⟩;obtain⟨e1,f1,h1,e2,f2,h2,rfl⟩:=C.opn;exact G.drop PH.mt kV (PH.mt_le _)<|G.r (.tuple #[.agg #[.string (mkS (Ap (Fs F lab L).c)),.slice e1 f1 h1,.slice e2 f2 h2],.int .i64 0]) ⟨rfl,_,rfl,C.up oV⟩
end
section
variable {L:List G7}
def Afs {F:List Aq}{lab:Int}:∀ p,(Fs F lab L).s p≠0->Aa3 F lab p:=fun p hp=>by
 obtain⟨y,e,d⟩:=Af5 hp;exact (Ac2 d).1
def WOK.tup {u:PH}{T:List (List UInt8×Nat)}(h:WOK u T L):∀ y∈L,Dv T y.1/\y.2.1<=7:=fun y d=>by
 obtain⟨_,e,_,g⟩:=h y d;exact⟨e,g⟩
end
section
variable {F:List Aq}{L:List G7}{T:List (List UInt8×Nat)}{lab:Int}
def C9 (T:List (List UInt8×Nat))(ss:List (List UInt8)):Prop:=∀ (i:Nat) (x:List UInt8×Nat) (t:List UInt8),T[i]?=some x->ss[i]?=some t->x.2=3->t = []\/Abj t=true
def W9.c9 (h:W9 T L):∀ y∈L,C9 T y.1:=fun y j i x t g d m=>by
 rcases h y j i x t g d with h|⟨_,h⟩|⟨e,_⟩|⟨e,_⟩
 ·exact .inl h
 ·exact .inr h
 ·omega
 omega
def Arx {h:List (List UInt8)}{p:Par}{i:Nat}{f:Aq}(hF:Ef T F lab)(P:Dv T h)(u:C9 T h)(z:(cfT F lab h).s p≠0)(hp:p.1=(i:Int))(E:F[i]?=some f)(O:f.2.1=2):p.2 = []\/Abj p.2=true:=by
 obtain⟨_,a,q,C,_⟩:=Ac2 z;have m:a<h.length:=by
  have:=(Atc.1 C).1;rwa[Gl]at this
 have e:=Ib (F:=F) (lab:=lab) (w:=h[a]) (As5 m);rw[C]at e;have d:Ge F lab a h[a]=some (some (p,q)):=(Auq e).symm;obtain⟨x,J,Q⟩:=P.at m;have u:=u a x h[a] J (As5 m);generalize h[a]=w at d Q u;by_cases I:(a:Int)=lab
 ·have K:Ge F lab a w=Rp w:=by unfold Ge;rw[if_pos I]
  rw[K]at d;unfold Rp at d;split at d
  ·cases d
  simp only[Atd,Aun]at d;obtain⟨rfl,_⟩:=d;simp only at hp;omega
 rcases Gj (F:=F) (w:=w) I with t|⟨j,g,H,v,t⟩
 ·rw[t]at d;cases d
 rw[t]at d;have N:p.1=(j:Int):=by
  unfold Jr at d;split at d
  ·cases d;rfl
  split at d
  ·split at d<;>cases d
  cases d;rfl
 obtain rfl:j=i:=oV;rw[H]at E;cases E;unfold Jr at d;rw[if_pos O]at d;simp only[Atd,Aun]at d;obtain⟨rfl,_⟩:=d;obtain⟨n,k,t,R,_⟩:=hF.ok f (Ato H);rw[v,J]at t;cases t;exact u oV
def Aca {α β:Type}{f:α->List β}{n:Nat}:∀ {l:List α},(∀ x∈l,(f x).length<=n)->(l.flatMap f).length<=l.length*n
 |[],_=>mV
 |x::l,h=>by
  rw[Azl,Atg,Auh,At2,Avm];have e:=h x mV;have g:=Aca (l:=l) fun y d=>h y (by simp[d]);omega
def Aph {P:List Par}(hF:Ef T F lab)(hT:∀ y∈L,Dv T y.1)(C:∀ y∈L,C9 T y.1)(u:Uy F (Fs F lab L) P):P.length<=F.length*4:=by
 have d:P ⊆ (List.range F.length).flatMap fun (i:Nat)=>[((i:Int),([]:List UInt8)),((i:Int),Aea),((i:Int),N4),((i:Int),Sy)]:=fun p hp=>by
  rcases (u.2 p).1 hp with ⟨i,f,rfl,j,_⟩|⟨m,i,f,e,j,z⟩
  ·exact Ax3.2 ⟨i,by simpa using (Atc.1 j).1,by unfold Jl;simp⟩
  refine Ax3.2 ⟨i,by simpa using (Atc.1 j).1,?_⟩;obtain⟨y,v,t⟩:=Af5 m;obtain⟨E,H⟩:=p;simp only at e;subst e;rcases Arx hF (hT y v) (C y v) t rfl j z with g|g
  ·simp only at g;subst g;simp
  rcases Apa g with h|h|h<;>· simp only at h;subst h;simp
 have e:=List.Nodup.length_le_of_subset (u.1.nodup Fr) d;refine As9 e ?_;have:=Aca (l:=List.range F.length) (n:=4) (f:=fun (i:Nat)=>[((i:Int),([]:List UInt8)),((i:Int),Aea),((i:Int),N4),((i:Int),Sy)]) fun x _=>mV;rw[List.length_range]at this;exact this
end
section
variable {F:List Aq}{R:List Ch}{T:List (List UInt8×Nat)}{lab:Int}{u:PH}
def Aqw {d:List (List UInt8)}(ok:By u T R F lab)(g:Dv T d)(j:-1<=lab)(m:∀ l:Nat,lab=(l:Int)->l<d.length)(n:Vy F lab d=true)(p:Par):Dn 1 18540 ((cfT F lab d).s p):=by
 by_cases h:(cfT F lab d).s p=0
 ·rw[h];exact Dn.zero _ _
 obtain⟨_,a,q,e,_⟩:=Ac2 h;rw[Aqy ok.feat g j m n e];exact (show SmW q/\PV p from Mj ok g _ (Ato e)).1.dn
def Ap2 {x:Par->Rat}(h:∀ p,Dn 1 18540 (x p)):∀ e,Dn 1 18540 (Ai2 x e)
 |none=>(show SmW 1 from⟨jV,jV⟩).dn
 |some p=>h p
structure Lb (N:Nat)(C:CF):Prop where
 c:∀ e f,Dn 2 N (Gh C e f)
 r:∀ e,Dn 2 N (S4 C e)
 l:Dn 2 N (C.t (A5 Cd Cd))
theorem Ah6 (ok:By u T R F lab)(h1:-1<=lab)(h2:∀ l:Nat,lab=(l:Int)->l<T.length):∀ {L:List G7},(∀ y∈L,Dv T y.1/\y.2.1<=7)->Lb (L.length*2406121200) (Fs F lab L):=by
 intro L;induction L using L6 with
 |h0=>exact fun _=>⟨fun e f=>by rw[show Fs F lab []=CF.num 0 from rfl,Asd.cell];exact Dn.zero _ _,fun e=>by cases e<;>exact Dn.zero _ _,Dn.zero _ _⟩
 |h1 L y ih =>
  intro h;have i1:=ih fun z hz=>h z (Avn _ hz);obtain⟨hy,hw⟩:=h y mV;have hlen:=hy.len;have hl:∀ l:Nat,lab=(l:Int)->l<y.1.length:=fun l e=>by have:=h2 l e;omega
  have one:Lb 343731600 (cfT F lab y.1):=by
   rcases Xn ok.feat hy h1 hl with ⟨hc,o⟩|⟨_,o⟩
   ·have hd:=Aqw ok hy h1 hl hc;have he:=Ap2 hd;exact⟨fun e f=>by rw[o.cell];exact (he e).mul (he f),fun e=>by rw[o.right];exact (hd Cd).mul (he e),by rw[o.t];exact (hd Cd).mul (hd Cd)⟩
   ·have hn:cfT F lab y.1=cfT F lab y.1:=rfl;refine⟨fun e f=>by rw[o.cell];exact Dn.zero _ _,fun e=>?_,?_⟩
    ·cases e
     ·show Dn 2 343731600 ((cfT F lab y.1).s Cd);rw[o.s];exact Dn.zero _ _
     ·show Dn 2 343731600 ((cfT F lab y.1).t _);rw[o.t];exact Dn.zero _ _
    ·rw[o.t];exact Dn.zero _ _
  have add:∀ {q r:Rat},Dn 2 (L.length*2406121200) q->Dn 2 343731600 r->Dn 2 ((L++[y]).length*2406121200) (q+r*(y.2.1:Rat)):=fun hq hr=>by
   refine (hq.add (hr.mul (Am9 hw))).mono ?_;rw[Atg,At2];simp
  rw[Hw];exact⟨fun e f=>by rw[Xe];exact add (i1.c e f) (one.c e f),fun e=>by rw[Aei];exact add (i1.r e) (one.r e),add i1.l one.l⟩
end


section
variable {A:List (List Rat)}{u:PH}{v:Value}
def Vo (A:List (List Rat)):Nat->Nat->Rat->Rat
 |0,_,s=>s
 |f+1,i,s=>Vo A f (i+1) (s+gR (gM A i) i)
def trL (A:List (List Rat)):Rat:=Vo A A.length 0 0
def Ag1 (h:Bw u v (Bq A))(C:Sq A):Fn0 prog 45 [v] u fun v' _=>v'=.tuple #[.int .i64 A.length,.int .i64 A.length,.int .i64 0]:=by
 obtain⟨a,c,rfl⟩:=h.opn;rw[Ba]at h⊢;have a0:=C.le;refine Fn0.o func45 ?_;by_cases h0:0<A.length
 ·refine G.gT A.length 0 ?_;obtain⟨g,m,Q,L,rfl,n,t⟩:=h.row (Es (As5 h0));rw[Ata,C.len h0]at n t;refine G.a g m A.length c 0 1 h0<|G.lU none g (m+0*1) _ n ?_;clear n t;obtain⟨a,X⟩:∃ a:Option Addr,a=some ⟨g,m,none⟩:=⟨_,rfl⟩;rw[<-X]at h⊢;clear X;refine G.gF A.length 12<|G.l (ι:=Nat) (fun i=>[(0,sV a A.length c),(5,iV A.length),(21,iV A.length),(22,iV i)]) (fun _=>[])
   (fun i P z=>i<=A.length/\z=PH.mt) (fun i=>A.length-i) 0 ⟨oV,rfl⟩ ?_
  rintro Y i E u1 m1 J ⟨hi,rfl⟩;by_cases d:i<A.length
  ·refine G.lT i A.length ?_;obtain⟨g,m,Q,L,rfl,n,t⟩:=(h.mono J).row (Es (As5 d));rw[Ata,C.len d]at n t;exact G.a g m A.length c i 1 d<|G.lU none g (m+i*1) _ n<|G.gF A.length 12<|G.i i<|G.b (E (i+1) _ _ _ cV J ⟨oV,rfl⟩ oV)
  obtain rfl:i=A.length:=oV;clear d;refine G.lF A.length A.length ?_;clear E;refine G.l (ι:=Nat) (fun i=>[(0,sV a A.length c),(5,iV A.length),(33,iV A.length),(34,iV i)]) (fun _=>[])
   (fun i P z=>i<=A.length/\z=PH.mt) (fun i=>A.length-i) 0 ⟨oV,rfl⟩ ?_
  rintro Z i F u2 m2 l2 ⟨hi,rfl⟩;by_cases d:i<A.length
  ·refine G.lT i A.length ?_;obtain⟨g,m,Q,L,rfl,n,t⟩:=(h.mono (J.trans l2)).row (Es (As5 d));rw[Ata,C.len d]at n t;exact G.a g m A.length c i 1 d<|G.lU none g (m+i*1) _ n<|G.nF A.length A.length<|G.i i<|G.b (F (i+1) _ _ _ cV l2 ⟨oV,rfl⟩ oV)
  obtain rfl:i=A.length:=oV;clear d;refine G.lF A.length A.length ?_;clear F;refine G.l (ι:=Nat) (fun i=>[(0,sV a A.length c),(5,iV A.length),(46,iV A.length),(47,iV i)]) (fun _=>[])
   (fun i P z=>i<=A.length/\z=PH.mt) (fun i=>A.length-i) 0 ⟨oV,rfl⟩ ?_
  rintro J3 i N u3 m3 T ⟨hi,rfl⟩;by_cases d:i<A.length
  ·refine G.lT i A.length ?_;obtain⟨g,m,Q,L,rfl,n,t⟩:=(h.mono ((J.trans l2).trans T)).row (Es (As5 d));rw[Ata,C.len d]at n t;refine G.a g m A.length c i 1 d<|G.lU none g (m+i*1) _ n<|G.l (ι:=Nat) (fun k=>[(0,sV (some ⟨g,m,none⟩) A.length c),(5,iV A.length),(46,iV A.length),(47,iV i),(8,iV i),(54,iV A.length),(55,iV k)]) (fun _=>[])
    (fun k P z=>k<=A.length/\z=PH.mt) (fun k=>A.length-k) 0 ⟨oV,rfl⟩ ?_
   rintro J4 k O u4 m4 K ⟨hk,rfl⟩;by_cases I:k<A.length
   ·refine G.lT k A.length ?_;have H:k<A[i].length:=by rw[C.len d];exact I
    obtain⟨R,U,rfl,V⟩:=Ad.at' (Ad.mono t K) (j:=k) (e:=.string (mkS (Ap A[i][k]))) (by simp[Bo,As5 H]);refine G.a g m A.length c i 1 d<|G.lU none g (m+i*1) _ (n.mono K)<|G.a R U A.length L k 1 I<|G.lU none R (U+k*1) _ V<|G.c call59 (H0 (C.tx' d H)) ?_;rintro v5 u5 W rfl;exact G.i k<|G.b (O (k+1) _ _ _ cV (K.trans W) ⟨oV,rfl⟩ oV)
   exact G.lF k A.length<|G.i i<|G.b (N (i+1) _ _ _ cV (T.trans K) ⟨oV,rfl⟩ oV)
  exact G.lF i A.length<|G.r (.tuple #[.int .i64 A.length,.int .i64 A.length,.int .i64 0]) ⟨rfl,rfl⟩
 refine G.gF A.length 0 ?_;have hz:(A.length:Int)=0:=oV;refine G.gF A.length 12<|G.l (ι:=Nat) (fun i=>[(0,sV a A.length c),(5,iV 0),(21,iV A.length),(22,iV i)]) (fun _=>[])
  (fun i P z=>i<=A.length/\z=PH.mt) (fun i=>A.length-i) 0 ⟨oV,rfl⟩ ?_
 rintro Y i E u1 m1 J ⟨hi,rfl⟩;by_cases d:i<A.length
 ·refine G.lT i A.length ?_;obtain⟨g,m,Q,L,rfl,n,t⟩:=(h.mono J).row (Es (As5 d));rw[Ata,C.len d]at n t;exact G.a g m A.length c i 1 d<|G.lU none g (m+i*1) _ n<|G.gF A.length 12<|G.i i<|G.b (E (i+1) _ _ _ cV J ⟨oV,rfl⟩ oV)
 obtain rfl:i=A.length:=oV;clear d;refine G.lF A.length A.length ?_;clear E;refine G.l (ι:=Nat) (fun i=>[(0,sV a A.length c),(5,iV 0),(33,iV A.length),(34,iV i)]) (fun _=>[])
  (fun i P z=>i<=A.length/\z=PH.mt) (fun i=>A.length-i) 0 ⟨oV,rfl⟩ ?_
 rintro Z i F u2 m2 l2 ⟨hi,rfl⟩;by_cases d:i<A.length
 ·refine G.lT i A.length ?_;obtain⟨g,m,Q,L,rfl,n,t⟩:=(h.mono (J.trans l2)).row (Es (As5 d));rw[Ata,C.len d]at n t;exact G.a g m A.length c i 1 d<|G.lU none g (m+i*1) _ n<|G.nF A.length 0<|G.i i<|G.b (F (i+1) _ _ _ cV l2 ⟨oV,rfl⟩ oV)
 obtain rfl:i=A.length:=oV;clear d;refine G.lF A.length A.length ?_;clear F;refine G.l (ι:=Nat) (fun i=>[(0,sV a A.length c),(5,iV 0),(46,iV A.length),(47,iV i)]) (fun _=>[])
  (fun i P z=>i<=A.length/\z=PH.mt) (fun i=>A.length-i) 0 ⟨oV,rfl⟩ ?_
 rintro J3 i N u3 m3 T ⟨hi,rfl⟩;by_cases d:i<A.length
 ·refine G.lT i A.length ?_;obtain⟨g,m,Q,L,rfl,n,t⟩:=(h.mono ((J.trans l2).trans T)).row (Es (As5 d));rw[Ata,C.len d]at n t;refine G.a g m A.length c i 1 d<|G.lU none g (m+i*1) _ n<|G.l (ι:=Nat) (fun k=>[(0,sV (some ⟨g,m,none⟩) A.length c),(5,iV 0),(46,iV A.length),(47,iV i),(8,iV i),(54,iV A.length),(55,iV k)]) (fun _=>[])
   (fun k P z=>k<=A.length/\z=PH.mt) (fun k=>A.length-k) 0 ⟨oV,rfl⟩ ?_
  rintro J4 k O u4 m4 K ⟨hk,rfl⟩;by_cases I:k<A.length
  ·refine G.lT k A.length ?_;have H:k<A[i].length:=by rw[C.len d];exact I
   obtain⟨R,U,rfl,V⟩:=Ad.at' (Ad.mono t K) (j:=k) (e:=.string (mkS (Ap A[i][k]))) (by simp[Bo,As5 H]);refine G.a g m A.length c i 1 d<|G.lU none g (m+i*1) _ (n.mono K)<|G.a R U A.length L k 1 I<|G.lU none R (U+k*1) _ V<|G.c call59 (H0 (C.tx' d H)) ?_;rintro v5 u5 W rfl;exact G.i k<|G.b (O (k+1) _ _ _ cV (K.trans W) ⟨oV,rfl⟩ oV)
  exact G.lF k A.length<|G.i i<|G.b (N (i+1) _ _ _ cV (T.trans K) ⟨oV,rfl⟩ oV)
 exact G.lF i A.length<|G.r (.tuple #[.int .i64 A.length,.int .i64 0,.int .i64 0]) ⟨rfl,by rw[hz]⟩
def Ap4 (Z:D1 u)(h:Bw u v (Bq A))(m:Sq A)(hz:∀ r∈A,∀ q∈r,Sz q 100)(t:Tx (trL A)):Fn0 prog 13 [v] u fun v' _=>v'=.tuple #[.string (mkS (Ap (trL A))),.int .i64 0]:=by
 obtain⟨a,c,rfl⟩:=h.opn;rw[Ba]at h⊢;have Y:=m.le;refine Fn0.o func13<|G.c call55 (Ye h m) ?_;rintro v1 u1 P rfl;refine G.nF 0 0<|G.nF A.length A.length<|G.c call56 (Dk (z:=0) oV oV) ?_;intro v2 u2 l2 C;rw[show ((0:Int):Rat)=0 from by decide]at C;obtain⟨W,rfl⟩:=C.opF;refine G.l (ι:=Nat×F4×Rat) (fun i=>[(0,sV a A.length c),(7,.p 6001 0),(25,iV A.length),(26,iV i.1)]) (fun i=>[(6001,⟨103,fc i.2.1⟩)])
  (fun i u' m'=>i.1<=A.length/\Vo A (A.length-i.1) i.1 i.2.2=trL A/\Sz i.2.2 (1+101*i.1)/\An u' (fv i.2.1) i.2.2/\m'=PH.mt) (fun i=>A.length-i.1) (0,W,0) ⟨Atu _,rfl,Mn.mono oV,C,rfl⟩ ?_
 rintro J ⟨i,f,s⟩ K u3 m3 E ⟨hi,g,j,n,rfl⟩;simp only at hi g j n K;by_cases d:i<A.length
 ·refine G.lT i A.length ?_;have e:i<A[i].length:=by rw[m.len d];exact d
  have L:Sz A[i][i] 100:=hz _ (Ath d) _ (Ath e);obtain⟨H,Q,I,R,T,rfl,U,V⟩:=(h.mono (P.trans (l2.trans E))).cell d e;refine G.a H Q A.length c i 1 d<|G.lU none H (Q+i*1) _ U<|G.a I R A[i].length T i 1 e<|G.lU none I (R+i*1) _ V<|G.c call54 (Eq (m.tx' d e)) ?_;intro v4 u4 F N;obtain⟨f4,rfl⟩:=N.opF;refine G.c call57 (D4 (n.mono F) N (j.mono oV) (L.mono oV)) ?_;intro v5 u5 l5 O;obtain⟨X,rfl⟩:=O.opF;refine G.i i<|G.b (K (i+1,X,s+A[i][i]) _ _ _ cV ((E.trans F).trans l5) ⟨dV,?_,(Fx j L).mono dV,O,rfl⟩ dV);dsimp only;rw[<-g,show A.length-i=(A.length-(i+1))+1 by omega,Vo,Rd d,Gd e]
 obtain rfl:i=A.length:=oV;refine G.lF A.length A.length ?_;rw[Avc,Vo]at g;subst g;refine G.c call43 (Qu (Z.mono (P.trans (l2.trans E))) n t) ?_;rintro v4 u4 F rfl;exact G.r (.tuple #[.string (mkS (Ap (trL A))),.int .i64 0]) ⟨rfl,rfl⟩
end
def Hh.snoc1 {u:PH}{es:List Value}{g:List (List (List UInt8))}{a:Option Addr}{c:Nat}{r:List (List UInt8)}(h:Hh u es g)(z:Eh u (.slice a r.length c) r):Hh u (es++[.slice a r.length c]) (g++[r]):=by
 refine⟨by simp[h.1],fun j C d=>?_⟩;by_cases e:j<g.length
 ·rw[Atl e]at d;obtain⟨n,c',t,v⟩:=h.2 j C d;exact⟨n,c',by rw[Atl (by rw[h.1];exact e)];exact t,v⟩
 rw[At1 oV]at d;have m:j-g.length=0:=by
  rcases At5 (j-g.length) with h0|h0
  ·exact h0
  rw[Att gV]at d;cases d
 rw[m]at d;simp at d;subst d;exact⟨a,c,by rw[At1 (by rw[h.1];omega),h.1,m];rfl,z⟩


theorem Ach {q:Rat}{z:Int}{D:Nat}(h:q*(D:Rat)=(z:Rat))(h0:0<D):q.den ∣ D/\q.num.natAbs<=z.natAbs:=by
 have hq:q=Rat.divInt z (D:Int):=by
  rw[Awf,Au6,<-h];have:=Nq h0;grind
 obtain⟨e1,e2,e3⟩:=Ks (y:=z) (z:=(D:Int)) oV;rw[hq];constructor
 ·have h2:((Rat.divInt z (D:Int)).den:Int)=((D/Nat.gcd z.natAbs D:Nat):Int):=by
   rw[e2,show ((D:Int)).natAbs=D from rfl,Awj oV,<-Axi]
  rw[Int.ofNat.inj h2];exact Nat.div_dvd_of_dvd (Nat.gcd_dvd_right _ _)
 ·rw[e1,Az7];exact Awa _ _





theorem Akm {q:Rat}{D:Nat}(h:q.den ∣ D):((q.num*((D/q.den:Nat):Int):Int):Rat)=q*(D:Rat):=by
 obtain⟨k,rfl⟩:=h;rw[Nat.mul_div_cancel_left _ q.den_pos,Av9,Awt,Au6];have d:q*(q.den:Rat)=(q.num:Rat):=by
  have d:q=(q.num:Rat)/(((q.den:Int)):Rat):=by rw[<-Awf,Aza]
  have hi:=A0r _ (Nq q.den_pos);rw[Au6,Azs]at d;exact Ass d hi
 rw[<-d];grind

def Aku {A:List (List Rat)}{L K:Nat}(h0:0<L)(u:0<K)(F:L<10^K)(H:nl L<=1000000000)(h:∀ r∈A,∀ q∈r,∃ z:Int,q*(L:Rat)=z/\z.natAbs<10^K):So A L K where
 den:=fun r m q j=>by
  obtain⟨z,e,_⟩:=h r m q j;exact (Ach e h0).1
 pos:=h0
 nl:=H
 dig:=fun D C E=>by
  have d:D<=L:=Axt h0 C;refine⟨Eb u (Aum d F),fun r m q j I=>Eb u ?_⟩;obtain⟨z,e,n⟩:=h r m q j;have g:=(Ach e h0).1;have t:=Akm g;rw[e]at t;have v:q.num*((L/q.den:Nat):Int)=z:=Rat.intCast_inj.1 t;refine Aum ?_ n;rw[<-v,Au7,Au7,Atv,Atv];exact Aul _ (Nat.div_le_div_right d)
end Go.Proofs.YtnafchoihfnkeaaGreatDoor
