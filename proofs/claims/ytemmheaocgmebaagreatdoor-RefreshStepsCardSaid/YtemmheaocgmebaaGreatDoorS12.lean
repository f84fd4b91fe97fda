/- Parts of one proof, joined by a program. -/
import Derived.Test.YtemmheaocgmebaaGreatDoorS11
set_option linter.defProp false
set_option linter.unusedVariables false
set_option linter.unusedSimpArgs false
set_option linter.unusedSectionVars false
set_option maxHeartbeats 16000000
namespace Go.Proofs.YtemmheaocgmebaaGreatDoor
open Go.Proofs.Tryz
open Go.RowKit Go.MapKept
def Ba8:=@Int.one_mul
def A9h:=@List.map_map
section
variable {P:Nat->Nat}{R S:Nat->Nat->Int}{a b c j n r:Nat}{f:Nat->Int}{v:Int}
def Ca:Nat->(Nat->Int)->Int
 |0,_=>0
 |n+1,f=>Ca n f+f n
def Cr {f g:Nat->Int}:∀ {n:Nat},(∀ j,j<n->f j=g j)->Ca n f=Ca n g
 |0,_=>rfl
 |n+1,h=>by rw[Ca,Ca,Cr fun j e=>h j oV,h n oV]
def Aai (h:∀ j,j<n->f j=0):Ca n f=0:=by
 induction n with
 |zero=>rfl
 |succ n ih=>rw[Ca,ih fun j e=>h j oV,h n oV];rfl
theorem Ll {f g:Nat->Int}(a b:Int):∀ {n:Nat},Ca n (fun j=>a*f j+b*g j)=a*Ca n f+b*Ca n g
 |0=>by simp[Ca]
 |n+1=>by rw[Ca,Ca,Ca,Ll a b];grind
theorem X9 (m:j<n)(h:∀ t,t<n->t≠j->f t=0):Ca n f=f j:=by
 induction n with
 |zero=>omega
 |succ n ih =>
  rw[Ca];by_cases e:j=n
  ·subst e;rw[Aai fun t u=>h t oV oV];omega
  grind
theorem Ar3 (u:a+1<n)(h:∀ t,t<n->t≠a->t≠a+1->f t=0):Ca n f=f a+f (a+1):=by
 induction n with
 |zero=>omega
 |succ n ih =>
  rw[Ca];by_cases e:a+1=n
  ·subst e;rw[X9 (j:=a) oV fun t C m=>h t oV m oV]
  grind
def dsg:Nat->Int
 |0=>1
 |n+1=>- dsg n
def Akx:∀ r:Nat,dsg (r+r)=1
 |0=>rfl
 |r+1=>by rw[show r+1+(r+1)=r+r+1+1 by omega,dsg,dsg,Akx r];rfl
def Eu (j:Nat)(C:Nat->Nat->Int):Nat->Nat->Int:=fun t=>if t<j then C t else C (t+1)
def dt:Nat->(Nat->Nat->Int)->Int
 |0,_=>1
 |r+1,C=>Ca (r+1) fun j=>dsg (r+j)*C j r*dt r (Eu j C)
def Ih:∀ {r:Nat} {C D:Nat->Nat->Int},(∀ t,t<r->∀ i,i<r->C t i=D t i)->dt r C=dt r D
 |0,_,_,_=>rfl
 |r+1,C,D,h=>by
  rw[dt,dt];refine Cr fun j e=>?_;rw[h j e r oV,Ih (D:=Eu j D)];intro t m i hi;unfold Eu;split
  ·exact h t oV i oV
  exact h (t+1) oV i oV
def Dc (C:Nat->Nat->Int)(j:Nat)(x:Nat->Int):Nat->Nat->Int:=fun t=>if t=j then x else C t
theorem Od (C:Nat->Nat->Int)(j:Nat)(x:Nat->Int):Eu j (Dc C j x)=Eu j C:=by
 funext t
 unfold Eu Dc;split
 ·grind
 grind
theorem Nz (C:Nat->Nat->Int)(h:j<a)(x:Nat->Int):Eu a (Dc C j x)=Dc (Eu a C) j x:=by
 funext t
 unfold Eu Dc;by_cases e:t=j
 ·grind
 grind
theorem Kz (C:Nat->Nat->Int)(h:a<j)(x:Nat->Int):Eu a (Dc C j x)=Dc (Eu a C) (j-1) x:=by
 funext t
 unfold Eu Dc;by_cases e:t=j-1
 ·grind
 grind
def Ja (C:Nat->Nat->Int)(j:Nat)(x:Nat->Int):Dc C j x j=x:=by simp[Dc]
theorem Id (C:Nat->Nat->Int){j t:Nat}(h:t≠j)(x:Nat->Int):Dc C j x t=C t:=by simp[Dc,h]
theorem O2 (C:Nat->Nat->Int)(j:Nat):Dc C j (C j)=C:=by
 funext t
 unfold Dc;split
 ·grind
 rfl
theorem Mt (a b:Int)(x y:Nat->Int):∀ {r:Nat} (C:Nat->Nat->Int) {j:Nat},j<r->dt r (Dc C j fun i=>a*x i+b*y i)=a*dt r (Dc C j x)+b*dt r (Dc C j y)
 |0,_,_,h=>oV
 |r+1,C,j,h=>by
  rw[dt,dt,dt,<-Ll];refine Cr fun t u=>?_;by_cases e:t=j
  ·subst e;rw[Od,Od,Od,Ja,Ja,Ja];grind
  rw[Id C e,Id C e,Id C e];by_cases m:j<t
  ·rw[Nz C m,Nz C m,Nz C m,Mt a b x y (Eu t C) oV];grind
  have m:t<j:=oV;rw[Kz C m,Kz C m,Kz C m,Mt a b x y (Eu t C) oV];grind
def Akv (C:Nat->Nat->Int)(h:j<r):dt r (Dc C j fun _=>0)=0:=by
 have:=Mt 0 0 (fun _=>0) (fun _=>0) C h;simpa using this
theorem Ach:∀ {r:Nat} {C:Nat->Nat->Int} {a:Nat},a+1<r->C a=C (a+1)->dt r C=0
 |0,_,_,h,_=>oV
 |r+1,C,a,h,e=>by
  rw[dt,Ar3 (a:=a) h]
  ·have:Eu a C=Eu (a+1) C:=by
    funext t
    unfold Eu;by_cases h1:t=a
    ·grind
    ·grind
   rw[this,e,show r+(a+1)=(r+a)+1 by omega,dsg];grind
  ·intro t ht h1 h2;have:dt r (Eu t C)=0:=by
    by_cases hl:t<a
    ·refine Ach (a:=a-1) oV ?_;unfold Eu;rw[if_neg oV,if_neg oV,show a-1+1=a by omega];exact e
    ·refine Ach (a:=a) oV ?_;unfold Eu;rw[if_pos oV,if_pos oV];exact e
   rw[this];simp
def swp (C:Nat->Nat->Int)(a:Nat):Nat->Nat->Int:=Dc (Dc C a (C (a+1))) (a+1) (C a)
theorem Ti (C:Nat->Nat->Int)(h:a≠b)(x y:Nat->Int):Dc (Dc C a x) b y=Dc (Dc C b y) a x:=by
 funext t
 unfold Dc;by_cases e:t=a
 ·grind
 grind
def Ayl (C:Nat->Nat->Int)(h:a+1<r):dt r (swp C a) = - dt r C:=by
 have t:a<r:=oV
 let D:(Nat->Int)->(Nat->Int)->Int:=fun x y=>dt r (Dc (Dc C a x) (a+1) y)
 have l2:∀ x y z,D x (fun i=>1*y i+1*z i)=1*D x y+1*D x z:=fun x y z=>Mt 1 1 y z _ h;have u:∀ x y z,D (fun i=>1*y i+1*z i) x=1*D y x+1*D z x:=fun x y z=>by
  show dt r (Dc (Dc C a _) (a+1) x)=1*dt r (Dc (Dc C a y) (a+1) x)+1*dt r (Dc (Dc C a z) (a+1) x);rw[Ti C (show a≠a+1 by omega) (fun i=>1*y i+1*z i) x,Ti C (show a≠a+1 by omega) y x,Ti C (show a≠a+1 by omega) z x];exact Mt 1 1 y z _ t
 have e:∀ x,D x x=0:=fun x=>Ach h (by rw[Ja,Id _ oV,Ja]);have m:=e (fun i=>1*C a i+1*C (a+1) i);rw[u,l2,l2,e,e]at m;have E:D (C a) (C (a+1))=dt r C:=by
  show dt r (Dc (Dc C a (C a)) (a+1) (C (a+1)))=_;rw[O2,O2]
 have F:D (C (a+1)) (C a)=dt r (swp C a):=rfl;omega
def Ao4 {r:Nat}:∀ {d:Nat} {C:Nat->Nat->Int} {a:Nat},a+d+1<r->C a=C (a+d+1)->dt r C=0
 |0,_,_,h,e=>Ach h e
 |d+1,C,a,h,e=>by
  have:=Ayl C (a:=a+d+1) (r:=r) oV;rw[Ao4 (d:=d) (C:=swp C (a+d+1)) (a:=a) oV]at this
  ·omega
  unfold swp;rw[Id _ oV,Id _ oV,Id _ oV,Ja];exact e
def All {C:Nat->Nat->Int}(m:a<r)(t:b<r)(u:a≠b)(e:C a=C b):dt r C=0:=by
 by_cases h:a<b
 ·exact Ao4 (d:=b-a-1) (a:=a) oV (by rw[show a+(b-a-1)+1=b by omega];exact e)
 exact Ao4 (d:=a-b-1) (a:=b) oV (by rw[show b+(a-b-1)+1=a by omega];exact e.symm)
def Aiz {r:Nat}(C:Nat->Nat->Int){j:Nat}(h:j<r)(a:Nat->Int)(X:Nat->Nat->Int):∀ n:Nat,dt r (Dc C j fun i=>Ca n fun t=>a t*X t i)=Ca n fun t=>a t*dt r (Dc C j (X t))
 |0=>Akv C h
 |n+1=>by
  have:=Mt 1 (a n) (fun i=>Ca n fun t=>a t*X t i) (X n) C h;rw[Aiz C h a X n]at this;simp only[Ca];rw[Ba8]at this;rw[<-this]
  congr 2
  funext i
  rw[Ba8]
def Z3 (C:Nat->Nat->Int)(h:j<r)(a:Nat->Int):dt r (Dc C j fun i=>Ca r fun t=>a t*C t i)=a j*dt r C:=by
 rw[Aiz C h,X9 h,O2];intro t u m;rw[All (a:=j) (b:=t) h u (fun e=>m e.symm) (by rw[Ja,Id _ m]),Int.mul_zero]
theorem Au9 (C:Nat->Nat->Int)(e:Nat->Int)(m:∀ i,i<r->e i=0):dt (r+1) (Dc C r e)=e r*dt r C:=by
 rw[dt,X9 (j:=r) oV]
 ·rw[Akx,Ja,Ba8,Ih (C:=Eu r (Dc C r e)) (D:=C)];intro t h i hi;unfold Eu;rw[if_pos h,Id _ oV]
 intro t h u;rw[Kz C (by omega:t<r),Ih (D:=Dc (Eu t C) (r-1) fun _=>0)]
 ·rw[Akv _ oV];simp
 intro s E i hi;unfold Dc;split
 ·grind
 rfl
structure Bar (n:Nat)(R:Nat->Nat->Int)(P:Nat->Nat)(r:Nat)(v:Int)(S:Nat->Nat->Int):Prop where
 v0:v≠0
 d:dt r (fun j i=>R i (P j))=v
 lo:∀ i,i<r->∀ k,Ca r (fun j=>S j k*R i (P j))=v*R i k
 hi:∀ i,r<=i->i<n->∀ k,S i k=v*R i k-Ca r (fun j=>S j k*R i (P j))
def Bar.init (n:Nat)(R:Nat->Nat->Int)(P:Nat->Nat):Bar n R P 0 1 R:=⟨fV,rfl,fun i h=>oV,fun i _ _ k=>by simp[Ca]⟩
def Aq5 (a:Int)(f:Nat->Int)(n:Nat):Ca n (fun j=>a*f j)=a*Ca n f:=by
 have:=Ll (f:=f) (g:=f) a 0 (n:=n);simp only[Int.zero_mul,Int.add_zero]at this;exact this
def K4 {v a b:Int}(e:v≠0)(h:v*a=v*b):a=b:=A85 e h
theorem Bar.num (h:Bar n R P r v S)(t:r<n)(c:Nat)(i k:Nat)(hi:i<=r) :
 Ca r (fun j=>(S j k*S r c-S j c*S r k)*R i (P j))+v*S r k*R i c=v*(S r c*R i k):=by
 have e:Ca r (fun j=>(S j k*S r c-S j c*S r k)*R i (P j))=S r c*Ca r (fun j=>S j k*R i (P j))+(- S r k)*Ca r (fun j=>S j c*R i (P j)):=by
  rw[<-Ll];exact Cr fun j _=>by grind
 rw[e];by_cases m:i<r
 ·rw[h.lo i m,h.lo i m];grind
 obtain rfl:i=r:=oV;have u:=h.hi i (A08 _) t k;have C:=h.hi i (A08 _) t c;grind
def Kc (P:Nat->Nat)(r c:Nat):Nat->Nat:=fun j=>if j=r then c else P j
theorem Bar.det (h:Bar n R P r v S)(H:r<n)(c:Nat) :
 dt (r+1) (fun j i=>R i (Kc P r c j))=S r c:=by
 let C:Nat->Nat->Int:=fun j i=>R i (Kc P r c j)
 have m:C r=fun i=>R i c:=by funext i;simp[C,Kc]
 have e:∀ j,j<r->C j=fun i=>R i (P j):=fun j u=>by funext i;simp[C,Kc,show j≠r by omega]
 have F:dt (r+1) (Dc C r (fun i=>v*C r i+(-1)*Ca r (fun j=>S j c*C j i)))=v*dt (r+1) C:=by
  rw[Mt v (-1) (C r) _ C oV,O2,Aiz C oV];rw[Aai]
  ·grind
  intro t E;rw[All (a:=t) (b:=r) oV oV oV (by rw[Ja,Id _ oV]),Int.mul_zero]
 have es:∀ i,Ca r (fun j=>S j c*C j i)=Ca r (fun j=>S j c*R i (P j)):=fun i=>Cr fun j u=>by rw[e j u]
 rw[Au9 C _ (fun i hi=>by
  rw[es,h.lo i hi,m];grind)]at F
 have I:dt r C=v:=by
  rw[<-h.d];exact Ih fun t E i hi=>by rw[e t E]
 have J:v*C r r+(-1)*Ca r (fun j=>S j c*C j r)=S r c:=by
  rw[es,m];have:=h.hi r (A08 _) H c;grind
 refine K4 h.v0 ?_;grind
theorem Bar.dvd (h:Bar n R P r v S)(u:r<n)(I:S r c≠0)(j k:Nat)(K:j<r) :
 v ∣ S j k*S r c-S j c*S r k:=by
 let C:Nat->Nat->Int:=fun j i=>R i (Kc P r c j)
 have m:∀ i,C r i=R i c:=fun i=>by simp[C,Kc]
 have e:∀ j,j<r->∀ i,C j i=R i (P j):=fun j K i=>by simp[C,Kc,show j≠r by omega]
 have J:dt (r+1) C=S r c:=h.det u c;have F:=Z3 C (show j<r+1 by omega) (fun t=>if t=r then v*S r k else S t k*S r c-S t c*S r k);have H:dt (r+1) (Dc C j fun i=>Ca (r+1) fun t=>(if t=r then v*S r k else S t k*S r c-S t c*S r k)*C t i)=dt (r+1) (Dc C j fun i=>(v*S r c)*R i k+0*R i k):=by
  refine Ih fun t E i hi=>?_;unfold Dc;split
  ·simp only[Ca,if_true,m];have:=h.num u c i k oV;rw[Cr (g:=fun j=>(S j k*S r c-S j c*S r k)*R i (P j)) (fun t E=>by rw[if_neg oV,e t E])];grind
  rfl
 rw[H,Mt _ _ _ _ C oV,J,if_neg oV]at F;refine⟨dt (r+1) (Dc C j fun i=>R i k),K4 I ?_⟩;grind
def Af2 {v:Int}{f:Nat->Int}:∀ {n:Nat},(∀ j,j<n->v ∣ f j)->v ∣ Ca n f
 |0,_=>⟨0,by simp[Ca]⟩
 |n+1,h=>Int.dvd_add (Af2 fun j e=>h j oV) (h n oV)
theorem Bar.dvdAll (h:Bar n R P r v S)(t:r<n)(m:S r c≠0)(i k:Nat)(hi:i<n)(H:i≠r) :
 v ∣ S i k*S r c-S i c*S r k:=by
 by_cases C:i<r
 ·exact h.dvd t m i k C
 have E:=h.hi i oV hi k;have F:=h.hi i oV hi c;have e:Ca r (fun j=>(S j k*S r c-S j c*S r k)*R i (P j))=S r c*Ca r (fun j=>S j k*R i (P j))+(- S r k)*Ca r (fun j=>S j c*R i (P j)):=by
  rw[<-Ll];exact Cr fun j _=>by grind
 obtain⟨q,I⟩:v ∣ Ca r (fun j=>(S j k*S r c-S j c*S r k)*R i (P j)):=Af2 fun j u=>Int.dvd_mul_of_dvd_left (h.dvd t m j k u);exact⟨S r c*R i k-S r k*R i c-q,by grind⟩
theorem Bar.step {n:Nat}{R:Nat->Nat->Int}{P:Nat->Nat}{r:Nat}{v:Int}{S:Nat->Nat->Int}(h:Bar n R P r v S)(E:r<n){c:Nat}(J:S r c≠0){S':Nat->Nat->Int}
 (hp:∀ k,S' r k=S r k) (F:∀ i,i<n->i≠r->∀ k,v*S' i k=S i k*S r c-S i c*S r k):Bar n R (Kc P r c) (r+1) (S r c) S':=by
 have H:=h.v0;have I:∀ j,j<r->Kc P r c j=P j:=fun j u=>by simp[Kc,show j≠r by omega]
 have t:Kc P r c r=c:=by simp[Kc]
 have e:∀ i k,v*Ca r (fun j=>S' j k*R i (P j))=Ca r (fun j=>(S j k*S r c-S j c*S r k)*R i (P j)):=fun i k=>by
  rw[<-Aq5];exact Cr fun j u=>by rw[<-F j oV oV];grind
 have C:∀ i k,Ca (r+1) (fun j=>S' j k*R i (Kc P r c j))=Ca r (fun j=>S' j k*R i (P j))+S r k*R i c:=fun i k=>by
  rw[Ca,t,hp,Cr (g:=fun j=>S' j k*R i (P j)) fun j u=>by rw[I j u]]
 refine⟨J,h.det E c,fun i hi k=>?_,fun i L m k=>?_⟩
 ·refine K4 H ?_;rw[C,Ba2,e];have:=h.num E c i k oV;grind
 refine K4 H ?_;rw[C,F i m oV];have Q:=e i k;have K:Ca r (fun j=>(S j k*S r c-S j c*S r k)*R i (P j))=S r c*Ca r (fun j=>S j k*R i (P j))+(- S r k)*Ca r (fun j=>S j c*R i (P j)):=by
  rw[<-Ll];exact Cr fun j _=>by grind
 have T:=h.hi i oV m k;have U:=h.hi i oV m c;grind
def rsw (F:Nat->Nat->Int)(p q:Nat):Nat->Nat->Int:=fun i=>if i=p then F q else if i=q then F p else F i
def Bar.swap (h:Bar n R P r v S){p:Nat}(J:r<=p)(K:p<n):Bar n (rsw R p r) P r v (rsw S p r):=by
 have C:∀ F:Nat->Nat->Int,∀ i,i<r->rsw F p r i=F i:=fun F i hi=>by simp[rsw,show i≠p by omega,show i≠r by omega]
 refine⟨h.v0,?_,fun i hi k=>?_,fun i hi L k=>?_⟩
 ·rw[<-h.d];exact Ih fun t _ i hi=>by rw[C R i hi]
 ·rw[C R i hi,<-h.lo i hi];exact Cr fun j H=>by rw[C S j H]
 have:∀ u,r<=u->u < n->rsw S p r i=S u->rsw R p r i=R u->rsw S p r i k=v*rsw R p r i k-Ca r (fun j=>rsw S p r j k*rsw R p r i (P j)):=fun u a b I m=>by
  rw[I,m,h.hi u a b]
  congr 1
  exact Cr fun j H=>by rw[C S j H]
 by_cases e:i=p
 ·exact this r (A08 _) oV (by simp[rsw,e]) (by simp[rsw,e])
 by_cases m:i=r
 ·exact this p J K (by simp[rsw,m];intro E;rw[E]) (by simp[rsw,m];intro E;rw[E])
 exact this i hi L (by simp[rsw,e,m]) (by simp[rsw,e,m])
end
section
variable {R:Nat->Nat->Int}{X:List (List Int)}{i j n p r w:Nat}{l:List Int}
def gZ (l:List Int)(j:Nat):Int:=l.getD j 0
def gMZ (X:List (List Int))(i:Nat):List Int:=X.getD i []
def enZ (X:List (List Int))(i j:Nat):Int:=gZ (gMZ X i) j
def E8 (n w:Nat)(X:List (List Int)):Prop:=X.length=n/\∀ i,i<n->(gMZ X i).length=w
def Ol (h:j<l.length):gZ l j=l[j]:=by unfold gZ;rw[A02,A01 h];rfl
def Ado (h:l.length<=j):gZ l j=0:=by unfold gZ;rw[A02,A1v h];rfl
def Xj (h:i<X.length):gMZ X i=X[i]:=by unfold gMZ;rw[A02,A01 h];rfl
theorem Kv {i k:Nat}{r:List Int}(h:i<X.length):gMZ (X.set i r) k=if i=k then r else gMZ X k:=by
 unfold gMZ;by_cases e:i=k
 ·grind
 grind
def Abr (f:Nat->Int)(h:j<n):gZ ((List.range n).map f) j=f j:=by
 rw[Ol (by simpa using h)];simp
def Iy (X:List (List Int))(c:Nat):Nat->Nat->Nat
 |0,p=>p
 |f+1,p=>if enZ X p c=0 then Iy X c f (p+1) else p
def Kw (X:List (List Int))(p r:Nat):List (List Int):=(X.set p (gMZ X r)).set r (gMZ X p)
def Qx (v a g:Int)(R row:List Int):List Int:=(List.range row.length).map fun k=>(gZ row k*a-g*gZ R k)/v
def Ov (r c:Nat)(v:Int):Nat->Nat->List (List Int)->List (List Int)
 |0,_,X=>X
 |f+1,i,X=>Ov r c v f (i+1) (if i=r then X else X.set i (Qx v (enZ X r c) (enZ X i c) (gMZ X r) (gMZ X i)))
structure BZ where
 X:List (List Int)
 P:zK
 v:Int
 odd:Bool
def I0 (n c:Nat)(s:BZ):BZ :=
 if Iy s.X c (n-s.P.length) s.P.length=n then s
 else ⟨Ov s.P.length c s.v n 0 (if Iy s.X c (n-s.P.length) s.P.length=s.P.length then s.X else Kw s.X (Iy s.X c (n-s.P.length) s.P.length) s.P.length),s.P++[c],
  enZ s.X (Iy s.X c (n-s.P.length) s.P.length) c,if Iy s.X c (n-s.P.length) s.P.length=s.P.length then s.odd else !s.odd⟩
def Fm (n:Nat):Nat->Nat->BZ->BZ
 |0,_,s=>s
 |f+1,c,s=>Fm n f (c+1) (I0 n c s)
def Ac3 (X:List (List Int))(c:Nat):∀ f p,p<=Iy X c f p/\Iy X c f p<=p+f
 |0,p=>by simp[Iy]
 |f+1,p=>by
  unfold Iy;split
  ·have:=Ac3 X c f (p+1);omega
  omega
def Abg (X:List (List Int))(c:Nat):∀ f p i,p<=i->i<Iy X c f p->enZ X i c=0
 |0,p,i,h1,h2=>by simp[Iy]at h2;omega
 |f+1,p,i,h1,h2=>by
  unfold Iy at h2;split at h2
  ·rename_i h;by_cases e:i=p
   ·subst e;exact h
   exact Abg X c f (p+1) i oV h2
  omega
def Ade (X:List (List Int))(c:Nat):∀ f p,Iy X c f p<p+f->enZ X (Iy X c f p) c≠0
 |0,p,h=>by simp[Iy]at h
 |f+1,p,h=>by
  unfold Iy at h⊢;split at h
  ·rename_i h0;rw[if_pos h0];exact Ade X c f (p+1) oV
  rename_i h0;rw[if_neg h0];exact h0
def Lt {r:List Int}(h:E8 n w X)(hi:i<n)(m:r.length=w):E8 n w (X.set i r):=by
 refine⟨by simp[h.1],fun j e=>?_⟩;rw[Kv (by rw[h.1];exact hi)];split
 ·exact m
 exact h.2 j e
def Uh (h:E8 n w X)(hp:p<n)(e:r<n):E8 n w (Kw X p r) :=
 Lt (Lt h hp (h.2 r e)) e (h.2 p hp)
theorem Wz (h:E8 n w X)(hp:p<n)(m:r<n)(i:Nat):gMZ (Kw X p r) i=if i=r then gMZ X p else if i=p then gMZ X r else gMZ X i:=by
 unfold Kw;rw[Kv (by simp[h.1];exact m),Kv (by rw[h.1];exact hp)];by_cases e:r=i
 ·grind
 grind
def S2 (v a g:Int)(R row:List Int):(Qx v a g R row).length=row.length:=by simp[Qx]
def Acv (v a g:Int)(R row:List Int)(h:R.length=row.length)(j:Nat):gZ (Qx v a g R row) j=(gZ row j*a-g*gZ R j)/v:=by
 by_cases e:j<row.length
 ·unfold Qx;exact Abr _ e
 rw[Ado (by rw[S2];omega),Ado (l:=row) oV,Ado (l:=R) oV];simp
def Wu {n w r c:Nat}{v:Int}(e:r<n):∀ f i X,i+f<=n->E8 n w X->E8 n w (Ov r c v f i X)
 |0,i,X,_,h=>h
 |f+1,i,X,hf,h=>by
  unfold Ov;refine Wu e f (i+1) _ oV ?_;split
  ·exact h
  exact Lt h oV (by rw[S2];exact h.2 i oV)
def Ry {n w r c:Nat}{v:Int}(C:r<n):∀ f i X,i+f<=n->E8 n w X->∀ k,gMZ (Ov r c v f i X) k=if i<=k/\k<i+f/\k≠r then Qx v (enZ X r c) (enZ X k c) (gMZ X r) (gMZ X k) else gMZ X k
 |0,i,X,_,h,k=>by rw[if_neg oV];rfl
 |f+1,i,X,hf,h,k=>by
  unfold Ov;by_cases e:i=r
  ·rw[if_pos e,Ry C f (i+1) X oV h k];by_cases m:i+1<=k/\k<i+1+f/\k≠r
   ·rw[if_pos m,if_pos ⟨oV,oV,m.2.2⟩]
   rw[if_neg m,if_neg oV]
  have E:E8 n w (X.set i (Qx v (enZ X r c) (enZ X i c) (gMZ X r) (gMZ X i))):=Lt h oV (by rw[S2];exact h.2 i oV);have u:i<X.length:=by rw[h.1];omega
  rw[if_neg e,Ry C f (i+1) _ oV E k];unfold enZ;rw[Kv u,Kv u,if_neg e];by_cases m:i=k
  ·subst m;rw[if_neg oV,if_pos rfl,if_pos ⟨oV,oV,e⟩]
  rw[if_neg m];by_cases t:i+1<=k/\k<i+1+f/\k≠r
  ·rw[if_pos t,if_pos ⟨oV,oV,t.2.2⟩]
  rw[if_neg t,if_neg oV]
def Ag4 (n:Nat)(A R:Nat->Nat->Int):Prop:=∀ i,i<n->∃ j,j<n/\A i=R j
def Ag4.swap {A R:Nat->Nat->Int}(h:Ag4 n A R)(hp:p<n)(C:r<n):Ag4 n A (rsw R p r):=fun i hi=>by
 obtain⟨j,u,e⟩:=h i hi;by_cases t:j=p
 ·subst t;refine⟨r,C,?_⟩;unfold rsw;by_cases m:r=j
  ·rw[if_pos m,e,m]
  rw[if_neg m,if_pos rfl,e]
 by_cases m:j=r
 ·subst m;exact⟨p,hp,by unfold rsw;rw[if_pos rfl,e]⟩
 exact⟨j,u,by unfold rsw;rw[if_neg t,if_neg m,e]⟩
structure Ajv (n w:Nat)(A:Nat->Nat->Int)(c:Nat)(s:BZ):Prop where
 rc:E8 n w s.X
 len:s.P.length=c
 bar:∃ R,Ag4 n A R/\Ag4 n R A/\Bar n R (fun j=>j) c s.v (enZ s.X)
def Ajp {P Q:Nat->Nat}{v:Int}{S:Nat->Nat->Int}(h:Bar n R P r v S)(e:∀ j,j<r->P j=Q j):Bar n R Q r v S:=by
 refine⟨h.v0,?_,fun i hi k=>?_,fun i u C k=>?_⟩
 ·rw[<-h.d];exact Ih fun t E i _=>by rw[e t E]
 ·rw[<-h.lo i hi];exact Cr fun j m=>by rw[e j m]
 rw[h.hi i u C];congr 1;exact Cr fun j m=>by rw[e j m]
def Ker (n:Nat)(A:Nat->Nat->Int):Prop:=∃ y:Nat->Int,(∃ j,j<n/\y j≠0)/\∀ i,i<n->Ca n (fun j=>y j*A i j)=0
theorem Ajv.step {n w:Nat}{A:Nat->Nat->Int}{c:Nat}{s:BZ}(h:Ajv n w A c s)(E:c<n):Ajv n w A (c+1) (I0 n c s)\/(Ker n A/\I0 n c s=s):=by
 obtain⟨I,H,R,F,u,C⟩:=h;unfold I0;obtain⟨p1,p2⟩:=Ac3 s.X c (n-s.P.length) s.P.length;have p3:=Abg s.X c (n-s.P.length) s.P.length;have p4:=Ade s.X c (n-s.P.length) s.P.length;generalize Iy s.X c (n-s.P.length) s.P.length=p at *
 rw[H]at p1 p2 p3 p4⊢;by_cases e:p=n
 ·rw[if_pos e];refine .inr ⟨?_,rfl⟩;refine⟨fun j=>if j<c then enZ s.X j c else if j=c then-s.v else 0,⟨c,E,by simp;exact C.v0⟩,fun i hi=>?_⟩;obtain⟨L,Y,V⟩:=F i hi;rw[V];have key:∀ m,m<=n->Ca m (fun j=>(if j<c then enZ s.X j c else if j=c then-s.v else 0)*R L j)=Ca (min m c) (fun j=>enZ s.X j c*R L j)+if c<m then-s.v*R L c else 0:=by
   intro m;induction m with
   |zero=>intro _;simp[Ca]
   |succ m ih =>
    intro hm;rw[Ca,ih oV];by_cases W:m<c
    ·rw[if_pos W,if_neg oV,if_neg oV,show min m c=m by omega,show min (m+1) c=m+1 by omega,Ca];omega
    grind
  rw[key n (A08 _),show min n c=c by omega,if_pos E];by_cases W:L < c
  ·rw[C.lo L W];grind
  have:=C.hi L oV Y c;grind
 rw[if_neg e];have hp:p<n:=oV;refine .inl ?_;have t:E8 n w (if p=c then s.X else Kw s.X p c):=by
  split
  ·grind
  exact Uh I hp E
 have K:∀ i,gMZ (if p=c then s.X else Kw s.X p c) i=if i=c then gMZ s.X p else if i=p then gMZ s.X c else gMZ s.X i:=fun i=>by
  by_cases V:p=c
  ·grind
  rw[if_neg V];exact Wz I hp E i
 have T:enZ (if p=c then s.X else Kw s.X p c)=rsw (enZ s.X) p c:=by
  funext i k
  unfold enZ rsw;by_cases e2:i=p
  ·grind
  grind
 have J:=C.swap p1 hp;rw[<-T]at J;have Z:enZ (if p=c then s.X else Kw s.X p c) c c=enZ s.X p c:=by unfold enZ;rw[K,if_pos rfl]
 generalize (if p=c then s.X else Kw s.X p c)=X1 at *
 have Q:enZ X1 c c≠0:=by grind
 refine⟨Wu E n 0 X1 oV t,by simp[H],_,F.swap hp E,fun i hi=>by
  unfold rsw;split
  ·exact u c E
  split
  ·exact u p hp
  exact u i hi,?_⟩
 rw[<-Z];have hd:=fun i k hi U=>J.dvdAll E Q i k hi U;have hs:=J.step E Q (S':=enZ (Ov c c s.v n 0 X1)) (fun k=>by unfold enZ;rw[Ry E n 0 X1 oV t,if_neg oV]) (fun i hi U k=>by
  show s.v*gZ (gMZ (Ov c c s.v n 0 X1) i) k=_;rw[Ry E n 0 X1 oV t,if_pos ⟨oV,oV,U⟩,Acv _ _ _ _ _ (by rw[t.2 c E,t.2 i hi])];exact Int.mul_ediv_cancel' (hd i k hi U))
 exact Ajp hs fun j hj=>by unfold Kc;dsimp only;split<;>omega
def Avz {n c:Nat}{s:BZ}:(I0 n c s).P.length<=s.P.length+1:=by
 unfold I0;split
 ·omega
 simp
def Ako {n:Nat}:∀ (f c:Nat) (s:BZ),(Fm n f c s).P.length<=s.P.length+f
 |0,c,s=>by simp[Fm]
 |f+1,c,s=>by
  unfold Fm;have:=Ako (n:=n) f (c+1) (I0 n c s);have:=Avz (n:=n) (c:=c) (s:=s);omega
def Aci {n w:Nat}{A:Nat->Nat->Int}:∀ (f c:Nat) (s:BZ),c+f=n->Ajv n w A c s->Ajv n w A n (Fm n f c s)\/(Ker n A/\(Fm n f c s).P.length<n)
 |0,c,s,h,hf=>.inl (by
  have:c=n:=oV;subst this;exact hf)
 |f+1,c,s,h,hf=>by
  unfold Fm;rcases hf.step oV with e|⟨e,m⟩
  ·exact Aci f (c+1) _ oV e
  refine .inr ⟨e,?_⟩;rw[m];have:=Ako (n:=n) f (c+1) s;have:=hf.len;omega
theorem Za (h:E8 n w X):((Fm n n 0 ⟨X,[],1,false⟩).P.length=n/\E8 n w (Fm n n 0 ⟨X,[],1,false⟩).X/\(Fm n n 0 ⟨X,[],1,false⟩).v≠0 /\
 ∀ i,i<n->∀ k,Ca n (fun j=>enZ (Fm n n 0 ⟨X,[],1,false⟩).X j k*enZ X i j)=(Fm n n 0 ⟨X,[],1,false⟩).v*enZ X i k) \/
 (Ker n (enZ X)/\(Fm n n 0 ⟨X,[],1,false⟩).P.length<n):=by
 have h0:Ajv n w (enZ X) 0 ⟨X,[],1,false⟩:=⟨h,rfl,enZ X,fun i hi=>⟨i,hi,rfl⟩,fun i hi=>⟨i,hi,rfl⟩,Bar.init n _ _⟩;rcases Aci n 0 _ oV h0 with ⟨t,C,R,E,_,u⟩|t
 ·refine .inl ⟨C,t,u.v0,fun i hi k=>?_⟩;obtain⟨F,m,e⟩:=E i hi;rw[e];exact u.lo F m k
 grind
def zs (K:Nat):Nat->Nat
 |0=>K
 |r+1=>2*zs K r+2
end
section
variable {a:Act}{d0:Deferred}{dl:List Deferred}{t:Array Value}
section
variable [Fl:Cl] {P:Program} {c:Cx} {s:S} {u m u' m':PH} {ρ:Nat->Nat} {w w':World}
def Rel.grow [Co](j:Rel c s u m ρ a w)(g1:Bv u' m' w')(g2:B0 u m w u' m' w'):Rel c s u' m' ρ a w':=by
 refine⟨j.sz,j.tm,j.df.of fun r e _ K F=>⟨by rw[g2.old _ (Aw e) F];exact e,by rw[g2.us _ (Aw e)];exact K,g2.ms _ (Aw e) F⟩,fun k b J=>?_,j.inj,j.lv,g1,j.gr.trans g2⟩;obtain⟨C,H,I,E⟩:=j.box k b J;have h:ρ k<w.heap.size:=by obtain⟨cs,e,_⟩:=C;exact Aw e
 refine⟨?_,H,?_,?_⟩
 ·rw[g2.old _ h E];exact C
 ·rw[g2.us _ h];exact I
 exact g2.ms _ h E
def Rel.grow0 (e:Rel c s u m ρ a w)(g1:Bv u' m' w')(g2:B0 u m w u' m' w'):Rel c s u' m' ρ a w':=e.grow g1 g2
def Rel.unbase [Bs:Co](e:Rel c s u m ρ { tmps:=t,defers:=d0::dl } w)(I:Bs.dl = [d0])(C:U3 d0=false):@Rel Fl Co.no c s u m ρ { tmps:=t,defers:=dl } w:=by
 refine @Rel.mk Fl Co.no c s u m ρ { tmps:=t,defers:=dl } w e.sz e.tm ?_ e.box e.inj e.lv e.gd e.gr;obtain⟨E,F,j,h,H⟩:=e.df;rw[A6x,if_neg (by simp[C])]at j;rw[A6x,if_pos (by simp[C]),I]at h;exact⟨E,F,j,(List.cons.inj h).2,H⟩
theorem Rel.rebase (e:Rel c s u m ρ { tmps:=t,defers:=dl } w)(F:U3 d0=false):@Rel Fl ⟨[d0]⟩ c s u m ρ { tmps:=t,defers:=d0::dl } w:=by
 refine @Rel.mk Fl ⟨[d0]⟩ c s u m ρ { tmps:=t,defers:=d0::dl } w e.sz e.tm ?_ e.box e.inj e.lv e.gd e.gr;obtain⟨j,C,H,h,E⟩:=e.df;refine⟨j,C,?_,?_,E⟩
 ·grind
 rw[A6x,if_pos (by simp[F]),h];rfl
def Rel.leavesV {fn:Func}{R:Ending->World->Prop}{t:Array Value}:∀ {dl:List Deferred} {w':World},Rel c s u m ρ { tmps:=t,defers:=dl } w' ->
 (∀ e,Rel c s u m ρ { tmps:=t,defers:=[] } e->∃ v,(results fn t).run P e=.ok v e/\R (.returned v) e)->LeavesInM Fence.wide 1 P fn t R dl .returning w'
 |[],w',hr,hv=>by
  obtain⟨v,h,j⟩:=hv w' hr;exact⟨v,h,j⟩
 |d::dl,w',hr,hv=>by
  obtain⟨r,E,h,j,C⟩:=hr.shut (P:=P) hr.marks;exact⟨mV,.inl ⟨r,E,h,j,Rel.leavesV C hv⟩⟩
def Rel.fin0 [A6 P]{fn:Func}{Post:Ce}{l:zV}{e:PH}(h:Rel c s u m ρ a w)(C:T6 P s m fn.results.toList l)(j:PH.le e m)(E:Post.post (Pc l) u e):∃ v,(results fn a.tmps).run P w=.ok v w/\Ady c Post.post (.returned v) w :=
 ⟨_,Qo h C,_,_,_,rfl,(h.less j).gd,(h.less j).gr,E⟩
def Aix (P:Program)(f:FuncId)(args:zV)(u m:PH)(K:PH->PH->Prop):Prop:=∀ w,Bv u m w->CallsDIn Fence.wide 0 P f args.toArray .returning w fun e md w'=>md=.returning/\∃ v u' m',e=.returned v/\Bv u' m' w'/\B0 u m w u' m' w'/\K u' m'
def Rel.leavesD [Bs:Co]{fn:Func}{R:Ending->World->Prop}{t:Array Value}{d0:Deferred}(j:Bs.dl = [d0]){fv:Fn}{cap:Array Value}{f:FuncId}{args:zV}{K:PH->PH->Prop}(J:d0.target=.fn fv cap)
 (hi:∀ w,(invoke d0.target d0.args).run P w=.ok (.enter f args.toArray) w) (H:Aix P f args u m K)
 (I:∀ u' m' w',PH.le u u'->K u' m'->@Rel Fl Co.no c s u' m' ρ { tmps:=t,defers:=[] } w'->∃ v,(results fn t).run P w'=.ok v w'/\R (.returned v) w') :
 ∀ {dl:List Deferred} {w:World},Rel c s u m ρ { tmps:=t,defers:=dl } w->LeavesInM Fence.wide 1 P fn t R dl .returning w
 |[],w,hr=>by
  obtain⟨_,_,_,h,_⟩:=hr.df;rw[j]at h;cases h
 |d::dl,w,hr=>by
  cases hm:U3 d with
  |true =>
   obtain⟨r,w',Q,T,U⟩:=hr.shut (P:=P) hm;exact⟨mV,.inl ⟨r,w',Q,T,Rel.leavesD j J hi H I U⟩⟩
  |false =>
   have V:d=d0:=by
    obtain⟨_,_,_,h,_⟩:=hr.df;rw[A6x,if_pos (by simp[hm]),j]at h;exact (List.cons.inj h).1
   subst V;refine⟨mV,.inr ⟨(fun h=>by cases h),fv,cap,f,args.toArray,J,hi w,fun _ _=>trivial,?_⟩⟩;refine (H w hr.gd).mono ?_;rintro e W w' ⟨rfl,v,u',m',rfl,g1,g2,L⟩;have E:=Rel.grow0 (hr.unbase j hm) g1 g2;exact Rel.leavesV E fun F C=>I u' m' F (g2.le hr.gd.pu) L C
end
section
variable [Fl:Cl] {P:Program} [A6 P] {fn:Func} {Post:Ce} {st:List KI×S} {u m:PH}
def G.retD [Bs:Co]{d0:Deferred}(Q:Bs.dl = [d0]){fv:Fn}{cap:Array Value}{f:FuncId}{args:zV}{K:PH->PH->Prop}(V:d0.target=.fn fv cap)
 (hi:∀ w,(invoke d0.target d0.args).run P w=.ok (.enter f args.toArray) w) (h:Akf (adv P st)=true) (T:Aix P f args u m K)
 (E:∀ u' m',PH.le u u'->K u' m'->∃ l j,T6 P (adv P st).2 m' fn.results.toList l/\PH.le j m'/\Post.post (Pc l) u' j):G P fn Post st u m:=by
 refine G.stp ?_;generalize adv P st=st' at h E;obtain⟨W,s⟩:=st';have key:∀ c ρ a w,Rel c s u m ρ a w->Am4 P fn (Ady c Post.post) .ret a w/\Am4 P fn (Ady c Post.post) .normal a w:=by
  intro c ρ a w e;have:=Rel.leavesD (fn:=fn) (R:=Ady c Post.post) (t:=a.tmps) Q V hi T (fun u' m' w' U L J=>by
   obtain⟨l,j,F,H,I⟩:=E u' m' U L;exact Rel.fin0 (a:=⟨a.tmps,[]⟩) J F H I) (dl:=a.defers) e
  exact⟨this,this⟩
 unfold Akf at h;simp only at h;split at h
 ·refine⟨?_⟩;intro c ρ a w C e;exact wp_ret (J6 (key c ρ a w e).1 _)
 ·refine⟨?_⟩;intro c ρ a w C e;exact (key c ρ a w e).2
 cases h
end
def Azk (s:S)(l:List KI):Option (Nat×Fn×zV):=match l with
 |.code (.region _ ops false)::_=>match ops.toList with
  |[⟨some d,.makeFunc fn first caps,_,_,_,none⟩,⟨none,.defer c,_,_,_,none⟩]=>match c.callee with
   |.value (.tmp e)=>cond (Nat.beq d e&&Nat.beq first.size 0&&Nat.beq c.args.size 0&&Nat.blt d s.n&&caps.toList.all fun x=>isV (s.ev x)) (some (d,fn,caps.toList.map (C2 s))) none
   |_=>none
  |_=>none
 |_=>none
def Ax3 (l:List KI):List KI:=match l with|_::k=>k|[]=>[]
def Zs (fn:Fn)(vs:zV):Deferred:={ target:=.fn fn vs.toArray,args:=#[] }
section
variable [Fl:Cl] {P:Program} [A6 P] {fnc:Func} {Post:Ce} {st:List KI×S} {u m:PH}
def Axj:List KI->Bool
 |[]=>true
 |.lp _::_=>false
 |_::k=>Axj k
def O6 (e j:Co)(c:Cx):∀ C:List KI,Axj C=true->@It Fl e P fnc Post c C=@It Fl j P fnc Post c C
 |[],_=>rfl
 |.code x::k,h=>by simp only[It];rw[O6 e j c k h]
 |.blk id::k,h=>by simp only[It];rw[O6 e j c k h]
 |.reg _ _ _ _::k,h=>by simp only[It];rw[O6 e j c k h]
 |.lp _::_,h=>by cases h
def G.outC [Bs:Co]{e:List KI}{s:S}(h:G P fnc Post (e,s) u m)(j:F2 e=true):Hm P fnc Post e s u m:=by
 have:=h.out;rwa[Sym.ofNo j]at this
def G.go (n:Nat)(k:G P fnc Post (run P n st) u m):G P fnc Post st u m:=⟨Tp A6.mx n st k.out⟩
theorem G.off {d:Nat}{fn:Fn}{vs:zV}(h:Azk st.2 st.1=some (d,fn,vs))(hn:F2 (Ax3 st.1)=true)(I:Axj (Ax3 st.1)=true)(k:@G Fl Pu.no ⟨[Zs fn vs]⟩ P fnc Post (Ax3 st.1,st.2.put (some d) (.v (.func fn #[] vs.toArray))) u m):G P fnc Post st u m:=by
 obtain⟨ks,s⟩:=st;unfold Azk at h;simp only at h;split at h
 ·rename_i id ops kk;split at h
  ·rename_i d' fn' first caps ty pos af c ty2 pos2 af2 hops
   split at h
   ·rename_i e hc;cases hb:(Nat.beq d' e&&Nat.beq first.size 0&&Nat.beq c.args.size 0&&Nat.blt d' s.n&&caps.toList.all fun x=>isV (s.ev x)) with
    |false=>grind
    |true =>
     rw[hb]at h;simp only[cond_true,A1f,A2i]at h;obtain⟨rfl,rfl,rfl⟩:=h;simp only[A1m]at hb;obtain⟨⟨⟨⟨E,R⟩,F⟩,T⟩,U⟩:=hb;have E:=A1y E;subst E;have R:first = #[]:=A4s (A1y R)
     have F:c.args = #[]:=A4s (A1y F);have T:d' < s.n:=by simp_all
     rw[A1o]at U;have Z:=G.outC (Bs:=⟨[Zs fn' (caps.toList.map (C2 s))]⟩) k hn;refine⟨?_⟩;intro Q ρ a w J V;refine wp_region ?_;have ho:ops = #[⟨some d',.makeFunc fn' #[] caps,ty,pos,af,none⟩,⟨none,.defer c,ty2,pos2,af2,none⟩]:=by grind
     subst ho;have H:caps.map a.eval=(caps.toList.map (C2 s)).toArray:=by
      apply A6j;simp only[Array.toList_map];refine A41 fun x hx=>?_;have C:=U x hx;unfold C2;cases e:s.ev x with
      |v y=>rw[V.eval x (by rw[e];simp),e];rfl
      |junk=>rw[e]at C;cases C
      |p i o=>rw[e]at C;cases C
     have j:=Rel.put (x:=.v (.func fn' #[] (caps.toList.map (C2 s)).toArray)) (d:=some d') (y:=.func fn' #[] (caps.toList.map (C2 s)).toArray) V (fun _=>rfl) mV (fun e Y=>by cases Y;exact T);have W:(execOp a.eval ⟨some d',.makeFunc fn' #[] caps,ty,pos,af,none⟩).run P w=.ok (.value (.func fn' #[] (caps.toList.map (C2 s)).toArray)) w:=by
      have:(execOp a.eval ⟨some d',.makeFunc fn' #[] caps,ty,pos,af,none⟩).run P w=.ok (.value (.func fn' #[] (caps.map a.eval))) w:=by
       have K:∀ (fn:Fn) (first cap:Array Value) (w:World),(Instr.makeFunc fn first cap).run P w=.ok (.func fn first cap) w:=fun _ _ _ _=>rfl
       simp[execOp,K]
      rw[this,H]
     have X:(execOp (a.put (some d') (.func fn' #[] (caps.toList.map (C2 s)).toArray)).eval ⟨none,.defer c,ty2,pos2,af2,none⟩).run P w=.ok (.defer (Zs fn' (caps.toList.map (C2 s)))) w:=by
      have C:=j.eval (.tmp d') (by show (s.put (some d') _).tm d'≠_;rw[Az];simp);rw[show (s.put (some d') (.v (.func fn' #[] (caps.toList.map (C2 s)).toArray))).ev (.tmp d')=.v (.func fn' #[] (caps.toList.map (C2 s)).toArray) from Az _ _ _]at C;simp[execOp,resolve,hc,C,F,SV.den,Deferred.ofValue,Zs]
     have L:=Rel.rebase (t:=(a.put (some d') (.func fn' #[] (caps.toList.map (C2 s)).toArray)).tmps) (dl:=(a.put (some d') (.func fn' #[] (caps.toList.map (C2 s)).toArray)).defers) j (d0:=Zs fn' (caps.toList.map (C2 s))) rfl;refine .inl ?_;show Oper.upon P ⟨some d',.makeFunc fn' #[] caps,ty,pos,af,none⟩ a _ _ ((execOp a.eval ⟨some d',.makeFunc fn' #[] caps,ty,pos,af,none⟩).run P w);rw[W,Oper.upon_value];refine .inl ?_;show Oper.upon P ⟨none,.defer c,ty2,pos2,af2,none⟩ (a.put (some d') (.func fn' #[] (caps.toList.map (C2 s)).toArray)) _ _ ((execOp (a.put (some d') (.func fn' #[] (caps.toList.map (C2 s)).toArray)).eval ⟨none,.defer c,ty2,pos2,af2,none⟩).run P w);rw[X,Oper.upon_defer];have:=Z Q ρ _ w J L;rw[O6 _ Co.no Q _ I]at this;exact this
   cases h
  cases h
 cases h
end
end
section
variable {E c c' i k n n' w:Nat}{R Y q:List Int}{X:List (List Int)}{a a':zP}{cs es:zV}{o p s:Arr}{r:Value×zV}{rows:List (Value×zV)}{u:PH}{v:Value}
def C3 (r:Value×zV):Arr:=⟨r.1,141,2,r.2⟩
def oN (v:Value)(rows:List (Value×zV)):Arr:=⟨v,190,1,rows.map (·.1)⟩
def Ack {m0 m:PH}:(C3 r).At m0 m=Af m0 m r.1 141 2 r.2:=rfl
def Akm {m0 m:PH}:(oN v rows).At m0 m=Af m0 m v 190 1 (rows.map (·.1)):=rfl
def Aq8 {x:Value}{es es':zV}(h:rows[i]?=some (x,es)):oN v (rows.set i (x,es'))=oN v rows:=by
 unfold oN;rw[Un (r':=(x,es')) h rfl]
def F8 (h:rows[i]?=some r):(s::p::o::rows.map C3)[i+3]?=some (C3 r):=by simp[h]
def Afy :(s::p::o::rows.map C3).set (i+3) (C3 r)=s::p::o::(rows.set i r).map C3:=by
 rw[A2j,A2j,A2j,A2g]
structure N3 where
 b:Bool
 a:zP
 n:Nat
 c:Nat
def nv (f:N3):Value:=.agg #[.bool f.b,.slice f.a f.n f.c]
def Age (f:N3):List SV:=[.v (.bool f.b),.v (.slice f.a f.n f.c)]
def Bi.opN {z:Int}(h:Bi u v z):∃ f,v=nv f:=by
 obtain⟨b,a,n,c,rfl⟩:=h.opn;exact⟨⟨b,a,n,c⟩,rfl⟩
def NAt (u:PH)(rows:List (Value×zV))(X:List (List Int)):Prop:=rows.length=X.length/\∀ (i:Nat) (r:Value×zV),rows[i]?=some r->AtP Bi u r.2 (gMZ X i)
def NAt.mono {u e:PH}{rows:List (Value×zV)}{X:List (List Int)}(h:NAt u rows X)(j:PH.le u e):NAt e rows X:=⟨h.1,fun i r t=>(h.2 i r t).mono (fun _ _ k=>k.mono j)⟩
def NAt.set (h:NAt u rows X)(hi:i<rows.length)(C:AtP Bi u r.2 q):NAt u (rows.set i r) (X.set i q):=by
 refine⟨by simp[h.1],fun j r' t=>?_⟩;rw[Kv (by rw[<-h.1];exact hi)];rw[A1z]at t;by_cases e:i=j
 ·subst e;rw[if_pos rfl,if_pos hi]at t;simp only[A1f]at t;rw[if_pos rfl,<-t];exact C
 rw[if_neg e]at t⊢;exact h.2 j r' t
theorem Ara (i:Nat):gMZ (X++[q]) i=if i<X.length then gMZ X i else if i=X.length then q else []:=by
 unfold gMZ;rw[A02,A02];by_cases h:i<X.length
 ·rw[A1r h,if_pos h]
 ·rw[if_neg h];by_cases e:i=X.length
  ·subst e;rw[if_pos rfl];simp
  ·rw[if_neg e,A1v gV];rfl
def NAt.snoc (h:NAt u rows X)(j:AtP Bi u r.2 q):NAt u (rows++[r]) (X++[q]):=by
 refine⟨by simp[h.1],fun i r' hi=>?_⟩;rw[Ara];by_cases e:i<rows.length
 ·rw[A1r e]at hi;rw[if_pos (by rw[<-h.1];exact e)];exact h.2 i r' hi
 rw[A18 oV]at hi;have t:i-rows.length=0:=by
  rcases A2a (i-rows.length) with h0|h0
  ·exact h0
  rw[A1v gV]at hi;cases hi
 rw[t]at hi;simp at hi;subst hi;rw[if_neg (by rw[<-h.1];omega),if_pos (by rw[<-h.1];omega)];exact j
def E9 (rv pv:Value)(f:N3)(odd:Bool):zV:=[rv,pv,.bool f.b,.slice f.a f.n f.c,.bool odd]
def Jv (g:Nat)(cs:zV):Arr:=⟨zG g 5 5,192,1,cs⟩
def V3 {g:Nat}{m0 m:PH}:(Jv g cs).At m0 m=Af m0 m (zG g 5 5) 192 1 cs:=rfl
def Ap1 (h:∀ x∈es,Ax x=true/\x.cells = #[x]):A9 1 es:=fun x C=>by
 obtain⟨j,t⟩:=h x C;rw[t];exact⟨rfl,fun y e=>by simp at e;subst e;exact j⟩
def Akd {f:N3}{odd:Bool}:A9 1 (E9 (.slice a n c) (.slice a' n' c') f odd):=Ap1 (by
 intro x e;simp only[E9,A1g,A11,or_false]at e;rcases e with rfl|rfl|rfl|rfl|rfl<;>exact⟨rfl,rfl⟩)
def Lz (h:∀ x∈es,x.cells = #[x]):A2 es=es:=by
 induction es with
 |nil=>rfl
 |cons e es ih =>
  unfold A2 at ih⊢;rw[A6o,ih (fun x j=>h x (A2f _ j)),h e mV];rfl
def Sa {f:N3}{odd:Bool}:∀ x∈E9 (.slice a n c) (.slice a' n' c') f odd,x.cells = #[x]:=by
 intro x e;simp only[E9,A1g,A11,or_false]at e;rcases e with rfl|rfl|rfl|rfl|rfl<;>rfl
def Ae9 {m:PH}{g:Nat}{f:N3}{odd:Bool}(e:m g=none):(Jv g (E9 (.slice a n c) (.slice a' n' c') f odd)).At m (m.upd g (.cells (E9 (.slice a n c) (.slice a' n' c') f odd).toArray 192 (0,0))):=by
 rw[V3];refine⟨Akd,.inr ⟨g,5,[],e,?_,rfl,by simp[E9],by rw[Lz Sa];simp[E9],mV⟩⟩;rw[Lz Sa,A1x]
def Aqq {m0 m:PH}{g:Nat}(h:(Jv g cs).At m0 m)(F:∀ x∈cs,x.cells = #[x])(J:cs.length=5):m0 g=none/\m=m0.upd g (.cells cs.toArray 192 (0,0)):=by
 rw[V3]at h;rcases h.2 with ⟨h,_,_⟩|⟨I,cap,rest,C,e,j,H,t,_⟩
 ·cases h
 simp only[Value.slice.injEq,A1f,Addr.mk.injEq]at j;obtain⟨⟨rfl,_,_⟩,_,rfl⟩:=j;rw[Lz F]at e t;have:rest = []:=by
  refine A2l ?_;rw[A1d]at t;omega
 subst this;rw[A1x]at e;exact⟨C,e⟩
section
variable {m:PH} {g:Nat} {l:List Arr} {rv pv:Value} {f:N3} {odd:Bool}
def Ev (h:Bag m (Jv g (E9 rv pv f odd)::l)):ElP m g (0+0) rv:=h.el (j:=0) 0 (x:=Jv g (E9 rv pv f odd)) rfl rfl rfl
def Ab4 (h:Bag m (Jv g (E9 rv pv f odd)::l)):ElP m g (0+1) pv:=h.el (j:=1) 0 (x:=Jv g (E9 rv pv f odd)) rfl rfl rfl
def Ak7 (h:Bag m (Jv g (E9 rv pv f odd)::l)):ElP m g (0+4) (.bool odd):=h.el (j:=4) 0 (x:=Jv g (E9 rv pv f odd)) rfl rfl rfl
def Al1 (h:Bag m (Jv g (E9 rv pv f odd)::l)):ElP m g (0+2) (nv f):=by
 have e:ElP m g (0+2*1) (.bool f.b):=h.el (j:=2) 0 (x:=Jv g (E9 rv pv f odd)) rfl rfl rfl;have t:ElP m g (0+3*1) (.slice f.a f.n f.c):=h.el (j:=3) 0 (x:=Jv g (E9 rv pv f odd)) rfl rfl rfl;intro i x hi
 match i,hi with
 |0,hi=>exact e 0 x hi
 |1,hi=>exact t 0 x hi
end
def Ur {u m:PH}{g n c w i:Nat}(C:Bag m (s::p::oN (zG g n c) rows::rows.map C3))(T:NAt u rows X)(P:E8 n w X)(hi:i<n)(Z:0<w) :
 ∃ I K H,rows[i]?=some (zG I w K,H)/\H.length=w/\AtP Bi u H (gMZ X i)/\ElP m g (0+i*1) (zG I w K)/\∀ j,j<w->∃ f,H[j]?=some (nv f)/\Bi u (nv f) (enZ X i j)/\ElP m I (0+j*2) (nv f):=by
 have W:rows.length=n:=by rw[T.1,P.1]
 have h:rows[i]?=some rows[i]:=A01 oV;have t:=T.2 i _ h;obtain⟨⟨vi,H⟩,U⟩:∃ x,rows[i]=x:=⟨_,rfl⟩;rw[U]at h t;simp only at t;have F:H.length=w:=by rw[t.1,P.2 i hi]
 obtain⟨I,K,e⟩:=C.ptr (i+3) (F8 h) (by intro e;simp only[C3]at e;rw[e]at F;simp at F;omega);simp only[C3]at e;rw[F]at e;subst e;refine⟨I,K,H,h,F,t,C.el 2 (x:=oN _ rows) rfl rfl (by show (rows.map (·.1))[i]?=_;rw[A1a,h];rfl),fun j V=>?_⟩;have J:j<(gMZ X i).length:=by rw[P.2 i hi];exact V
 obtain⟨e,Q,L⟩:=t.at J;obtain⟨f,rfl⟩:=L.opN;rw[<-Ol J]at L;exact⟨f,Q,L,C.el (i+3) (x:=C3 _) (F8 h) rfl Q⟩
def Vp (Y R:List Int)(k:Nat):List Int:=Y.take k++R.drop k
def Amf (Y R:List Int):Vp Y R 0=R:=by simp[Vp]
def Asz (h:Y.length=k)(e:R.length=k):Vp Y R k=Y:=by
 unfold Vp;rw[A1j oV,A2b oV,A1x]
def Ape (h:Y.length=R.length)(e:k<=R.length):(Vp Y R k).length=R.length:=by simp[Vp];omega
def Aov (h:Y.length=R.length)(e:k<R.length):(Vp Y R k).set k (gZ Y k)=Vp Y R (k+1):=by
 unfold Vp;rw[A4t _ _ gV];simp only[A1e];rw[show k-min k Y.length=0 by omega,A5z e,A2p,M2 oV,A2k,Ol oV];rfl
def Atr (h:Y.length=R.length)(e:k<R.length):gZ (Vp Y R k) k=gZ R k:=by
 unfold Vp gZ;rw[A02,A18 gV,A02];simp only[A1e];rw[show k-min k Y.length=0 by omega,A39];rfl
def SzZ (X:List (List Int))(E:Nat):Prop:=∀ i j,nl (enZ X i j).natAbs<=E
def SzZ.mono {E e:Nat}(h:SzZ X E)(t:E<=e):SzZ X e:=fun i j=>A04 (h i j) t
def Vw {v a g x y:Int}(t:nl a.natAbs<=E)(C:nl g.natAbs<=E)(F:nl x.natAbs<=E)(H:nl y.natAbs<=E):nl (x*a).natAbs<=2*E/\nl (g*y).natAbs<=2*E/\nl (x*a-g*y).natAbs<=2*E+1/\nl ((x*a-g*y)/v).natAbs<=2*E+1:=by
 have e:=Bx F t;have h:=Bx C H;have j:=Ab3 e h;exact⟨e,h,j,A04 (C4 (Int.natAbs_ediv_le_natAbs _ _)) j⟩
def SzZ.swap {n w p r E:Nat}(h:SzZ X E)(e:E8 n w X)(hp:p<n)(t:r<n):SzZ (Kw X p r) E:=fun i j=>by
 unfold enZ;rw[Wz e hp t];split
 ·exact h p j
 split
 ·exact h r j
 exact h i j
def SzZ.row {n w r c i E:Nat}{v:Int}(h:SzZ X E)(e:E8 n w X)(t:r<n)(hi:i<n)(j:Nat):nl (gZ (Qx v (enZ X r c) (enZ X i c) (gMZ X r) (gMZ X i)) j).natAbs<=2*E+1:=by
 rw[Acv _ _ _ _ _ (by rw[e.2 r t,e.2 i hi])];exact (Vw (h r c) (h i c) (h i j) (h r j)).2.2.2
def SzZ.clr {n w r c E:Nat}{v:Int}(h:SzZ X E)(e:E8 n w X)(t:r<n):SzZ (Ov r c v n 0 X) (2*E+1):=fun i j=>by
 unfold enZ;rw[Ry t n 0 X oV e];split
 ·rename_i h1;exact h.row e t oV j
 exact A04 (h i j) oV
def Al2 {s:BZ}(h:SzZ s.X E)(I:nl s.v.natAbs<=E)(t:E8 n w s.X)(H:s.P.length<=n):SzZ (I0 n c s).X (2*E+1)/\nl (I0 n c s).v.natAbs<=2*E+1/\E8 n w (I0 n c s).X/\(I0 n c s).P.length<=n/\(s.v≠0->(I0 n c s).v≠0):=by
 obtain⟨K,L⟩:=Ac3 s.X c (n-s.P.length) s.P.length;have J:=Ade s.X c (n-s.P.length) s.P.length;unfold I0;generalize Iy s.X c (n-s.P.length) s.P.length=p at *
 split
 ·exact⟨h.mono oV,A04 I oV,t,H,id⟩
 rename_i e;have hp:p<n:=oV;have C:s.P.length<n:=oV;have j:E8 n w (if p=s.P.length then s.X else Kw s.X p s.P.length):=by
  split
  ·exact t
  exact Uh t hp C
 have F:SzZ (if p=s.P.length then s.X else Kw s.X p s.P.length) E:=by
  split
  ·exact h
  exact h.swap t hp C
 exact⟨F.clr j C,A04 (h p c) oV,Wu C n 0 _ oV j,gV,fun _=>J oV⟩
end
structure E3 where
 rows:List (Value×zV)
 X:List (List Int)
 odd:Bool
def Awx {z:Int}:sgn z=0↔z=0:=by unfold sgn;split<;>(try split)<;>omega
def Ax8 {u m:PH}{g go I n w c E:Nat}{t:List (Value×zV)}{L:List (List Int)}{P:zK}{pa:zP}{pc:Nat}{f0:N3}{C:Bool}{v:Int}
 (W:E8 n w L) (hn:n<=100) (hw:w<=100) (hc:c<w) (hP:P.length<=n) (h0:0<n) (a4:SzZ L E) (hv:Bi u (nv f0) v) (d7:nl v.natAbs<=E) (d5:v≠0) (hE:E<=1000000000) (b1:NAt u t L)
 (h:Bag m (Jv g (E9 (zG go n I) (.slice pa P.length pc) f0 C)::Np (.slice pa P.length pc) P::oN (zG go n I) t::t.map C3)) :
 Ag prog 194 [.pointer (zA g),zI c] u m fun r u' m'=>r=.tuple #[]/\∃ cj ck f' a3,NAt u' a3 (I0 n c ⟨L,P,v,C⟩).X/\Bi u' (nv f') (I0 n c ⟨L,P,v,C⟩).v /\
  Bag m' (Jv g (E9 (zG go n I) (.slice cj (I0 n c ⟨L,P,v,C⟩).P.length ck) f' (I0 n c ⟨L,P,v,C⟩).odd)::Np (.slice cj (I0 n c ⟨L,P,v,C⟩).P.length ck) (I0 n c ⟨L,P,v,C⟩).P::oN (zG go n I) a3::a3.map C3):=by
 have ah:0<w:=oV;refine Ag.o func194<|G.f 192 g 0 1 1<|G.v none (Ab4 h)<|G.l (ι:=Nat) (fun p=>[(0,.v (.pointer (zA g))),(1,iV c),(4,iV P.length),(5,iV p)]) (fun _=>[])
  (fun p u' m'=>P.length<=p/\p<=n/\Iy L c (n-p) p=Iy L c (n-P.length) P.length/\m'=m) (fun p=>n-p) P.length ⟨A08 _,hP,rfl,rfl⟩ ?_
 rintro J2 p bk u3 m3 l3 ⟨ds,du,a8,rfl⟩;have K:=b1.mono l3;refine G.f 192 g 0 0 0<|G.v none (Ev h) ?_;by_cases Z:n<=p
 ·obtain rfl:p=n:=oV;refine G.lF p p<|G.f 192 g 0 0 0<|G.v none (Ev h)<|G.hT p p ?_;have e:I0 p c ⟨L,P,v,C⟩=⟨L,P,v,C⟩:=by
   unfold I0;rw[if_pos];show Iy L c (p-P.length) P.length=p;rw[<-a8,A4i];rfl
  refine G.r (.tuple #[]) ?_;rw[e];exact⟨rfl,pa,pc,f0,t,K,hv.mono l3,h⟩
 have Z:p<n:=oV;refine G.lT p n ?_;obtain⟨K2,bm⟩:∃ K2,n-p=K2+1:=⟨n-p-1,oV⟩;obtain⟨gp,cp,ep,c1,d3,bj,ac,bw⟩:=Ur h K W Z ah;obtain⟨fp,d2,bx,bz⟩:=bw c hc;refine G.f 192 g 0 0 0<|G.v none (Ev h)<|G.O n I Z ac<|G.O w cp hc bz<|G.c call195 (N1 bx (A04 (a4 p c) oV)) ?_;rintro v4 u4 l4 rfl;by_cases hz:enZ L p c=0
 ·refine G.eT' (sgn (enZ L p c)) 0 (Awx.2 hz)<|G.i p<|G.b (bk (p+1) _ _ _ cV (l3.trans l4) ⟨oV,oV,?_,rfl⟩ oV);rw[<-a8,bm,Iy,if_pos hz,show n-(p+1)=K2 by omega]
 refine G.eF' (sgn (enZ L p c)) 0 (fun e=>hz (Awx.1 e)) ?_;rw[bm,Iy,if_neg hz]at a8;clear bk;have T:P.length<n:=oV;refine G.f 192 g 0 0 0<|G.v none (Ev h)<|G.hF p n<|G.join (ι:=E3) zL (fun i=>[(0,.v (.pointer (zA g))),(1,iV c),(4,iV P.length)]) (fun i=>[])
  (fun i u' m'=>i.X=(if p=P.length then L else Kw L p P.length)/\i.odd=(if p=P.length then C else !C)/\NAt u' i.rows i.X/\Bag m' (Jv g (E9 (zG go n I) (.slice pa P.length pc) f0 i.odd)::Np (.slice pa P.length pc) P::oN (zG go n I) i.rows::i.rows.map C3)) (fun _=>kV) kV ?tail ?way
 case way =>
  intro ab;by_cases ap:p=P.length
  ·refine G.nF p P.length ?_;exact ab ⟨t,L,C⟩ _ _ _ kV cV (PH.le_refl _) ⟨by rw[if_pos ap],by rw[if_pos ap],K.mono l4,h⟩
  refine G.nT p P.length ?_;obtain⟨gr,cr,er,be,aw,ay,ao,b4⟩:=Ur h K W T ah;refine G.f 192 g 0 0 0<|G.v none (Ev h)<|G.f 192 g 0 0 0<|G.v none (Ev h)<|G.f 192 g 0 0 0<|G.v none (Ev h)<|G.O n I T ao<|G.f 192 g 0 0 0<|G.v none (Ev h)<|G.O n I Z ac ?_;obtain⟨m0,ai,ad⟩:=h.focus 2 rfl;rw[Akm]at ai;have dg:t.length=n:=by rw[b1.1,W.1]
  refine G.a go 0 n I p 1 Z<|G.storeA 1 m0 _ go n I p (zG gr w cr) kV ai gV rfl rfl ?_;intro m5 d9;refine G.a go 0 n I P.length 1 T<|G.storeA 1 m0 _ go n I P.length (zG gp w cp) kV d9 gV rfl rfl ?_;intro m6 c8;have bd:((t.map (·.1)).set p (Value.slice (zA gr) w cr)).set P.length (Value.slice (zA gp) w cp)=((t.set p (Value.slice (zA gr) w cr,er)).set P.length (Value.slice (zA gp) w cp,ep)).map (·.1):=by rw[A2g,A2g]
  rw[bd]at c8;have ct:=ad (oN (zG go n I) ((t.set p (Value.slice (zA gr) w cr,er)).set P.length (Value.slice (zA gp) w cp,ep))) m6 c8;have b7:((t.set p (Value.slice (zA gr) w cr,er)).set P.length (Value.slice (zA gp) w cp,ep)).Perm t:=by
   obtain⟨q1,q2⟩:=A05.1 c1;obtain⟨q3,q4⟩:=A05.1 be;rw[<-q2,<-q4];exact List.set_set_perm q1 q3
  have bt:=Bag.perm (List.Perm.cons _ (List.Perm.cons _ (List.Perm.cons _ (b7.symm.map C3)))) ct;have a1:=(K.set (i:=p) (r:=(Value.slice (zA gr) w cr,er)) oV ay).set (i:=P.length) (r:=(Value.slice (zA gp) w cp,ep)) gV bj;refine G.f 192 g 0 3 4<|G.v none (Ak7 bt)<|G.f 192 g 0 3 4 ?_;obtain⟨m7,ca,bb⟩:=bt.focus 0 rfl;rw[V3]at ca;refine G.storeA 1 m7 _ g 5 5 4 (.bool !C) kV ca (by simp[E9]) rfl rfl ?_;intro m8 da;have cu:=bb (Jv g (E9 (zG go n I) (.slice pa P.length pc) f0 (!C))) m8 da;exact ab ⟨(t.set p (Value.slice (zA gr) w cr,er)).set P.length (Value.slice (zA gp) w cp,ep),Kw L p P.length,!C⟩ _ _ _ kV cV (PH.le_refl _) ⟨by rw[if_neg ap],by rw[if_neg ap],a1.mono l4,cu⟩
 rintro⟨rows1,X1,odd1⟩ u5 m5 l5 ⟨hX1e,hod,a1,hbag1⟩;simp only at hX1e hod a1 hbag1;have am:E8 n w X1:=by
  rw[hX1e];split
  ·exact W
  exact Uh W Z T
 have ag:SzZ X1 E:=by
  rw[hX1e];split
  ·exact a4
  exact a4.swap W Z T
 have bp:enZ X1 P.length c=enZ L p c:=by
  rw[hX1e];split
  ·rename_i e;rw[e]
  unfold enZ;rw[Wz W Z T,if_pos rfl]
 have af:I0 n c ⟨L,P,v,C⟩=⟨Ov P.length c v n 0 X1,P++[c],enZ X1 P.length c,odd1⟩:=by
  unfold I0;rw[if_neg (by show ¬ Iy L c (n-P.length) P.length=n;rw[<-a8];omega),bp,hod,hX1e];show BZ.mk _ _ _ _=_;simp only[<-a8]
 rw[af];clear af hX1e h b1 K c1 d3 bj ac bw d2 bx bz a8 a4 W;have d6:=hv.mono ((l3.trans l4).trans l5);have dv:rows1.length=n:=by rw[a1.1,am.1]
 obtain⟨gr,cr,er,be,aw,ay,ao,b4⟩:=Ur hbag1 a1 am T ah;obtain⟨fr,h5,h6,h7⟩:=b4 c hc;obtain⟨R,hR⟩:∃ R,R=gMZ X1 P.length:=⟨_,rfl⟩;have dm:R.length=w:=by rw[hR];exact am.2 _ T
 obtain⟨F,hF⟩:∃ F,F=enZ X1 P.length c:=⟨_,rfl⟩;have az:nl F.natAbs<=E:=by rw[hF];exact ag _ _
 have b2:∀ j,nl (gZ R j).natAbs<=E:=fun j=>by rw[hR];exact ag _ j
 rw[<-hF]at h6⊢;have cn:gZ R c=F:=by rw[hR,hF];rfl
 refine G.f 192 g 0 0 0<|G.v none (Ev hbag1)<|G.O n I T ao<|G.O w cr hc h7<|G.f 192 g 0 0 0<|G.v none (Ev hbag1)<|G.l (ι:=Nat×List (Value×zV)×List (List Int)) (fun i=>[(0,.v (.pointer (zA g))),(1,iV c),(4,iV P.length),(6,.p 8010 0),(97,sV (zA go) n I),(98,iV n),(99,iV i.1)]) (fun i=>[(8010,⟨141,Age fr⟩)])
  (fun i u' m'=>i.1<=n/\Ov P.length c v (n-i.1) i.1 i.2.2=Ov P.length c v n 0 X1/\E8 n w i.2.2/\gMZ i.2.2 P.length=R/\(∀ x j,i.1<=x->nl (enZ i.2.2 x j).natAbs<=E)/\NAt u' i.2.1 i.2.2 /\
   Bag m' (Jv g (E9 (zG go n I) (.slice pa P.length pc) f0 odd1)::Np (.slice pa P.length pc) P::oN (zG go n I) i.2.1::i.2.1.map C3))
  (fun i=>n-i.1) (0,rows1,X1) ⟨A1t _,rfl,am,hR.symm,fun x j _=>ag x j,a1,hbag1⟩ ?_
 clear a1 hbag1 be aw ay ao b4 h5 h7;rintro J4 ⟨i,H,X3⟩ b0 u8 m8 l8 ⟨hi,aa,Y,U,a0,K,J⟩;simp only at hi aa Y U a0 K J b0;have d4:H.length=n:=by rw[K.1,Y.1]
 by_cases a7:i<n
 ·refine G.lT i n ?_;obtain⟨K3,bn⟩:∃ K3,n-i=K3+1:=⟨n-i-1,oV⟩;obtain⟨gi,ci,ei,c0,cy,bi,d1,cv⟩:=Ur J K Y a7 ah;refine G.O n I a7 d1 ?_;by_cases an:i=P.length
  ·refine G.eT i P.length<|G.i i<|G.b (b0 (i+1,H,X3) _ _ _ cV l8 ⟨dV,?_,Y,U,fun x j h1=>a0 x j (by dsimp only at h1;omega),K,J⟩ dV);dsimp only;rw[<-aa,bn,Ov,if_pos an,show n-(i+1)=K3 by omega]
  refine G.eF i P.length ?_;obtain⟨fg,g5,g6,g7⟩:=cv c hc;have b6:=a0 i c (A08 _);refine G.O w ci hc g7 ?_;obtain⟨S,hS⟩:∃ S,S=gMZ X3 i:=⟨_,rfl⟩;have bo:S.length=w:=by rw[hS];exact Y.2 i a7
  have b3:∀ j,nl (gZ S j).natAbs<=E:=fun j=>by rw[hS];exact a0 i j (A08 _)
  have cm:enZ X3 P.length c=F:=by unfold enZ;rw[U];exact cn
  have bu:Ov P.length c v (n-(i+1)) (i+1) (X3.set i (Qx v F (enZ X3 i c) R S))=Ov P.length c v n 0 X1:=by
   rw[<-aa,bn,Ov,if_neg an,show n-(i+1)=K3 by omega,hS,U,cm]
  generalize hg:enZ X3 i c=gg at *
  rw[<-hS]at bi;have bf:=S2 v F gg R S;have dp:∀ j,nl (gZ (Qx v F gg R S) j).natAbs<=2*E+1:=fun j=>by
   rw[Acv _ _ _ _ _ oV];exact (Vw az b6 (b3 j) (b2 j)).2.2.2
  obtain⟨gs,cs,bh,c2,dh,dl,dr,cw⟩:=Ur J K Y T ah;refine G.l (ι:=Nat×zV) (fun y=>[(0,.v (.pointer (zA g))),(1,iV c),(4,iV P.length),(6,.p 8010 0),(97,sV (zA go) n I),(98,iV n),(99,iV i),(8,sV (zA gi) w ci),(9,.p 13004 0),(112,iV w),(113,iV y.1)]) (fun y=>[(8010,⟨141,Age fr⟩),(13004,⟨141,Age fg⟩)])
   (fun y u' m'=>y.1<=w/\AtP Bi u' y.2 (Vp (Qx v F gg R S) S y.1)/\Bag m' (Jv g (E9 (zG go n I) (.slice pa P.length pc) f0 odd1)::Np (.slice pa P.length pc) P::oN (zG go n I) H::(H.set i ((Value.slice (zA gi) w ci),y.2)).map C3)) (fun y=>w-y.1) (0,ei)
   ⟨A1t _,by rw[Amf];exact bi,by rw[Ny c0];exact J⟩ ?_
  rintro J5 ⟨y,Q⟩ bl dw a9 a2 ⟨hy,a6,V⟩;simp only at hy a6 V bl;have d0:=Ape (k:=y) bf oV;have dq:Q.length=w:=by rw[a6.1,d0,bo]
  have av:(H.set i ((Value.slice (zA gi) w ci),Q))[i]?=some ((Value.slice (zA gi) w ci),Q):=by rw[A1z];simp[d4,a7]
  have b5:(H.set i ((Value.slice (zA gi) w ci),Q))[P.length]?=some (Value.slice (zA gs) w cs,bh):=by rw[A1z,if_neg an];exact c2
  by_cases aq:y<w
  ·refine G.lT y w ?_;obtain⟨e,e1,e2⟩:=a6.at (j:=y) oV;obtain⟨fe,rfl⟩:=e2.opN;rw[<-Ol oV,Atr bf oV]at e2;have ac:ElP a9 go (0+P.length*1) (Value.slice (zA gs) w cs):=V.el 2 (x:=oN (zG go n I) H) rfl rfl (by show (H.map (·.1))[P.length]?=_;rw[A1a,c2];rfl);have he:ElP a9 gi (0+y*2) (nv fe):=V.el (i+3) (x:=C3 ((Value.slice (zA gi) w ci),Q)) (F8 av) rfl e1;obtain⟨fs,s5,s6,_⟩:=cw y aq;have dd:Bi u8 (nv fs) (gZ R y):=by rw[<-U];exact s6
   have cx:ElP a9 gs (0+y*2) (nv fs):=V.el (P.length+3) (x:=C3 (Value.slice (zA gs) w cs,bh)) (F8 b5) rfl s5;have c3:=(d6.mono l8).mono a2;obtain⟨z1,z2,z3,z4⟩:=Vw (v:=v) az b6 (b3 y) (b2 y);refine G.O w ci aq he<|G.f 192 g 0 0 0<|G.v none (Ev V)<|G.O n I T ac<|G.O w cs aq cx<|G.f 192 g 0 2 2<|G.v (some 2) (Al1 V)<|G.c call126 (Ea e2 ((h6.mono l8).mono a2) (A04 (b3 y) oV) (A04 az oV)) ?_;intro e4 dx aj cb;obtain⟨di,rfl⟩:=cb.opN;refine G.c call126 (Ea ((g6.mono a2).mono aj) ((dd.mono a2).mono aj) (A04 b6 oV) (A04 (b2 y) oV)) ?_;intro e5 dy ar cc;obtain⟨dj,rfl⟩:=cc.opN;refine G.c call241 (Ac7 (cb.mono ar) cc (A04 z1 oV) (A04 z2 oV)) ?_;intro e6 dz bg cd;obtain⟨dk,rfl⟩:=cd.opN;refine G.c call190 (M1 cd (c3.mono ((aj.trans ar).trans bg)) (A04 z3 oV) (A04 d7 oV) d5) ?_;rintro e7 e0 ch ⟨e8,ea,rfl,ce,cg⟩;obtain⟨ax,rfl⟩:=ce.opN;obtain⟨df,rfl⟩:=cg.opN;obtain⟨m0,ai,ad⟩:=V.focus (i+3) (F8 av);rw[Ack]at ai;refine G.a gi 0 w ci y 2 aq<|G.storeA 2 m0 Q gi w ci y (nv ax) kV ai oV rfl rfl ?_;intro dc c6;have au:=ad (C3 ((Value.slice (zA gi) w ci),Q.set y (nv ax))) dc c6;rw[Afy,A6r]at au;refine G.i y<|G.b (bl (y+1,Q.set y (nv ax)) _ _ _ cV ((((a2.trans aj).trans ar).trans bg).trans ch) ⟨dV,?_,au⟩ dV);dsimp only;rw[<-Aov bf oV,Acv _ _ _ _ _ oV];exact (a6.mono (fun _ _ k=>k.mono (((aj.trans ar).trans bg).trans ch))).set y ce
  obtain rfl:y=w:=oV;refine G.lF y y ?_;rw[Asz oV bo]at a6;rw[<-Aq8 (es':=Q) c0]at V;refine G.i i ?_;have cq:E8 n y (X3.set i (Qx v F gg R S)):=Lt Y a7 oV;have ae:∀ x,gMZ (X3.set i (Qx v F gg R S)) x=if i=x then Qx v F gg R S else gMZ X3 x:=fun x=>Kv (by rw[Y.1];exact a7)
  refine G.b (b0 (i+1,H.set i ((Value.slice (zA gi) y ci),Q),X3.set i (Qx v F gg R S)) _ _ _ cV (l8.trans a2) ⟨dV,bu,cq,?_,?_,?_,V⟩ dV)
  ·dsimp only;rw[ae,if_neg an];exact U
  ·intro x j h1;dsimp only at h1⊢;unfold enZ;rw[ae,if_neg oV];exact a0 x j oV
  exact (K.mono a2).set (i:=i) (r:=((Value.slice (zA gi) y ci),Q)) oV a6
 obtain rfl:i=n:=oV;refine G.lF i i ?_;rw[A4i,Ov]at aa;rw[<-aa];refine G.f 192 g 0 1 1<|G.v none (Ab4 J)<|G.B 3 1 8 zO [zI c] (Av [c]) ?_;intro g9 u9 l9 e9;obtain⟨m1,c4,b8⟩:=J.focus 1 rfl;rw[Aka]at c4;have cy:(Ai P).length=P.length:=by simp[Ai]
 refine G.append 3 1 8 zO m1 (Ai P) [zI c] (.slice pa P.length pc) g9 0 1 1 kV rfl rfl oV c4 e9 (Av [c]) rfl oV oV oV ?_;intro e3 a9 a5;rw[show Ai P++[Value.int .i64 c]=Ai (P++[c]) by simp[Ai]]at a5;obtain⟨ak,al,rfl⟩:=a5.shape;have el:(Ai (P++[c])).length=(P++[c]).length:=by simp[Ai]
 rw[el]at a5⊢;have bq:=b8 (Np (.slice ak (P++[c]).length al) (P++[c])) a9 a5;obtain⟨m2,d8,b9⟩:=bq.focus 0 rfl;obtain⟨cz,em⟩:=Aqq d8 Sa rfl;refine G.f 192 g 0 2 2<|G.storeM 2 g (0+2) 192 (E9 (zG go i I) (.slice pa P.length pc) f0 odd1) (nv fr) kV (by rw[em,Ab]) (fun x hx=>by
  have:=(Akd x hx).2 x (by rw[Sa x hx];simp);exact this) (by simp[E9]) rfl rfl ?_
 have cl:a9.upd g (.cells ((E9 (zG go i I) (.slice pa P.length pc) f0 odd1).take (0+2)++(nv fr).cells.toList++(E9 (zG go i I) (.slice pa P.length pc) f0 odd1).drop (0+2+2)).toArray 192 (0,0)) =
  m2.upd g (.cells (E9 (zG go i I) (.slice pa P.length pc) fr odd1).toArray 192 (0,0)):=by
  rw[em,Dp];rfl
 rw[cl];have br:=b9 (Jv g (E9 (zG go i I) (.slice pa P.length pc) fr odd1)) _ (Ae9 cz);refine G.f 192 g 0 1 1 ?_;obtain⟨m3,c7,ba⟩:=br.focus 0 rfl;rw[V3]at c7;refine G.storeA 1 m3 _ g 5 5 1 (.slice ak (P++[c]).length al) kV c7 (by simp[E9]) rfl rfl ?_;intro db c5;have bs:=ba (Jv g (E9 (zG go i I) (.slice ak (P++[c]).length al) fr odd1)) db c5;exact G.r (.tuple #[]) ⟨rfl,ak,al,fr,H,K.mono l9,h6.mono (l8.trans l9),bs⟩
section
variable {X:List (List Int)}{a:zP}{c n:Nat}
section
variable [Cl] {P:Program} [A6 P] {fn:Func} {Post:Ce} {st:List KI×S} {u m:PH}
def G.appendZ (e:TypeId)(sz C:Nat)(z:Value)(xs:zV)(a:zP)(n c:Nat)(h:Aj P (adv P st)=.app (some (e,sz,C,z)) true [zN,.slice a n c])(U:z.cells.toList.all Ax=true)(L:z.cells.size=sz)(K:0<sz)
 (Q:Ac u (.slice a n c) sz xs) (T:A9 sz xs) (J:xs.length=n) (R:n*C<=140737488355328) (I:n<=9223372036854775807)
 (k:∀ t E H,Af m H (.slice t n E) e sz xs->G P fn Post (nx (adv P st) (.slice t n E)) u H):G P fn Post st u m:=by
 by_cases h0:n=0
 ·subst h0;obtain rfl:=A2l J;exact G.appendNil e sz C z a c h (k none 0 m (Af.nil _ _ _))
 obtain⟨b,o,rfl,_⟩:=Q.at' (j:=0) (A01 oV);refine G.append e sz C z m [] xs zN b o n c h U L K (Af.nil _ _ _) Q.els T J oV (by simpa using R) (by simpa using I) ?_;intro V H F;rw[A3q]at F;obtain⟨t,E,rfl⟩:=F.shape;rw[J]at F⊢;exact k t E H F
end
def AtP.ok2 {u:PH}{es:zV}{zs:List Int}(h:AtP Bi u es zs):A9 2 es:=fun e H=>by
 obtain⟨j,E,rfl⟩:=A3d.1 H;have t:j<zs.length:=by rw[<-h.1];exact E
 obtain⟨I,C,F⟩:=h.2 j zs[j] (A01 t);rw[A01 E]at C;cases C;exact F.ok _ mV
def Agf {m u:PH}{s p:Arr}{h:List (Value×zV)}(t:Bag m (s::p::oN (.slice a n c) h::h.map C3))(E:NAt u h X)(I:PH.le m u):Nl u (.slice a n c) X:=by
 have J:=t.list I 2 (x:=oN (.slice a n c) h) rfl;refine⟨h.map (fun r:Value×zV=>r.1),J,by rw[A03,E.1],fun j r H=>?_⟩;have F:j<h.length:=by rw[E.1];exact (A05.1 H).1
 have C:h[j]?=some h[j]:=A01 F;refine⟨h[j].1,by rw[A1a,C];rfl,?_⟩;refine⟨h[j].2,t.list I (j+3) (x:=C3 h[j]) (F8 C),?_⟩;have:=E.2 j _ C;have e:gMZ X j=r:=by unfold gMZ;rw[A02,H];rfl
 rwa[e]at this
def Ata {m:PH}{g:Nat}{l:List Arr}{j pv:Value}{f:N3}{e:Bool}(h:Bag m (Jv g (E9 j pv f e)::l))(C:j.cells = #[j])(E:pv.cells = #[pv]):ElP m g 0 (.agg #[j,pv,.bool f.b,.slice f.a f.n f.c,.bool e]):=by
 have F:=Ev h;have H:=Ab4 h;have t:=Al1 h;have I:=Ak7 h;intro i x hi
 match i,hi with
 |0,hi=>exact F 0 x (by rw[C];exact hi)
 |1,hi=>exact H 0 x (by rw[E];exact hi)
 |2,hi=>exact t 0 x hi
 |3,hi=>exact t 1 x hi
 |4,hi=>exact I 0 x hi
def Aqf (K:Nat){k l:Nat}(h:k<=l):zs K k<=zs K l:=by
 induction l with
 |zero =>
  have:k=0:=oV;subst this;exact A08 _
 |succ l ih =>
  rcases A2e k (l+1) with e|e
  ·have:=ih oV;show zs K k<=2*zs K l+2;omega
  have:k=l+1:=oV;subst this;exact A08 _
def Avp {u:PH}{n w c j E:Nat}(hM:Nl u (.slice a n c) X)(hX:E8 n w X)(hn:n<=100)(hw:w<=100)(h0:0<n)(ao:j<=w)(ai:SzZ X E)(ab:1<=E)(hE:zs E j<=1000000000) :
 zF 122 [.slice a n c,zI j] u fun r u'=>∃ a' c' pa pc f,r=.agg #[.slice a' n c',.slice pa (Fm n j 0 ⟨X,[],1,false⟩).P.length pc,.bool f.b,.slice f.a f.n f.c,.bool (Fm n j 0 ⟨X,[],1,false⟩).odd] /\
  Nl u' (.slice a' n c') (Fm n j 0 ⟨X,[],1,false⟩).X/\Bi u' (nv f) (Fm n j 0 ⟨X,[],1,false⟩).v:=by
 have an:=hX.1;refine Fn0.o func122<|G.c call121 (Kf (z:=1) oV oV) ?_;intro v1 u1 l1 k1;obtain⟨f1,rfl⟩:=k1.opN;refine G.l (ι:=Nat×List (Value×zV)×(zP×Nat)) (fun i=>[(1,iV j),(4,.p 0 0),(5,.p 1002 0),(11,sV a n c),(12,iV n),(13,iV i.1)])
  (fun i=>[(0,⟨192,[sN,sN,bF,sN,bF]⟩),(1002,⟨192,[sV i.2.2.1 i.1 i.2.2.2,sN,bV f1.b,sV f1.a f1.n f1.c,bF]⟩)])
  (fun i u' m'=>i.1<=n/\NAt u' i.2.1 (X.take i.1)/\Bag m' (oN (.slice i.2.2.1 i.1 i.2.2.2) i.2.1::i.2.1.map C3)) (fun i=>n-i.1) (0,[],(none,0))
  ⟨A1t _,⟨rfl,fun i r h=>by simp at h⟩,PH.mt,Af.nil _ _ _,trivial⟩ ?_
 rintro J ⟨i,t,⟨ra,rc⟩⟩ hJ u2 m2 l2 ⟨hi,L,C⟩;simp only at hi L C hJ;have I:t.length=i:=by rw[L.1,A1e];omega
 by_cases Y:i<n
 ·refine G.lT i n ?_;have a9:X[i]?=some X[i]:=A01 oV;have ak:X[i].length=w:=by have:=hX.2 i Y;rwa[Xj oV]at this
  obtain⟨b,o,e,rfl,h3,f3⟩:=LP.at (hM.mono (l1.trans l2)) a9;obtain⟨es,W,U⟩:=f3;obtain⟨a4,c4,rfl⟩:=W.opn;have a3:es.length=w:=by rw[U.1,ak]
  rw[a3]at W h3;refine G.N n c Y h3<|G.appendZ 141 2 32 (.agg #[zL,zN]) es a4 w c4 kV rfl rfl oV W U.ok2 a3 oV oV ?_;intro F H m5 aa;refine G.B 190 1 24 zN [.slice F w H] (B5 _ _ _) ?_;intro g6 u6 l6 e6;have ad:Bag m5 (C3 (.slice F w H,es)::oN (.slice ra i rc) t::t.map C3):=⟨m2,aa,C⟩;obtain⟨m0,a8,a6⟩:=ad.focus 1 rfl;rw[Akm]at a8;refine G.k 190 1 24 zN m0 (t.map (·.1)) [.slice F w H] (.slice ra i rc) g6 0 1 1 a8 e6 (B5 _ _ _) ?_;intro v7 m7 Q;obtain⟨a7,c7,rfl⟩:=Q.shape;have e7:t.map (·.1)++[Value.slice F w H]=(t++[(Value.slice F w H,es)]).map (·.1):=mV
  rw[e7]at Q⊢;have el:((t++[(Value.slice F w H,es)]).map (·.1)).length=i+1:=by simp[I]
  rw[el]at Q⊢;have ae:=a6 (oN (.slice a7 (i+1) c7) (t++[(Value.slice F w H,es)])) m7 Q;have af:Bag m7 (oN (.slice a7 (i+1) c7) (t++[(Value.slice F w H,es)])::(t++[(Value.slice F w H,es)]).map C3):=by
   refine Bag.perm ?_ ae;rw[A1i];exact (List.Perm.swap _ _ _).trans (List.Perm.cons _ (A5r (l₁:=[C3 (Value.slice F w H,es)])))
  refine G.i i<|G.b (hJ (i+1,t++[(Value.slice F w H,es)],(a7,c7)) _ _ _ cV (l2.trans l6) ⟨dV,?_,af⟩ dV);dsimp only;rw[A1n,a9];exact (L.mono l6).snoc (q:=X[i]) (U.mono fun _ _ k=>k.mono l6)
 obtain rfl:i=n:=oV
 rw[A1j oV]at L;refine G.lF i i ?_;obtain⟨go,co,eo⟩:=C.ptr 0 rfl (by intro e;simp only[oN,A6c]at e;rw[e]at I;simp at I;omega);simp only[oN,A03,I,Value.slice.injEq,true_and]at eo;obtain⟨rfl,rfl⟩:=eo;clear hJ;refine G.pub 1002 192 (E9 (zG go i rc) zN f1 false) kV kV ?_;intro g ap ag;have a2:Bag (m2.upd g (.cells (E9 (zG go i rc) zN f1 false).toArray 192 (0,0))) (Jv g (E9 (zG go i rc) zN f1 false)::Np zN []::oN (zG go i rc) t::t.map C3) :=
  ⟨m2,Ae9 ag,m2,Af.nil _ _ _,C⟩
 refine G.l (ι:=Nat×List (Value×zV)×(zP×Nat)×N3×BZ) (fun i=>[(1,iV j),(4,.p 0 0),(5,.v (.pointer (zA g))),(8,iV i.1)])
  (fun i=>[(0,⟨192,[sN,sN,bF,sN,bF]⟩)])
  (fun k u' m'=>k.1<=j/\Fm i (j-k.1) k.1 k.2.2.2.2=Fm i j 0 ⟨X,[],1,false⟩/\E8 i w k.2.2.2.2.X/\SzZ k.2.2.2.2.X (zs E k.1)/\nl k.2.2.2.2.v.natAbs<=zs E k.1/\k.2.2.2.2.v≠0/\k.2.2.2.2.P.length<=i/\NAt u' k.2.1 k.2.2.2.2.X/\Bi u' (nv k.2.2.2.1) k.2.2.2.2.v /\
   Bag m' (Jv g (E9 (zG go i rc) (.slice k.2.2.1.1 k.2.2.2.2.P.length k.2.2.1.2) k.2.2.2.1 k.2.2.2.2.odd)::Np (.slice k.2.2.1.1 k.2.2.2.2.P.length k.2.2.1.2) k.2.2.2.2.P::oN (zG go i rc) k.2.1::k.2.1.map C3)) (fun k=>j-k.1)
  (0,t,(none,0),f1,⟨X,[],1,false⟩) ⟨A1t _,rfl,hX,ai,A04 (nl1 (n:=1) oV) ab,Int.one_ne_zero,A1t _,L,k1.mono l2,a2⟩ ?_
 clear a2 C L I;rintro J ⟨k,t,⟨pa,pc⟩,f,s⟩ hJ u3 m3 l3 ⟨hk,R,hR,hS,a0,Z,T,L,hv,C⟩;simp only at hk R hR hS a0 Z T L hv C hJ;by_cases Y:k<j
 ·refine G.lT k j ?_;have hz:zs E (k+1)<=1000000000:=A04 (Aqf E (show k+1<=j by omega)) hE;have aq:zs E (k+1)=2*zs E k+2:=rfl;obtain⟨q1,q2,q3,q4,q5⟩:=Al2 (c:=k) hS a0 hR T;refine G.A call194 (Ax8 (c:=k) (E:=zs E k) hR hn hw oV T h0 hS hv a0 Z oV L C) ?_;rintro v4 u4 m4 l4 ⟨rfl,al,am,f',a1,ac,aj,V⟩ _;rw[By];refine G.i k<|G.b (hJ (k+1,a1,(al,am),f',I0 i k s) _ _ _ cV (l3.trans l4) ⟨dV,?_,q3,q1.mono dV,A04 q2 dV,q5 Z,q4,ac,aj,V⟩ dV);dsimp only;obtain⟨K,hK⟩:∃ K,j-k=K+1:=⟨j-k-1,oV⟩;rw[<-R,hK,Fm,show j-(k+1)=K by omega]
 obtain rfl:k=j:=oV
 refine G.lF k k ?_;rw[A4i,Fm]at R;rw[<-R];refine G.v (some 5) (Ata C rfl rfl)<|G.giveP (ma:=m3) (sm:=PH.mt) kV (by funext g;unfold PH.or;cases m3 g<;>rfl) (fun g=>.inr rfl) (fun g=>.inl rfl) ?_
 intro u6 l6 ah;exact G.r (.agg #[zG go i rc,.slice pa s.P.length pc,.bool f.b,.slice f.a f.n f.c,.bool s.odd]) ⟨rfl,_,rc,pa,pc,f,rfl,Agf C (L.mono l6) ah,hv.mono l6⟩
end
def Akc {u:PH}{v:Value}{A:zM}{L:Nat}(h:C7 u v (Cv A))(hT:∀ r∈A,∀ q∈r,Tx q)(hl:A.length<=1000000)(ak:∀ r∈A,r.length<=1000000)(hL:∀ r∈A,∀ q∈r,q.den ∣ L)(bf:0<L)(bg:nl L<=1000000000) :
 Ag prog 120 [v] u PH.mt fun v' W m'=>∃ D f a5 c5 V,0<D/\D ∣ L/\(∀ r∈A,∀ q∈r,q.den ∣ D)/\v'=.agg #[.bool f.b,.slice f.a f.n f.c,.slice a5 A.length c5]/\Bi W (nv f) (D:Int)/\NAt W V (A.map (Bp D))/\Bag m' (oN (.slice a5 A.length c5) V::V.map C3):=by
 obtain⟨a,c,rfl⟩:=h.opn;rw[A3]at h⊢;have ah:∀ D:Nat,D ∣ L->nl (D:Int).natAbs<=1000000000:=fun D X=>A04 (C4 (A48 bf X)) bg;refine Ag.o func120<|G.c call121 (Kf (z:=1) oV oV) ?_;intro v1 u1 l1 k1;obtain⟨b1,a1,n1,c1,rfl⟩:=k1.opn;refine G.l (ι:=Nat×zV×(zP×Nat×Nat)×DI)
  (fun i=>[(2,.p 0 0),(3,.p 1002 0),(4,sV i.2.2.1.1 i.2.2.1.2.1 i.2.2.1.2.2),(19,sV a A.length c),(20,iV A.length),(21,iV i.1)])
  (fun i=>[(0,⟨187,[bF,sN,sN]⟩),(1002,⟨187,[bV i.2.2.2.b,sV i.2.2.2.a i.2.2.2.n i.2.2.2.c,sN]⟩)])
  (fun i W m'=>i.1<=A.length/\AtP F6 W i.2.1 (A.take i.1)/\Af PH.mt m' (.slice i.2.2.1.1 i.2.2.1.2.1 i.2.2.1.2.2) 135 1 i.2.1/\Yd W i.2.2.2 L/\∀ r∈A.take i.1,∀ q∈r,q.den ∣ i.2.2.2.D)
  (fun i=>A.length-i.1) (0,[],(none,0,0),⟨b1,a1,n1,c1,1⟩)
  ⟨A1t _,AtP.nil,Af.nil _ _ _,⟨k1,Nat.one_pos,Ba6 _⟩,fun r P=>by simp at P⟩ ?_
 rintro J ⟨k,Kp,⟨a2,n2,c2⟩,⟨db,da,dn,dc,D⟩⟩ hJ u2 m2 l2 ⟨hk,hF,hA,X,a0⟩;simp only at hk hF hA X a0 hJ;have bm:=hF.1;rw[A1e]at bm;by_cases T:k<A.length
 ·refine G.lT k A.length ?_;have H:A[k]?=some A[k]:=A01 T;have m:=A09 T;obtain⟨ba,oa,a3,c3,rfl,e3,s3⟩:=(h.mono (l1.trans l2)).row (Dw H);rw[A03]at e3 s3;refine G.n A.length c e3<|G.c call141 (T0 s3 (hT _ m) (ak _ m)) ?_;intro v4 u4 l4 k4;obtain⟨a4,c4,rfl⟩:=k4.lp.opn;refine G.l (ι:=Nat×DI)
   (fun i=>[(2,.p 0 0),(3,.p 1002 0),(4,sV a2 n2 c2),(19,sV (some ⟨ba,oa,none⟩) A.length c),(20,iV A.length),(21,iV k),(7,sV a4 A[k].length c4),(27,sV a4 A[k].length c4),(28,iV (A[k].length)),(29,iV i.1)])
   (fun i=>[(0,⟨187,[bF,sN,sN]⟩),(1002,⟨187,[bV i.2.b,sV i.2.a i.2.n i.2.c,sN]⟩)])
   (fun i W m'=>i.1<=A[k].length/\m'=m2/\Yd W i.2 L/\(∀ r∈A.take k,∀ q∈r,q.den ∣ i.2.D)/\∀ q∈A[k].take i.1,q.den ∣ i.2.D)
   (fun i=>A[k].length-i.1) (0,⟨db,da,dn,dc,D⟩)
   ⟨A1t _,rfl,X.mono l4,a0,fun q K=>by simp at K⟩ ?_
  rintro J2 ⟨j,⟨eb,ea,en,ec,E⟩⟩ Q u5 m5 Y ⟨hj,rfl,hE,aj,a9⟩;simp only at hj hE aj a9 Q;by_cases e:j<A[k].length
  ·refine G.lT j (A[k].length:Int) ?_;have U:A[k][j]?=some A[k][j]:=A01 e;have a6:=A09 e;have aa:=hT _ m _ a6;obtain⟨b6,o6,e6,rfl,h6,f6⟩:=(k4.mono Y).lp.at U;obtain⟨x1,x2,x3,x4,x5,x6,x7,x8,rfl⟩:=f6.opn;refine G.N A[k].length c4 e h6<|G.c call189 (Sk f6) ?_;intro v7 u7 l7 k7;obtain⟨b7,a7,n7,c7,rfl⟩:=k7.opn;refine G.c call188 (Alk ((hE.mono l7).1) k7 (A04 (ah _ hE.2.2) oV) (A04 (Bd aa.den) oV) (by have:=hE.2.1;dsimp only at this⊢;omega)) ?_;intro v8 u8 l8 k8;rw[Apj]at k8;obtain⟨b8,a8,n8,c8,rfl⟩:=k8.opn;refine G.add (j:Int) 1 ((j+1:Nat):Int) kV oV oV (by have:=ak _ m;omega)<|G.b (Q (j+1,⟨b8,a8,n8,c8,Nat.lcm E A[k][j].den⟩) _ _ _ cV ((Y.trans l7).trans l8) ⟨dV,rfl,⟨k8,?_,?_⟩,?_,?_⟩ dV)
   ·have:=hE.2.1;simp only at this⊢;exact Nat.lcm_pos this (A[k][j]).den_pos
   ·exact Ba7 hE.2.2 (hL _ m _ a6)
   ·exact fun r P q K=>A74 (aj r P q K) (A78 _ _)
   intro q K;dsimp only at K⊢;rw[A1n,U]at K;rcases A1h.1 K with K|K
   ·exact A74 (a9 q K) (A78 _ _)
   simp at K;subst K;exact Nat.dvd_lcm_right _ _
  have:j=A[k].length:=oV;subst this;rw[A15]at a9;refine G.lF (A[k].length:Int) (A[k].length:Int)<|G.B 135 1 24 zN [.slice a4 A[k].length c4] (B5 _ _ _) ?_;intro g6 u6 l6 e6;refine G.append 135 1 24 zN PH.mt Kp [.slice a4 A[k].length c4] (.slice a2 n2 c2) g6 0 1 1 kV rfl rfl oV hA e6 (B5 _ _ _) rfl oV oV oV ?_;intro v7 m7 ar;obtain⟨a7,c7,rfl⟩:=ar.shape;refine G.i k<|G.b (hJ (k+1,Kp++[Value.slice a4 A[k].length c4],(a7,(Kp++[Value.slice a4 A[k].length c4]).length,c7),⟨eb,ea,en,ec,E⟩) _ _ _ cV (((l2.trans l4).trans Y).trans l6) ⟨dV,?_,ar,hE.mono l6,?_⟩ dV)
  ·dsimp only;rw[A1n,H];exact (hF.mono (fun _ _ h=>h.mono ((l4.trans Y).trans l6))).snoc (k4.mono (Y.trans l6))
  intro r P;dsimp only at P⊢;rw[A1n,H]at P;rcases A1h.1 P with P|P
  ·exact aj r P
  simp at P;subst P;exact a9
 have:k=A.length:=oV;subst this;rw[A15]at hF a0;refine G.lF A.length A.length<|G.give PH.mt Kp _ kV hA (fun _=>.inl rfl) ?_;intro u3 l3 ai;have bp:Kp.length=A.length:=by rw[hF.1]
 obtain⟨_,_,e0⟩:=ai.opn;simp only[Value.slice.injEq]at e0;obtain⟨rfl,rfl,rfl⟩:=e0;rw[bp]at ai⊢;have be:Aeq u3 (.slice a2 A.length c2) A:=⟨Kp,ai,hF.mono (fun _ _ h=>h.mono l3)⟩;refine G.l (ι:=Nat×List (Value×zV)×(zP×Nat))
  (fun i=>[(2,.p 0 0),(3,.p 1002 0),(45,sV a2 A.length c2),(46,iV A.length),(47,iV i.1)])
  (fun i=>[(0,⟨187,[bF,sN,sN]⟩),(1002,⟨187,[bV db,sV da dn dc,sV i.2.2.1 i.1 i.2.2.2]⟩)])
  (fun i W m'=>i.1<=A.length/\NAt W i.2.1 ((A.take i.1).map (Bp D))/\Bag m' (oN (.slice i.2.2.1 i.1 i.2.2.2) i.2.1::i.2.1.map C3))
  (fun i=>A.length-i.1) (0,[],(none,0))
  ⟨A1t _,⟨rfl,fun i r h=>by simp at h⟩,PH.mt,Af.nil _ _ _,trivial⟩ ?_
 rintro J2 ⟨k,I,⟨a5,c5⟩⟩ Q u5 m5 Y ⟨bo,hN,ag⟩;simp only at bo hN ag Q;have ac:=hN.1;rw[A03,A1e]at ac;by_cases T:k<A.length
 ·refine G.lT k A.length ?_;have H:A[k]?=some A[k]:=A01 T;have m:=A09 T;have cl:=ak _ m;obtain⟨b6,o6,e6,rfl,h6,f6⟩:=LP.at (be.mono Y) H;obtain⟨a7,c7,rfl⟩:=f6.lp.opn;refine G.n A.length c2 h6<|G.make 141 2 32 (.agg #[zL,zN]) A[k].length kV rfl rfl oV oV oV ?_;rintro v8 m8 au ⟨a8,rfl⟩;obtain⟨C,rfl,cj⟩:=au.some';refine G.l (ι:=Nat×zV)
   (fun i=>[(2,.p 0 0),(3,.p 1002 0),(45,sV (some ⟨b6,o6,none⟩) A.length c2),(46,iV A.length),(47,iV k),(12,sV (zA C) A[k].length A[k].length),(54,sV a7 A[k].length c7),(55,iV (A[k].length)),(56,iV i.1)])
   (fun i=>[(0,⟨187,[bF,sN,sN]⟩),(1002,⟨187,[bV db,sV da dn dc,sV a5 k c5]⟩)])
   (fun i W m'=>i.1<=A[k].length/\AtP Bi W i.2 (Bp D (A[k].take i.1))/\Af m5 m' (zG C A[k].length A[k].length) 141 2 (i.2++List.replicate (A[k].length-i.1) (.agg #[zL,zN])))
   (fun i=>A[k].length-i.1) (0,[])
   ⟨A1t _,AtP.nil,by simpa using au⟩ ?_
  rintro J3 ⟨j,done⟩ av u9 m9 l9 ⟨bn,R,Z⟩;simp only at bn R Z av;have aw:=R.1;rw[Bp,A03,A1e]at aw;by_cases e:j<A[k].length
  ·refine G.lT j (A[k].length:Int) ?_;have U:A[k][j]?=some A[k][j]:=A01 e;have a6:=A09 e;have aa:=hT _ m _ a6;have ck:=(A[k][j]).den_pos;obtain⟨bz,cr,ch,rfl,bd,af⟩:=(f6.mono l9).lp.at U;obtain⟨x1,x2,x3,x4,x5,x6,x7,x8,rfl⟩:=af.opn;refine G.N A[k].length c7 e bd<|G.c call189 (Sk af) ?_;intro cw br t az;obtain⟨c0,bt,cn,cc,rfl⟩:=az.opn;refine G.c call190 (M1 ((X.mono (((l3.trans Y).trans l9).trans t)).1) az (A04 (ah _ X.2.2) oV) (A04 (Bd aa.den) oV) oV) ?_;rintro bs cs am ⟨cx,cy,rfl,al,bq⟩;obtain⟨c6,bu,co,cd,rfl⟩:=al.opn;obtain⟨ca,bw,cp,ce,rfl⟩:=bq.opn;refine G.c call191 (Ael (af.mono (t.trans am))) ?_;intro cz ct an b0;obtain⟨cb,bx,cq,cg,rfl⟩:=b0.opn;have bl:((D:Int)/(A[k][j].den:Int))=((D/A[k][j].den:Nat):Int):=by push_cast;rfl
   rw[bl]at al;refine G.c call126 (Ea b0 (al.mono an) (A04 (Bd aa.1) oV) (by rw[A1s];exact A04 (Tk _ _) (A04 (ah _ X.2.2) oV))) ?_;intro d0 cu b3 b2;obtain⟨ap,ao,b5,aq,rfl⟩:=b2.opn;refine G.a C 0 A[k].length A[k].length j 2 e<|G.storeA 2 m5 _ C A[k].length A[k].length j (.agg #[.bool ap,.slice ao b5 aq]) kV Z gV rfl rfl ?_;intro cm ab;rw[Afh oV e]at ab;refine G.i j<|G.b (av (j+1,done++[.agg #[.bool ap,.slice ao b5 aq]]) _ _ _ cV ((((l9.trans t).trans am).trans an).trans b3) ⟨dV,?_,ab⟩ dV);dsimp only;rw[A1n,U,Bp,A1i];exact (R.mono (fun _ _ h=>h.mono (((t.trans am).trans an).trans b3))).snoc b2
  have:j=A[k].length:=oV;subst this;rw[A15]at R;rw[A4i,A42,A1x]at Z;refine G.lF (A[k].length:Int) (A[k].length:Int) ?_;have ci:done.length=A[k].length:=oV;refine G.B 190 1 24 zN [zG C A[k].length A[k].length] (B5 _ _ _) ?_;intro bb br t b9;have bj:Bag m9 (C3 (zG C A[k].length A[k].length,done)::oN (.slice a5 k c5) I::I.map C3):=⟨m5,Z,ag⟩;obtain⟨m0,ay,ax⟩:=bj.focus 1 rfl;rw[Akm]at ay;have bk:(I.map (·.1)).length=k:=by rw[A03,ac];omega
  refine G.append 190 1 24 zN m0 (I.map (·.1)) [zG C A[k].length A[k].length] (.slice a5 k c5) bb 0 1 1 kV rfl rfl oV ay b9 (B5 _ _ _) rfl oV oV oV ?_;intro bs b4 F;obtain⟨ad,ae,rfl⟩:=F.shape;have e7:I.map (·.1)++[Value.slice (zA C) A[k].length A[k].length]=(I++[(Value.slice (zA C) A[k].length A[k].length,done)]).map (·.1):=mV;rw[e7]at F⊢;have el:((I++[(Value.slice (zA C) A[k].length A[k].length,done)]).map (·.1)).length=k+1:=by rw[<-e7,A1d,bk];rfl
  rw[el]at F⊢;have bh:=ax (oN (.slice ad (k+1) ae) (I++[(Value.slice (zA C) A[k].length A[k].length,done)])) b4 F;have bi:Bag b4 (oN (.slice ad (k+1) ae) (I++[(Value.slice (zA C) A[k].length A[k].length,done)])::(I++[(Value.slice (zA C) A[k].length A[k].length,done)]).map C3):=by
   refine Bag.perm ?_ bh;rw[A1i];exact (List.Perm.swap _ _ _).trans (List.Perm.cons _ (A5r (l₁:=[C3 (Value.slice (zA C) A[k].length A[k].length,done)])))
  refine G.i k<|G.b (Q (k+1,I++[(Value.slice (zA C) A[k].length A[k].length,done)],(ad,ae)) _ _ _ cV ((Y.trans l9).trans t) ⟨dV,?_,bi⟩ dV);dsimp only;rw[A1n,H,A1i];exact (hN.mono (l9.trans t)).snoc (q:=Bp D A[k]) (R.mono (fun _ _ h=>h.mono t))
 have:k=A.length:=oV;subst this;rw[A15]at hN;exact G.lF A.length A.length<|G.r (.agg #[.bool db,.slice da dn dc,.slice a5 A.length c5]) ⟨D,⟨db,da,dn,dc⟩,a5,c5,I,X.2.1,X.2.2,a0,rfl,(X.mono (l3.trans Y)).1,hN,ag⟩
section
theorem Aem {q:Rat}{D:Nat}(h:q.den ∣ D):((q.num*((D/q.den:Nat):Int):Int):Rat)=q*(D:Rat):=by
 obtain⟨k,rfl⟩:=h;rw[Nat.mul_div_cancel_left _ q.den_pos,A3c,A7e,A2r];have e:q*(q.den:Rat)=(q.num:Rat):=by
  have e:q=(q.num:Rat)/(((q.den:Int)):Rat):=by rw[<-A37,A7h]
  have hi:=Bap _ (T4 q.den_pos);rw[A2r,A8v]at e;exact A0j e hi
 rw[<-e];grind
def Wf {D:Nat}{r:zR}{j:Nat}(e:j<r.length):gZ (Bp D r) j=(gR r j).num*((D/(gR r j).den:Nat):Int):=by
 unfold Bp;rw[Ol (by simpa using e),A3v,Cu e]
def Abw {A:zM}{i:Nat}(h:i<A.length):gM A i∈A:=by rw[Ch h];exact A09 h
section
variable {A:zM} {b:zR} {D D':Nat}
def Oy (f:Nat->Int):∀ n:Nat,((Ca n f:Int):Rat)=Bb n (fun j=>(f j:Rat))
 |0=>by rw[Uk];rfl
 |n+1=>by rw[Ca,A7d,Oy f n,Ds]
end
end
section
variable {A:zM}{m u:PH}{n:Nat}
def Awb {v:Value}(h:C7 u v (Cv A))(e:Sq A):zF 118 [v] u fun j _=>j=zO:=by
 obtain⟨a,c,rfl⟩:=h.opn;refine Fn0.o func118<|G.c call186 (Adf h e) ?_;rintro E C t rfl;exact G.eT' 0 0 rfl<|G.nF A.length A.length<|G.z zO
structure Th (q:Rat):Prop where
 tx:Tx q
 den:q.den ∣ 21600
 num:q.num.natAbs<=3000000000000
def Awy (h:n<100000000000000000):Lib.nDigits n<=17:=Cz (k:=17) oV oV
def Asd (hT:∀ r∈A,∀ q∈r,Th q):Y5 A 21600 17 where
 den:=fun r j q h=>(hT r j q h).den
 pos:=oV
 nl:=A04 (nlM oV) oV
 dig:=fun D E h0=>by
  have e:D<=21600:=A48 oV E;refine⟨Awy oV,fun r j q h F=>Awy ?_⟩;rw[A26,A1s];have t:=(hT r j q h).num;have C:D/q.den<=21600:=A04 (A3u _ _) e;have:=A25 t C;omega
def Aow {n w E:Nat}:∀ (f c:Nat) (s:BZ),SzZ s.X (zs E c)->nl s.v.natAbs<=zs E c->E8 n w s.X->s.P.length<=n->SzZ (Fm n f c s).X (zs E (c+f))/\nl (Fm n f c s).v.natAbs<=zs E (c+f)
 |0,c,s,h1,h2,_,_=>⟨h1,h2⟩
 |f+1,c,s,h1,h2,h3,h4=>by
  obtain⟨e,h,j,t,_⟩:=Al2 (c:=c) h1 h2 h3 h4;have C:zs E (c+1)=2*zs E c+2:=rfl;have:=Aow (E:=E) f (c+1) (I0 n c s) (e.mono oV) (A04 h oV) j t;unfold Fm;rw[show c+(f+1)=c+1+f by omega];exact this
def Az1 (h:n<=12):zs 2 n<=1000000000:=A04 (Aqf 2 h) fV
def Aus {l:List Arr}(h:Bag m l):Bag m (Np zN []::Np zN []::l):=⟨m,Af.nil _ _ _,m,Af.nil _ _ _,h⟩
def Am1 {n c:Nat}{a:zP}{e:List (Value×zV)}{X:List (List Int)}(h:Bag m (oN (.slice a n c) e::e.map C3))(j:NAt u e X)(t:PH.le m u):Nl u (.slice a n c) X:=Agf (Aus h) j t
end
section
variable [Cl] [Co]
section
variable {P:Program} {fn:Func} {Post:Ce}
def S.put4 (s:S)(d1 d2 d3 d4:Nat)(x1 x2 x3 x4:SV):S:=(((s.put (some d1) x1).put (some d2) x2).put (some d3) x3).put (some d4) x4
def I6 (s:S)(d1 d2 d3 d4:Nat)(x1 x2 x3 x4:SV)(t:Nat):(s.put4 d1 d2 d3 d4 x1 x2 x3 x4).tm t=if t=d4 then x4 else if t=d3 then x3 else if t=d2 then x2 else if t=d1 then x1 else s.tm t:=by
 unfold S.put4;have key:∀ (s:S) (d:Nat) (x:SV),(s.put (some d) x).tm t=if t=d then x else s.tm t:=fun s d x=>by
  by_cases e:t=d
  ·subst e;rw[Az,if_pos rfl]
  rw[Ct _ _ _ e,if_neg e]
 rw[key,key,key,key]
theorem Aos (s:S)(d1 d2 d3 d4:Nat):s=s.put4 d1 d2 d3 d4 (s.tm d1) (s.tm d2) (s.tm d3) (s.tm d4):=by
 refine S.ext' rfl (funext fun t=>?_) rfl;rw[I6];split
 ·grind
 grind
section
variable {s:S} {d1 d2 d3 d4:Nat} {x1 x2 x3 x4 y:SV} (h:d1≠d2/\d1≠d3/\d1≠d4/\d2≠d3/\d2≠d4/\d3≠d4)
include h
def Axl:(s.put4 d1 d2 d3 d4 x1 x2 x3 x4).put (some d1) y=s.put4 d1 d2 d3 d4 y x2 x3 x4:=by
 refine S.ext' rfl (funext fun t=>?_) rfl;rw[I6];by_cases e:t=d1
 ·subst e;rw[Az,if_neg h.2.2.1,if_neg h.2.1,if_neg h.1,if_pos rfl]
 rw[Ct _ _ _ e,I6,if_neg e,if_neg e]
def Ax4:(s.put4 d1 d2 d3 d4 x1 x2 x3 x4).put (some d2) y=s.put4 d1 d2 d3 d4 x1 y x3 x4:=by
 refine S.ext' rfl (funext fun t=>?_) rfl;rw[I6];by_cases e:t=d2
 ·subst e;rw[Az,if_neg h.2.2.2.2.1,if_neg h.2.2.2.1,if_pos rfl]
 rw[Ct _ _ _ e,I6,if_neg e,if_neg e]
def Axd:(s.put4 d1 d2 d3 d4 x1 x2 x3 x4).put (some d3) y=s.put4 d1 d2 d3 d4 x1 x2 y x4:=by
 refine S.ext' rfl (funext fun t=>?_) rfl;rw[I6];by_cases e:t=d3
 ·subst e;rw[Az,if_neg h.2.2.2.2.2,if_pos rfl]
 rw[Ct _ _ _ e,I6,if_neg e,if_neg e]
def Axt:(s.put4 d1 d2 d3 d4 x1 x2 x3 x4).put (some d4) y=s.put4 d1 d2 d3 d4 x1 x2 x3 y:=by
 refine S.ext' rfl (funext fun t=>?_) rfl;rw[I6];by_cases e:t=d4
 ·subst e;rw[Az,if_pos rfl]
 rw[Ct _ _ _ e,I6,if_neg e,if_neg e]
end
theorem Ob.layM {P:Program}[A6 P]{id:Nat}{F:Array Oper}{H:S->PH->PH->Prop}{a d:Nat}{kk:List KI}{s:S}{u m:PH}(e:TypeId)(sz bt:Nat)(z:Value)(es:zV)
 (h:Aj P (.reg id F true [a]::kk,s)=.buildS (some (e,sz,bt,z)) es.length (es.zipIdx.map fun p=>(p.2,p.1))) (hd:(F[a]?).bind (·.dst)=some d) (L:A9 sz es) (a9:z.cells.size=sz) (a2:0<sz) (Z:0<es.length) (hb:es.length*sz<=16777216)
 (k:∀ g E,Af m E (zG g es.length es.length) e sz es->H (s.put (some d) (.v (zG g es.length es.length))) u E):Ob P id F true H [a] s u m:=by
 obtain⟨aa,a3,a5,i',l',ab,ad,o,J,a1,hg,U,hv,hs,C,a8⟩:=Eq h mV;obtain⟨⟨⟨rfl,rfl,rfl,rfl,rfl⟩,rfl⟩,rfl⟩:=J;have I:o.dst=some d:=by grind
 refine Ob.big (K:=fun v' u' E=>u'=u/\PH.le m E/\∃ g,v'=zG g es.length es.length/\Af m E (zG g es.length es.length) e sz es) a1 hg U hv hs (by
  obtain⟨t,qs,Q,_⟩:=En C;rw[Q];rfl) (fun v u' E T=>.inl T.2.1) (fun w W=>?_) (fun v u' E a7 T=>?_)
 ·obtain⟨t,qs,J,Q,hi⟩:=En C;obtain⟨a6,ac,a4,pos,after,R⟩:=o;simp only at J;subst J;obtain⟨hu,i,X,Y,rfl,rfl⟩:=D4 hi;obtain⟨g1,g2,g3,g4⟩:=W.newM (cs:=(A2 es).toArray) (t:=e) (by simpa using Fu L);have V:=Ba L;have a0:es.length*i.size≠0:=by have:=A51 Z a2;omega
  have j:=Sn es 0 ((Array.range (es.length*i.size)).map (z.cells[· % z.cells.size]!)) L mV;have e0:((Array.range (es.length*i.size)).map (z.cells[· % z.cells.size]!)).toList.drop (es.length*i.size) = []:=mV;simp only[A2w,e0]at j;refine B8 (w':=w.alloc (.cells (A2 es).toArray e (0,0))) (v:=.slice (some ⟨w.heap.size,0,none⟩) es.length es.length) ?_ ⟨u,_,g1,g2,rfl,Jw _ g3,_,rfl,L,.inr ⟨w.heap.size,es.length,[],g3,by rw[A1x],rfl,A08 _,by rw[A1x,V],mV⟩⟩;simp only[execOp,Q];simp[Instr.buildSlice,run_underlying hu,sizeOf,typeInfo,zeroValue,X,Y,a0,j,newRow,show ¬ 16777216<es.length*i.size by omega]
 obtain⟨rfl,_,g,rfl,hA⟩:=T;rw[I];exact .nil (k g E hA)
theorem Ob.callV {P:Program}[A6 P]{V:Nat}{C:Array Oper}{E:S->PH->PH->Prop}{a d:Nat}{kk:List KI}{s:S}{u m:PH}(f:Nat)(args:zV){R:Value->PH->Prop}
 (h:Aj P (.reg V C true [a]::kk,s)=.call f args) (hd:(C[a]?).bind (·.dst)=some d) (hc:∀ args w,(callFunc f args).run P w=.ok (.enter f args) w) (c:Fn0 P f args u R)
 (k:∀ v t,PH.le u t->R v t->E (s.put (some d) (.v v)) t m):Ob P V C true E [a] s u m:=by
 obtain⟨a1,W,X,i',l',a2,a3,o,J,U,hg,Q,hv,hs,j,a0⟩:=Eq h mV;obtain⟨⟨⟨rfl,rfl,rfl,rfl,rfl⟩,rfl⟩,rfl⟩:=J;have F:o.dst=some d:=by grind
 refine Ob.big (K:=fun v' t I=>I=m/\R v' t) U hg Q hv hs (Dv _ _ j) (fun v t I L=>.inl (by rw[L.1];exact PH.le_refl _)) (fun w H=>?_) (fun v t I T L=>?_)
 ·refine Hq j hc w _ ?_;refine (c w H.noM).mono fun e w' he=>?_;obtain⟨v,t,I,J,Y,Z,rfl,e4⟩:=he;obtain⟨g1,g2⟩:=H.frame Y Z;exact⟨v,J,t,m,g1,g2,rfl,e4⟩
 obtain⟨rfl,hR⟩:=L;rw[F];exact .nil (k v t T hR)
end
def Ahj (P:Program)(pre l:zK)(d1 d2 d3 d4:Nat)(x1 x2 x3 x4:SV)(st:List KI×S):List KI×S:=match st with
 |(.code (.region id ops true)::k,s)=>match Ru P id ops pre s with
  |some s'=>(.reg id ops true l::k,s'.put4 d1 d2 d3 d4 x1 x2 x3 x4)
  |none=>st
 |_=>st
def Azj (P:Program)(pre:zK)(q1 q2 r1 r2:Nat)(post:zK)(d1 d2 d3 d4:Nat)(st:List KI×S):Bool:=match st with
 |(.code (.region _ ops true)::_,s)=>Alo ops s pre [q1,q2,r1,r2] post&&(match st.1 with|.code (.region id ops _)::_=>(Ru P id ops pre s).isSome|_=>false)&&bef ops ops.size q2 q1&&bef ops ops.size r2 r1 &&
  decide ((ops[q1]?).bind (·.dst)=some d1/\(ops[q2]?).bind (·.dst)=some d2/\(ops[r1]?).bind (·.dst)=some d3/\(ops[r2]?).bind (·.dst)=some d4)&&decide (d1≠d2/\d1≠d3/\d1≠d4/\d2≠d3/\d2≠d4/\d3≠d4)&&decide ([q1,q2,r1,r2].Nodup)
 |_=>false
structure Lay where
 e:TypeId
 sz:Nat
 bt:Nat
 z:Value
 es:zV
structure Asm (L:Lay):Prop where
 ho:A9 L.sz L.es
 hzs:L.z.cells.size=L.sz
 hsz:0<L.sz
 hn0:0<L.es.length
 hb:L.es.length*L.sz<=16777216
def Lay.stop (L:Lay):Vm:=.buildS (some (L.e,L.sz,L.bt,L.z)) L.es.length (L.es.zipIdx.map fun p=>(p.2,p.1))
def Lay.v (L:Lay)(g:Nat):Value:=zG g L.es.length L.es.length
def Lay.arr (L:Lay)(g:Nat):Arr:=⟨L.v g,L.e,L.sz,L.es⟩
section rules
variable {P:Program} [A6 P] {fn:Func} {Post:Ce} {st:List KI×S} {u m:PH}
theorem G.fan (pre:zK)(q1 q2 r1 r2:Nat)(C:zK)(d1 d2 d3 d4:Nat)(E:Lay)(Q:Nat->Lay)(L:Lay)(V:Value)(f:Nat)(args:zV)(h:Azj P pre q1 q2 r1 r2 C d1 d2 d3 d4 (adv P st)=true)
 (H1:∀ x1 x2 x3 x4,Aj P (Ahj P pre [q1] d1 d2 d3 d4 x1 x2 x3 x4 (adv P st))=E.stop) (o1:Asm E)
 (H2:∀ g x2 x3 x4,Aj P (Ahj P pre [q2] d1 d2 d3 d4 (.v (E.v g)) x2 x3 x4 (adv P st))=(Q g).stop) (o2:∀ g,Asm (Q g))
 (H3:∀ x1 x2 x3 x4,Aj P (Ahj P pre [r1] d1 d2 d3 d4 x1 x2 x3 x4 (adv P st))=.call f args) (hc:∀ args w,(callFunc f args).run P w=.ok (.enter f args) w) (c:∀ t,PH.le u t->Fn0 P f args t fun v _=>v=V)
 (H4:∀ x1 x2 x4,Aj P (Ahj P pre [r2] d1 d2 d3 d4 x1 x2 (.v V) x4 (adv P st))=L.stop) (o4:Asm L)
 (k:∀ g1 g2 R t j,PH.le u t->Bag j [L.arr R,(Q g1).arr g2,E.arr g1]->G P fn Post (Ahj P pre C d1 d2 d3 d4 (.v (E.v g1)) (.v ((Q g1).v g2)) (.v V) (.v (L.v R)) (adv P st)) t j):G P fn Post st u m:=by
 refine G.stp ⟨?_⟩;generalize adv P st=st' at h H1 H2 H3 H4 k;unfold Azj at h;split at h
 ·rename_i id ops kk s;simp only[A1m]at h;obtain⟨⟨⟨⟨⟨⟨h1,h2⟩,hq⟩,hr⟩,hd⟩,U⟩,a2⟩:=h;obtain⟨J,a7⟩:=A6a.1 h2;obtain⟨e1,e2,e3,e4⟩:=of_decide_eq_true hd;have U:=of_decide_eq_true U;have a2:=of_decide_eq_true a2;simp only[A4j,A1g,A11,or_false,not_or,not_false_eq_true,List.nodup_nil,and_true]at a2;obtain⟨⟨ai,af,ag⟩,⟨a8,a9⟩,ah⟩:=a2;have e0:∀ l x1 x2 x3 x4,Ahj P pre l d1 d2 d3 d4 x1 x2 x3 x4 (.code (.region id ops true)::kk,s)=(.reg id ops true l::kk,J.put4 d1 d2 d3 d4 x1 x2 x3 x4):=fun l x1 x2 x3 x4=>by unfold Ahj;simp only[a7]
  simp only[e0]at H1 H2 H3 H4 k;refine Sym.reg_tree A6.mx h1 (Ob.autos a7 ?_);rw[Aos J d1 d2 d3 d4];generalize J.tm d1=x1;generalize J.tm d2=x2;generalize J.tm d3=x3;generalize J.tm d4=x4;have Y:∀ {Fin x1 x2 x3 x4 u m},(∀ g j,(E.arr g).At m j->Fin (J.put4 d1 d2 d3 d4 (.v (E.v g)) x2 x3 x4) u j)->Ob P id ops true Fin [q1] (J.put4 d1 d2 d3 d4 x1 x2 x3 x4) u m:=fun {Fin x1 x2 x3 x4 u m} hk =>
   Ob.layM E.e E.sz E.bt E.z E.es (H1 x1 x2 x3 x4) e1 o1.ho o1.hzs o1.hsz o1.hn0 o1.hb fun g j F=>by rw[Axl U];exact hk g j F
  have Z:∀ {Fin g1 x2 x3 x4 u m},(∀ g j,((Q g1).arr g).At m j->Fin (J.put4 d1 d2 d3 d4 (.v (E.v g1)) (.v ((Q g1).v g)) x3 x4) u j)->Ob P id ops true Fin [q2] (J.put4 d1 d2 d3 d4 (.v (E.v g1)) x2 x3 x4) u m:=fun {Fin g1 x2 x3 x4 u m} hk =>
   Ob.layM (Q g1).e (Q g1).sz (Q g1).bt (Q g1).z (Q g1).es (H2 g1 x2 x3 x4) e2 (o2 g1).ho (o2 g1).hzs (o2 g1).hsz (o2 g1).hn0 (o2 g1).hb fun g j F=>by rw[Ax4 U];exact hk g j F
  have a4:∀ {Fin x1 x2 x3 x4 m} (u1:PH),PH.le u u1->(∀ t,PH.le u1 t->Fin (J.put4 d1 d2 d3 d4 x1 x2 (.v V) x4) t m)->Ob P id ops true Fin [r1] (J.put4 d1 d2 d3 d4 x1 x2 x3 x4) u1 m:=fun {Fin x1 x2 x3 x4 m} u1 hle hk =>
   Ob.callV f args (H3 x1 x2 x3 x4) e3 hc (c u1 hle) fun v t I hv=>by rw[Axd U,hv];exact hk t I
  have a0:∀ {Fin x1 x2 x4 u m},(∀ g j,(L.arr g).At m j->Fin (J.put4 d1 d2 d3 d4 x1 x2 (.v V) (.v (L.v g))) u j)->Ob P id ops true Fin [r2] (J.put4 d1 d2 d3 d4 x1 x2 (.v V) x4) u m:=fun {Fin x1 x2 x4 u m} hk =>
   Ob.layM L.e L.sz L.bt L.z L.es (H4 x1 x2 x4) e4 o4.ho o4.hzs o4.hsz o4.hn0 o4.hb fun g j F=>by rw[Axt U];exact hk g j F
  have a3:∀ {g1 g2 R t j},PH.le u t->Bag j [L.arr R,(Q g1).arr g2,E.arr g1]->Qh P id ops C (Hm P fn Post kk) 0 [] (J.put4 d1 d2 d3 d4 (.v (E.v g1)) (.v ((Q g1).v g2)) (.v V) (.v (L.v R))) t j:=fun I T=>(k _ _ _ _ _ I T).out;have ad:∀ {g1 g2 x4 t j},PH.le u t->Bag j [(Q g1).arr g2,E.arr g1]->Qh P id ops C (Hm P fn Post kk) 1 [r2] (J.put4 d1 d2 d3 d4 (.v (E.v g1)) (.v ((Q g1).v g2)) (.v V) x4) t j:=fun {g1 g2 x4 t j} I T a H _=>by
   simp only[A1g,A11,or_false]at H;subst H;rw[A3a];exact a0 fun g K F=>a3 I ⟨j,F,T⟩
  have aa:∀ {g1 R x2 t j},PH.le u t->Bag j [L.arr R,E.arr g1]->Qh P id ops C (Hm P fn Post kk) 1 [q2] (J.put4 d1 d2 d3 d4 (.v (E.v g1)) x2 (.v V) (.v (L.v R))) t j:=fun {g1 R x2 t j} I T a H _=>by
   simp only[A1g,A11,or_false]at H;subst H;rw[A3a];exact Z fun g K F=>a3 I (Bag.perm (List.Perm.swap _ _ _) (show Bag K [(Q g1).arr g,L.arr R,E.arr g1] from⟨j,F,T⟩))
  have a1:∀ {g1 x2 x4 t j},PH.le u t->Bag j [E.arr g1]->Qh P id ops C (Hm P fn Post kk) 2 [q2,r2] (J.put4 d1 d2 d3 d4 (.v (E.v g1)) x2 (.v V) x4) t j:=fun {g1 x2 x4 t j} I T a H _=>by
   simp only[A1g,A11,or_false]at H;rcases H with rfl|rfl
   ·rw[A3a];exact Z fun g K F=>ad I ⟨j,F,T⟩
   rw[A5e (by simpa using a9),A3a];exact a0 fun g K F=>aa I ⟨j,F,T⟩
  have a6:∀ {g1 g2 x3 x4 t j},PH.le u t->Bag j [(Q g1).arr g2,E.arr g1]->Qh P id ops C (Hm P fn Post kk) 2 [r1,r2] (J.put4 d1 d2 d3 d4 (.v (E.v g1)) (.v ((Q g1).v g2)) x3 x4) t j:=fun {g1 g2 x3 x4 t j} I T a H W=>by
   simp only[A1g,A11,or_false]at H;rcases H with rfl|rfl
   ·rw[A3a];exact a4 _ I fun ae X=>ad (I.trans X) T
   have:=W r1 mV ah;rw[hr]at this;cases this
  have a5:∀ {R x1 x2 t j},PH.le u t->Bag j [L.arr R]->Qh P id ops C (Hm P fn Post kk) 2 [q1,q2] (J.put4 d1 d2 d3 d4 x1 x2 (.v V) (.v (L.v R))) t j:=fun {R x1 x2 t j} I T a H W=>by
   simp only[A1g,A11,or_false]at H;rcases H with rfl|rfl
   ·rw[A3a];exact Y fun g K F=>aa I (Bag.perm (List.Perm.swap _ _ _) (show Bag K [E.arr g,L.arr R] from⟨j,F,T⟩))
   grind
  have ab:∀ {g1 x2 x3 x4 t j},PH.le u t->Bag j [E.arr g1]->Qh P id ops C (Hm P fn Post kk) 3 [q2,r1,r2] (J.put4 d1 d2 d3 d4 (.v (E.v g1)) x2 x3 x4) t j:=fun {g1 x2 x3 x4 t j} I T a H W=>by
   simp only[A1g,A11,or_false]at H;rcases H with rfl|rfl|rfl
   ·rw[A3a];exact Z fun g K F=>a6 I ⟨j,F,T⟩
   ·rw[A5e (by simpa using a8),A3a];exact a4 _ I fun ae X=>a1 (I.trans X) T
   grind
  have ac:∀ {x1 x2 x4 t j},PH.le u t->Qh P id ops C (Hm P fn Post kk) 3 [q1,q2,r2] (J.put4 d1 d2 d3 d4 x1 x2 (.v V) x4) t j:=fun {x1 x2 x4 t j} I a H W=>by
   simp only[A1g,A11,or_false]at H;rcases H with rfl|rfl|rfl
   ·rw[A3a];exact Y fun g K F=>a1 I ⟨j,F,trivial⟩
   ·grind
   rw[A5e (by simpa using ag),A5e (by simpa using a9),A3a];exact a0 fun g K F=>a5 I ⟨j,F,trivial⟩
  intro a H W;simp only[A1g,A11,or_false]at H;rcases H with rfl|rfl|rfl|rfl
  ·rw[A3a];exact Y fun g K F=>ab (PH.le_refl _) ⟨m,F,trivial⟩
  ·grind
  ·rw[A5e (by simpa using af),A5e (by simpa using a8),A3a];exact a4 _ (PH.le_refl _) fun ae X=>ac X
  grind
 cases h
end rules
end
section
structure Aam (u:PH)(v cv:Value)(T:zC)(R:List Br)(F:List Al)(lab:Int)(C:CF)(K k:Nat):Prop where
 sch:H5 u v T R F lab
 ok:Bl u T R F lab
 cof:No u cv C K
 sC:CFS C
 vC:CFV C
 K:K<=10000
 bel:∀ p,C.s p≠0->Adm F lab p
 mom:Ai6 C k
 p24:∀ P,Nn F C P->P.length<=24
 lab0:0<=lab
section
variable {u:PH} {v cv:Value} {T:zC} {R:List Br} {F:List Al} {lab:Int} {C:CF} {K k:Nat} {P:List Par}
def Yo (C:CF)(P:List Par)(i:Nat):zM:=((An P).take (i+1)).map (As C none)::(P.take i).map fun p=>(An P).map (As C (some p))
def An3:Yo C P P.length=Lh C P:=by
 unfold Yo Lh;rw[show (An P).take (P.length+1)=An P by rw[A1j (by rw[Cp];omega)],A15]
 conv=>rhs;rw[show An P=none::P.map some from rfl]
 rw[A2u,A9h];rfl
def Ajb (h:Aam u v cv T R F lab C K k) :
 Ag prog 184 [v,cv] u PH.mt fun r u' m'=>∃ (P:List Par) (pa:zP) (pc:Nat) (xa:zP) (xc:Nat) (ra:zP) (rc:Nat) (E:List (Value×zV)),Nn F C P /\
  r=.tuple #[.agg #[.slice pa P.length pc,.slice xa (P.length+1) xc,.slice ra (P.length+1) rc],zO]/\Ac u' (.slice pa P.length pc) 2 (P.map Ap)/\E.map (·.2)=(Lh C P).map txV /\
  Bag m' (Bu (.slice ra (P.length+1) rc,txV ((An P).map (Bh C)))::oT (.slice xa (P.length+1) xc) E::E.map Bu):=by
 have b6:=Ahd h.sch h.ok h.cof h.sC h.vC (A04 h.K oV) h.bel;have ap:=h.p24;have hK:=h.K;have ci:=h.lab0;have hS:=fun (u':PH) (l:PH.le u u') (p:Par)=>A0d p (h.cof.mono l) oV;have hQ:=fun (u':PH) (l:PH.le u u') (p q:Par)=>Afd p q (h.cof.mono l) oV;obtain⟨xa,xc,xb,xd,xe,xf,rfl,_⟩:=id h.sch;obtain⟨a1,n1,c1,a2,n2,c2,rfl⟩:=id h.cof.opn;refine Ag.o func184<|G.c call232 b6 ?_;intro v1 u1 l1 hp;obtain⟨ps,P,rfl,hL,_,a5⟩:=hp.resolve_left fun⟨_,L,h1,a5⟩=>by have:=ap L a5;omega
 have ch:=ap P a5;have cj:=Cp P;obtain⟨pa,pc,rfl⟩:=hL.opn;rw[A03]at hL⊢;refine G.nF 0 0<|G.lF lab 0<|G.fan [0,1,2,5,6,10] 3 4 7 8 [9,11] 33 34 37 38 ⟨34,1,16,zE,[zS (Ae C.c)]⟩ (fun g=>⟨46,1,24,zN,[zG g 1 1]⟩) ⟨34,1,16,zE,[zS (Ae (C.s B7))]⟩ (zS (Ae (C.s B7))) _ _ kV
  (fun _ _ _ _=>kV) ⟨E7 _,rfl,Nat.one_pos,Nat.one_pos,mV⟩ (fun _ _ _ _=>kV) (fun _=>⟨B5 _ _ _,rfl,Nat.one_pos,Nat.one_pos,mV⟩) (fun _ _ _ _=>kV) call233 (fun u' l=>hS u' (l1.trans l) B7) (fun _ _ _=>kV) ⟨E7 _,rfl,Nat.one_pos,Nat.one_pos,mV⟩ ?_
 intro g3 g4 g5 u2 m5 l2 ay;refine G.l (ι:=Nat×(zP×Nat)×(zP×Nat)×List (Value×zV)) (fun i=>[(3,.p 1 0),(4,.p 2 0),(6,sV pa P.length pc),(8,.p 6001 0),(9,.p 7010 0),(40,sV pa P.length pc),(41,iV P.length),(42,iV i.1)])
  (fun i=>[(1,⟨38,[tV (Ae C.c),sV a1 n1 c1,sV a2 n2 c2]⟩),(2,⟨57,[sN,sN,sN]⟩),(6001,⟨118,[iV (-1),tV []]⟩),
   (7010,⟨57,[.v (.slice pa P.length pc),.v (.slice i.2.1.1 (i.1+1) i.2.1.2),.v (.slice i.2.2.1.1 (i.1+1) i.2.2.1.2)]⟩)])
  (fun i u' m'=>i.1<=P.length/\i.2.2.2.map (·.2)=(Yo C P i.1).map txV/\Bag m' (Bu (.slice i.2.2.1.1 (i.1+1) i.2.2.1.2,txV (((An P).take (i.1+1)).map (Bh C)))::oT (.slice i.2.1.1 (i.1+1) i.2.1.2) i.2.2.2::i.2.2.2.map Bu)) (fun i=>P.length-i.1)
  (0,(some ⟨g4,0,none⟩,1),(some ⟨g5,0,none⟩,1),[(zG g3 1 1,txV [C.c])])
  ⟨oV,by unfold Yo An;rfl,ay⟩ ?_
 clear ay;rintro J ⟨i,⟨ya,W⟩,⟨ra,rc⟩,E⟩ hJ u5 m5 l5 ⟨hi,H,I⟩;simp only at hi H I hJ;have bg:=(l1.trans l2).trans l5;have b8:E.length=i+1:=by have:=congrArg List.length H;rw[A03,A03]at this;rw[this];simp[Yo];omega
 by_cases b4:i<P.length
 ·refine G.lT i P.length ?_;obtain⟨p,ag⟩:∃ p,P[i]?=some p:=⟨_,A01 b4⟩;have ba:(An P).take (i+1+1)=(An P).take (i+1)++[some p]:=by rw[Ex,Ex,A1n,ag];simp
  obtain⟨bp,op,e0,ep⟩:=Ac.at' (hL.mono (l2.trans l5)) (j:=i) (e:=Ap p) (by simp[ag]);subst e0;refine G.N P.length pc b4 ep ?_;obtain⟨go,co,eo⟩:=I.ptr 1 rfl (fun e=>by
   have:(E.map (·.1)).length=0:=by rw[show E.map (·.1) = [] from e];rfl
   rw[A03]at this;omega)
  have bo:(Value.slice ya (i+1) W)=zG go (i+1) co:=by
   have e1:(oT (.slice ya (i+1) W) E).v=Value.slice ya (i+1) W:=rfl;rw[e1]at eo;rw[eo];have:(oT (.slice ya (i+1) W) E).es.length=i+1:=by show (E.map (·.1)).length=_;rw[A03,b8]
   rw[this]
  cases bo;obtain⟨⟨v0,e0⟩,a3⟩:∃ x,E[0]?=some x:=⟨_,A01 oV⟩;have bx:e0=txV (((An P).take (i+1)).map (As C none)):=by
   have h1:=congrArg (fun l=>l[0]?) H;simp only[A1a,a3]at h1;simpa[Yo] using h1
  subst bx;have af:(txV (((An P).take (i+1)).map (As C none))).length=i+1:=by rw[Bgm,A03,A1e];omega
  obtain⟨z0,ak,ez⟩:=I.shape 2 (x:=Bu (v0,txV (((An P).take (i+1)).map (As C none)))) (by simp[a3]);simp only[Bu]at ez;rw[af]at ez;subst ez;have b5:ElP m5 go (0+0*1) (.slice z0 (i+1) ak):=I.el 1 (x:=oT (zG go (i+1) W) E) rfl rfl (by show (E.map (·.1))[0]?=_;rw[A1a,a3];rfl);refine G.o (i+1) W b5<|G.c call233 (hS u5 bg p) ?_;rintro v6 u6 l6 rfl;refine G.B 34 1 16 zE [zS (Ae (C.s p))] (E7 _) ?_;intro g7 u7 l7 e7;obtain⟨m0,V,Q⟩:=I.focus 2 (x:=Bu (.slice z0 (i+1) ak,txV (((An P).take (i+1)).map (As C none)))) (by simp[a3]);rw[D6]at V;refine G.append 34 1 16 zE m0 (txV (((An P).take (i+1)).map (As C none))) [zS (Ae (C.s p))] (.slice z0 (i+1) ak) g7 0 1 1 kV rfl rfl oV V e7 (E7 _) rfl oV (by rw[af];omega) (by rw[af];omega) ?_;intro v8 m8 a4;have e8:txV (((An P).take (i+1)).map (As C none))++[zS (Ae (C.s p))]=txV (((An P).take (i+1+1)).map (As C none)):=by rw[ba,A1i,Md];rfl
  rw[e8]at a4;have bz:(txV (((An P).take (i+1+1)).map (As C none))).length=i+1+1:=by rw[Bgm,A03,A1e];omega
  obtain⟨a8,c8,rfl⟩:=a4.shape;rw[bz]at a4⊢;have az:=Q (Bu (.slice a8 (i+1+1) c8,txV (((An P).take (i+1+1)).map (As C none)))) m8 a4;obtain⟨m1,ai,a0⟩:=az.focus 1 rfl;rw[Aaa]at ai;refine G.a go 0 (i+1) W 0 1 oV<|G.storeA 1 m1 _ go (i+1) W 0 (.slice a8 (i+1+1) c8) kV ai gV rfl rfl ?_;intro m9 bw;have b0:=a0 (oT (zG go (i+1) W) (E.set 0 (.slice a8 (i+1+1) c8,txV (((An P).take (i+1+1)).map (As C none))))) m9 (by rw[Aaa,A2g];exact bw);obtain⟨m,U⟩:∃ r,r=E.set 0 (.slice a8 (i+1+1) c8,txV (((An P).take (i+1+1)).map (As C none))):=⟨_,rfl⟩;have aa:Bag m9 (Bu (.slice ra (i+1) rc,txV (((An P).take (i+1)).map (Bh C)))::oT (zG go (i+1) W) m::m.map Bu):=by
   rw[U,A2g];simpa using b0
  have c4:m.map (·.2)=(((An P).take (i+1+1)).map (As C none)::(P.take i).map fun p=>(An P).map (As C (some p))).map txV:=by
   rw[U,A2g,H];rfl
  have b9:m.length=i+1:=by rw[U,A21];exact b8
  clear b0 az Q a0 V ai I H a3 b5;have bh:=(bg.trans l6).trans l7;refine G.c call233 (hS u7 bh p) ?_;rintro cs cm aj rfl;refine G.buildM 34 1 16 zE [zS (Ae (C.s p))] kV (E7 _) rfl oV mV mV ?_;intro br ck a9;have be:=bh.trans aj;have aq:=hL.mono ((((l2.trans l5).trans l6).trans l7).trans aj);refine G.l (ι:=Nat×(zP×Nat)) (fun j=>[(3,.p 1 0),(4,.p 2 0),(6,sV (some ⟨bp,op,none⟩) P.length pc),(8,.p 6001 0),(9,.p 7010 0),(11,.p 10002 0),(12,sV j.2.1 (j.1+1) j.2.2),(40,sV (some ⟨bp,op,none⟩) P.length pc),(41,iV P.length),(42,iV i),(62,sV (some ⟨bp,op,none⟩) P.length pc),(63,iV P.length),(64,iV j.1)])
   (fun j=>[(1,⟨38,[tV (Ae C.c),sV a1 n1 c1,sV a2 n2 c2]⟩),(2,⟨57,[sN,sN,sN]⟩),(6001,⟨118,[iV (-1),tV []]⟩),
    (7010,⟨57,[.v (.slice (some ⟨bp,op,none⟩) P.length pc),.v (zG go (i+1) W),.v (.slice ra (i+1) rc)]⟩),(10002,⟨118,[.v (zI p.1),.v (zS p.2)]⟩)])
   (fun j u' m'=>j.1<=P.length/\Bag m' (Bu (.slice j.2.1 (j.1+1) j.2.2,txV (((An P).take (j.1+1)).map (As C (some p))))::Bu (.slice ra (i+1) rc,txV (((An P).take (i+1)).map (Bh C)))::oT (zG go (i+1) W) m::m.map Bu)) (fun j=>P.length-j.1)
   (0,some ⟨br,0,none⟩,1) ⟨oV,m9,a9,aa⟩ ?_
  clear aa a9;rintro J2 ⟨j,la,lc⟩ ae ce cl a7 ⟨hj,a6⟩;simp only at hj a6 ae;have ab:=be.trans a7;by_cases b1:j<P.length
  ·refine G.lT j P.length ?_;obtain⟨q,b7⟩:∃ q,P[j]?=some q:=⟨_,A01 b1⟩;have c5:(An P).take (j+1+1)=(An P).take (j+1)++[some q]:=by rw[Ex,Ex,A1n,b7];simp
   obtain⟨bq,oq,e0,eq⟩:=Ac.at' (aq.mono a7) (j:=j) (e:=Ap q) (by simp[b7]);cases e0;refine G.N P.length pc b1 eq<|G.c call54 (hQ ce ab p q) ?_;rintro ct cn c6 rfl;refine G.B 34 1 16 zE [zS (Ae (C.t (Ay p q)))] (E7 _) ?_;intro bs cp c7 bj;obtain⟨m0,V,Q⟩:=a6.focus 0 rfl;rw[D6]at V;have b2:(txV (((An P).take (j+1)).map (As C (some p)))).length=j+1:=by rw[Bgm,A03,A1e];omega
   refine G.append 34 1 16 zE m0 (txV (((An P).take (j+1)).map (As C (some p)))) [zS (Ae (C.t (Ay p q)))] (.slice la (j+1) lc) bs 0 1 1 kV rfl rfl oV V bj (E7 _) rfl oV (by rw[b2];omega) (by rw[b2];omega) ?_;intro cu cc X;have bk:txV (((An P).take (j+1)).map (As C (some p)))++[zS (Ae (C.t (Ay p q)))]=txV (((An P).take (j+1+1)).map (As C (some p))):=by rw[c5,A1i,Md];rfl
   rw[bk]at X;have c0:(txV (((An P).take (j+1+1)).map (As C (some p)))).length=j+1+1:=by rw[Bgm,A03,A1e];omega
   obtain⟨al,an,rfl⟩:=X.shape;rw[c0]at X⊢;have ar:=Q (Bu (.slice al (j+1+1) an,txV (((An P).take (j+1+1)).map (As C (some p))))) cc X;exact G.i j<|G.b (ae (j+1,al,an) _ _ _ cV ((a7.trans c6).trans c7) ⟨dV,ar⟩ dV)
  obtain rfl:j=P.length:=oV
  refine G.lF P.length P.length ?_;clear ae;rw[show (An P).take (P.length+1)=An P by rw[A1j oV]]at a6;refine G.B 46 1 24 zN [.slice la (P.length+1) lc] (B5 _ _ _) ?_;intro bt cg bd bl;obtain⟨m0,V,Q⟩:=a6.focus 2 rfl;rw[Aaa]at V;refine G.k 46 1 24 zN m0 (m.map (·.1)) [.slice la (P.length+1) lc] (zG go (i+1) W) bt 0 1 1 V bl (B5 _ _ _) ?_;intro cw bi Y;have em:m.map (·.1)++[Value.slice la (P.length+1) lc]=(m++[(Value.slice la (P.length+1) lc,txV ((An P).map (As C (some p))))]).map (·.1):=mV
  rw[em]at Y;obtain⟨ac,ad,rfl⟩:=Y.shape;have el:((m++[(Value.slice la (P.length+1) lc,txV ((An P).map (As C (some p))))]).map (·.1)).length=i+1+1:=by simp[b9]
  rw[el]at Y⊢;have au:=Q (oT (.slice ac (i+1+1) ad) (m++[(Value.slice la (P.length+1) lc,txV ((An P).map (As C (some p))))])) bi Y;have av:=Bag.perm S8 au;have bf:=ab.trans bd;refine G.c call54 (hQ cg bf B7 p) ?_;rintro cx cq ca rfl;refine G.B 34 1 16 zE [zS (Ae (C.t (Ay B7 p)))] (E7 _) ?_;intro bu cr cb bm;have aw:Bag bi (Bu (.slice ra (i+1) rc,txV (((An P).take (i+1)).map (Bh C)))::oT (.slice ac (i+1+1) ad) (m++[(Value.slice la (P.length+1) lc,txV ((An P).map (As C (some p))))])::(m++[(Value.slice la (P.length+1) lc,txV ((An P).map (As C (some p))))]).map Bu):=by simpa using av
  obtain⟨m2,bb,ah⟩:=aw.focus 0 rfl;rw[D6]at bb;have b3:(txV (((An P).take (i+1)).map (Bh C))).length=i+1:=by rw[Bgm,A03,A1e];omega
  refine G.append 34 1 16 zE m2 (txV (((An P).take (i+1)).map (Bh C))) [zS (Ae (C.t (Ay B7 p)))] (.slice ra (i+1) rc) bu 0 1 1 kV rfl rfl oV bb bm (E7 _) rfl oV (by rw[b3];omega) (by rw[b3];omega) ?_;intro cy cd Z;have bn:txV (((An P).take (i+1)).map (Bh C))++[zS (Ae (C.t (Ay B7 p)))]=txV (((An P).take (i+1+1)).map (Bh C)):=by rw[ba,A1i,Md];rfl
  rw[bn]at Z;have c3:(txV (((An P).take (i+1+1)).map (Bh C))).length=i+1+1:=by rw[Bgm,A03,A1e];omega
  obtain⟨am,ao,rfl⟩:=Z.shape;rw[c3]at Z⊢;have ax:=ah (Bu (.slice am (i+1+1) ao,txV (((An P).take (i+1+1)).map (Bh C)))) cd Z;refine G.i i<|G.b (hJ (i+1,(ac,ad),(am,ao),m++[(Value.slice la (P.length+1) lc,txV ((An P).map (As C (some p))))]) _ _ _ cV (((((((l5.trans l6).trans l7).trans aj).trans a7).trans bd).trans ca).trans cb) ⟨dV,?_,ax⟩ dV);dsimp only;rw[A1i,c4];unfold Yo;rw[show P.take (i+1)=P.take i++[p] by rw[A1n,ag];rfl];simp
 obtain rfl:i=P.length:=oV
 refine G.lF P.length P.length ?_;rw[An3]at H;rw[show (An P).take (P.length+1)=An P by rw[A1j oV]]at I;exact G.r (.tuple #[.agg #[.slice pa P.length pc,.slice ya (P.length+1) W,.slice ra (P.length+1) rc],zO]) ⟨P,pa,pc,ya,W,ra,rc,E,a5,rfl,hL.mono (l2.trans l5),H,I⟩
end
end
def Iz {u:PH}{T:zC}{R:List Br}{F:List Al}{lab:Int}(ok:Bl u T R F lab):∀ l:Nat,lab=(l:Int)->l<T.length:=fun l e=>by
 obtain⟨n,h⟩:=ok.l2 l e;exact (A05.1 h).1
def Au1:SmW 2:=⟨jV,jV⟩
section
def R4 {q:Rat}(h:0<q):0<q.num:=by
 have j:0<=q.num:=Rat.num_nonneg.2 (Bat h);have m:q.num≠0:=fun e=>by
  rw[A4r]at e;rw[e]at h;exact absurd h jV
 omega
def Atv {u:PH}{p q:Rat}(ht:Hx u)(hp:Tx p)(m:Tx q)(hs:Tx (p+q)):zF 117 [zS (Ae p),zS (Ae q)] u fun v _=>v=.tuple #[zS (Ae (p+q)),zO]:=by
 have h:zF 185 [zS (Ae p),zS (Ae q),.func (.func 129) #[] #[]] u fun v _=>v=.tuple #[zS (Ae (p+q)),zO]:=by
  refine Fn0.o func185<|G.B 34 1 16 zE [zS (Ae p),zS (Ae q)] (Gc [Ae p,Ae q]) ?_;intro g P J e1;have hS:Cj P (zG g 2 2) ([p,q].map Ae):=⟨_,2,rfl,A08 _,fun j e hj=>⟨g,0,rfl,e1 j e hj⟩⟩;refine G.c call234 (Ajw hS (by intro x t;simp at t;rcases t with rfl|rfl;exact hp;exact m) mV) ?_;rintro v2 u2 l2 rfl;refine G.c call133 (Gs hp) ?_;intro v3 u3 l3 E;obtain⟨b3,a3,n3,c3,W,Q,a2,Z,rfl⟩:=E.opn;refine G.c call133 (Gs m) ?_;intro v4 u4 L H;obtain⟨b4,a4,n4,c4,X,U,a6,a0,rfl⟩:=H.opn;refine G.c call129 (Lq (E.mono L) H (hp.sz.mono oV) (m.sz.mono oV)) ?_;intro v5 u5 l5 I;obtain⟨b5,a5,n5,c5,Y,V,a7,a1,rfl⟩:=I.opn;refine G.c call71 (Uf (ht.mono ((((J.trans l2).trans l3).trans L).trans l5)) I hs) ?_;rintro v6 u6 l6 rfl;exact G.z _
 refine Fn0.o func117<|G.c call185 h ?_;rintro v1 P J rfl;exact G.z _
structure Ay8 (q:Rat):Prop where
 tx:Tx q
 pos:0<q
 de:De 3 2 q
def Fd.w {q:Rat}(h:Fd q):Ay8 q:=⟨h.tx,h.pos,h.de.mono oV oV⟩
section
variable {u:PH} {v cv:Value} {T:zC} {R:List Br} {F:List Al} {lab:Int} {C:CF} {K k:Nat} {q:Rat}
theorem An9 (h:Aam u v cv T R F lab C K k)(hq:Ay8 q) :
 Ag prog 116 [v,cv,zS (Ae q)] u PH.mt fun r u' m'=>∃ (P:List Par) (pa:zP) (pc:Nat) (xa:zP) (xc:Nat) (ra:zP) (rc:Nat) (rows:List (Value×zV)),Nn F C P /\
  r=.tuple #[.agg #[.slice pa P.length pc,.slice xa (P.length+1) xc,.slice ra (P.length+1) rc],zI (if k=0 then 12 else 0)]/\Ac u' (.slice pa P.length pc) 2 (P.map Ap)/\rows.map (·.2)=(Lh C P).map txV /\
  Bag m' (Bu (.slice ra (P.length+1) rc,txV ((An P).map (Bh C)))::oT (.slice xa (P.length+1) xc) rows::rows.map Bu):=by
 have hmx:=Ajb h;have hS:=h.mom;obtain⟨xa,xc,xb,xd,xe,xf,rfl,_⟩:=id h.sch;obtain⟨a1,n1,c1,a2,n2,c2,rfl⟩:=id h.cof.opn;refine Ag.o func116 ?_;refine G.callO _ _ kV call184 hmx ?_;rintro v1 u1 m1 l1 ⟨P,pa,pc,ya,yc,ra,rc,rows,hPL,rfl,hP,hrows,hbag⟩ _;rw[By];refine G.nF 0 0 ?_;refine G.c call169 (Gu hq.tx) ?_;rintro v2 u2 l2 rfl;refine G.c call103 (S7 hq.tx) ?_;rintro v3 u3 l3 rfl;have hqn:sgn q.num=1:=C5 (R4 hq.pos);refine G.kF (sgn q.num) 0 ?_;refine G.c call103 (S7 hS.tx) ?_;rintro v4 u4 l4 rfl;by_cases h0:k=0
 ·rw[if_pos h0];have hz:sgn C.c.num=0:=A0g.2 (by rw[hS.c,h0];rfl);refine G.kT (sgn C.c.num) 0 ?_;exact G.r (.tuple #[.agg #[.slice pa P.length pc,.slice ya (P.length+1) yc,.slice ra (P.length+1) rc],zI 12]) ⟨P,pa,pc,ya,yc,ra,rc,rows,hPL,rfl,hP.mono ((l2.trans l3).trans l4),hrows,hbag⟩
 ·rw[if_neg h0];have hz:sgn C.c.num=1:=C5 (R4 (hS.cpos h0));refine G.kF (sgn C.c.num) 0 ?_;exact G.r (.tuple #[.agg #[.slice pa P.length pc,.slice ya (P.length+1) yc,.slice ra (P.length+1) rc],zO]) ⟨P,pa,pc,ya,yc,ra,rc,rows,hPL,rfl,hP.mono ((l2.trans l3).trans l4),hrows,hbag⟩
end
end
def K9 (m:PH)(gn:Nat)(e:Int):PH:=if e=0 then m else m.upd gn (.cells #[zN,zN,zN] 57 (0,0))
def Apo {P:Program}{T:TypeId}{z:Value}{u m:PH}{w:World}{E:Nat}{s1 s2 s3 t1 t2 t3:Value}(F:Bv u m w)(hn:m E=some (.cells #[s1,s2,s3] T (0,0)))(h1:Ax t1=true)(h2:Ax t2=true)(h3:Ax t3=true)(hz:∀ R,pv P R (.build T #[])=some (.agg #[t1,t2,t3]))(hs:szB P T=some 3)
 {Q:Exit->Act->World->Prop} {I J:Oper} (p0:I.op=.build T #[]) (d0:I.dst=some 4) (g0:I.guard=none) (p1:J.op=.store T (.tmp 1) (.tmp 4)) (Y:J.dst=none) (g1:J.guard=none) {id:Nat} {a:Act} (ha:a.eval (.tmp 1)=.pointer (zA E)) (hl:4<a.tmps.size)
 (hk:∀ X w',X.defers=a.defers->Bv u (m.upd E (.cells #[t1,t2,t3] T (0,0))) w'->B0 u m w u (m.upd E (.cells #[t1,t2,t3] T (0,0))) w'->Q .normal X w'):(Code.region id #[I,J] false).wp P Q a w:=by
 obtain⟨a1,a2,C,pos,after,U⟩:=I;obtain⟨Z,a0,h,t,e,K⟩:=J;simp only at p0 d0 g0 p1 Y g1;subst p0 d0 g0 p1 Y g1;have e0:(execOp a.eval ⟨some 4,.build T #[],C,pos,after,none⟩).run P w=.ok (.value (.agg #[t1,t2,t3])) w:=Agc (hz _) w;have V:(a.put (some 4) (.agg #[t1,t2,t3])).eval (.tmp 1)=.pointer (zA E):=by
  rw[<-ha];simp[Act.eval,Act.put]
 have W:(a.put (some 4) (.agg #[t1,t2,t3])).eval (.tmp 4)=.agg #[t1,t2,t3]:=by
  simp[Act.eval,Act.put,hl]
 have j:∀ x∈(#[t1,t2,t3]:Array Value).toList,Ax x=true:=fun x L=>by
  simp at L;rcases L with rfl|rfl|rfl<;>assumption
 obtain⟨k1,k2⟩:=F.setM hn j;have e1:(execOp (a.put (some 4) (.agg #[t1,t2,t3])).eval ⟨none,.store T (.tmp 1) (.tmp 4),h,t,e,none⟩).run P w=.ok .skip (w.setRow E #[t1,t2,t3]):=by
  have H:=run_storeCells_at P E 0 T [t1,t2,t3] 0 #[s1,s2,s3] w (F.pm E _ hn) mV (fun x L=>Gl (j x (by simpa using L)));simp only[execOp,V,W];simp[Instr.storeAt,Instr.sureAddr,storeVar,Bf hs,Value.cells]at H⊢;rw[H];rfl
 refine wp_region ?_;refine .inl ?_;show Oper.upon P ⟨some 4,.build T #[],C,pos,after,none⟩ a _ _ ((execOp a.eval ⟨some 4,.build T #[],C,pos,after,none⟩).run P w);rw[e0,Oper.upon_value];show wpOps P _ _ [1] (a.put (some 4) (.agg #[t1,t2,t3])) w;refine .inl ?_;show Oper.upon P ⟨none,.store T (.tmp 1) (.tmp 4),h,t,e,none⟩ (a.put (some 4) (.agg #[t1,t2,t3])) _ _ ((execOp (a.put (some 4) (.agg #[t1,t2,t3])).eval ⟨none,.store T (.tmp 1) (.tmp 4),h,t,e,none⟩).run P w);rw[e1,Oper.upon_skip];exact hk _ _ rfl k1 k2
theorem Aja {u m:PH}{ge gn:Nat}{e:Int}{s1 s2 s3:Value}(he:m ge=some (.cells #[zI e] 39 (0,0)))(hn:m gn=some (.cells #[s1,s2,s3] 57 (0,0)))(h1:Ax s1=true)(h2:Ax s2=true)(h3:Ax s3=true) :
 Aix prog 115 [.pointer (zA ge),.pointer (zA gn)] u m (fun u' m'=>u'=u/\m'=K9 m gn e):=by
 intro w hgd;refine (callsDIn_of_wp (R:=fun e' w'=>∃ v u' m',e'=.returned v/\Bv u' m' w'/\B0 u m w u' m' w'/\u'=u/\m'=K9 m gn e) func115 rfl trivial (wpIn_wide.2 ?_) rfl).mono (fun e' md w' h=>h);have hl:∀ ev:Operand->Value,∀ o:Oper,o.op=.load 39 (.tmp 0)->ev (.tmp 0)=.pointer (zA ge)->(execOp ev o).run prog w=.ok (.value (zI e)) w:=fun ev o ho hv=>by
  obtain⟨dst,opp,type,pos,after,guard⟩:=o;simp only at ho;subst ho;have hel:ElP m ge 0 (zI e):=fun i x hi=>by
   match i,hi with
   |0,hi=>exact⟨_,_,_,he,by simpa[Value.cells] using hi⟩
  have hr:=Kj (P:=prog) (t:=39) (k:=none) kV rfl hel hgd.pm;simp[execOp,Instr.loadAt,Instr.sureAddr,hv];rw[hr];rfl
 have hb:∀ ev:Operand->Value,∀ o:Oper,o.op=.binOp .neq 39 (.tmp 2) (.const zO) 39->ev (.tmp 2)=zI e->ev (.const zO)=zO->(execOp ev o).run prog w=.ok (.value (.bool (decide (e≠0)))) w:=fun ev o ho hv hv2=>by
  obtain⟨dst,opp,type,pos,after,guard⟩:=o;simp only at ho;subst ho;have hg:∀ t X Y,(eqGuard .neq t X Y (zI e) zO).run prog w=.ok () w:=fun t X Y=>C0 t X Y w;have hr:∀ t,(binOp .neq t (zI e) zO).run prog w=.ok (.bool (decide (e≠0))) w:=fun t=>by
   simp[binOp,Op.intCmp]
   try (rw[A9j];simp)
  simp[execOp,hv,hv2,hg,hr]
 refine wp_seq (wp_region ?_);refine .inl ?_;show Oper.upon _ _ _ _ _ ((execOp _ _).run _ _);rw[hl _ _ rfl rfl,Oper.upon_value];refine .inl ?_;show Oper.upon _ _ _ _ _ ((execOp _ _).run _ _);rw[hb _ _ rfl rfl rfl,Oper.upon_value];by_cases h0:e=0
 ·rw[show decide (e≠0)=false by simp[h0]];refine wp_cond_false rfl (wp_skip ?_);refine bodyPost_end (results_none rfl _ _ _) rfl ?_;exact⟨_,_,_,rfl,hgd,B0.refl _ _ _,rfl,by unfold K9;rw[if_pos h0]⟩
 ·rw[show decide (e≠0)=true by simp[h0]];refine wp_cond_true rfl ?_;refine Apo (z:=undef) hgd hn (t1:=zN) (t2:=zN) (t3:=zN) rfl rfl rfl (fun env=>kV) kV rfl rfl rfl rfl rfl rfl rfl (Nat.lt_of_lt_of_eq (by decide:4<5) rfl) ?_;intro a' w' hd k1 k2;refine bodyPost_end (results_none rfl _ _ _) hd ?_;exact⟨_,_,_,rfl,k1,k2,rfl,by unfold K9;rw[if_neg h0]⟩
end Go.Proofs.YtemmheaocgmebaaGreatDoor
