/- Parts of one proof, joined by a program. -/
import Derived.Test.YtdgncafgglafjaaGreatDoorQ10
set_option linter.defProp false
set_option linter.unusedVariables false
set_option linter.unusedSimpArgs false
set_option linter.unusedSectionVars false
set_option maxHeartbeats 16000000
namespace Go.Proofs.YtdgncafgglafjaaGreatDoor
open Go.Proofs.Tryz
open Go.RowKit Go.MapKept
def Bau:=@Int.one_mul
def A89:=@Rat.intCast_inj
section
variable {P:Nat->Nat}{R S:Nat->Nat->Int}{a b c j n r:Nat}{f:Nat->Int}{v:Int}
def Cg:Nat->(Nat->Int)->Int
 |0,_=>0
 |n+1,f=>Cg n f+f n
def Co {f g:Nat->Int}:∀ {n:Nat},(∀ j,j<n->f j=g j)->Cg n f=Cg n g
 |0,_=>rfl
 |n+1,h=>by rw[Cg,Cg,Co fun j d=>h j oV,h n oV]
def Aau (h:∀ j,j<n->f j=0):Cg n f=0:=by
 induction n with
 |zero=>rfl
 |succ n ih=>rw[Cg,ih fun j d=>h j oV,h n oV];rfl
theorem Lk {f g:Nat->Int}(a b:Int):∀ {n:Nat},Cg n (fun j=>a*f j+b*g j)=a*Cg n f+b*Cg n g
 |0=>by simp[Cg]
 |n+1=>by rw[Cg,Cg,Cg,Lk a b];grind
theorem Wt (d:j<n)(h:∀ t,t<n->t≠j->f t=0):Cg n f=f j:=by
 induction n with
 |zero=>omega
 |succ n ih =>
  rw[Cg];by_cases e:j=n
  ·subst e;rw[Aau fun t g=>h t oV oV];omega
  grind
theorem Ao6 (g:a+1<n)(h:∀ t,t<n->t≠a->t≠a+1->f t=0):Cg n f=f a+f (a+1):=by
 induction n with
 |zero=>omega
 |succ n ih =>
  rw[Cg];by_cases e:a+1=n
  ·subst e;rw[Wt (j:=a) oV fun t m d=>h t oV d oV]
  grind
def dsg:Nat->Int
 |0=>1
 |n+1=>- dsg n
def Ajl:∀ r:Nat,dsg (r+r)=1
 |0=>rfl
 |r+1=>by rw[show r+1+(r+1)=r+r+1+1 by omega,dsg,dsg,Ajl r];rfl
def Fd (j:Nat)(C:Nat->Nat->Int):Nat->Nat->Int:=fun t=>if t<j then C t else C (t+1)
def dt:Nat->(Nat->Nat->Int)->Int
 |0,_=>1
 |r+1,C=>Cg (r+1) fun j=>dsg (r+j)*C j r*dt r (Fd j C)
def Js:∀ {r:Nat} {C D:Nat->Nat->Int},(∀ t,t<r->∀ i,i<r->C t i=D t i)->dt r C=dt r D
 |0,_,_,_=>rfl
 |r+1,C,D,h=>by
  rw[dt,dt];refine Co fun j d=>?_;rw[h j d r oV,Js (D:=Fd j D)];intro t g i e;unfold Fd;split
  ·exact h t oV i oV
  exact h (t+1) oV i oV
def Di (C:Nat->Nat->Int)(j:Nat)(x:Nat->Int):Nat->Nat->Int:=fun t=>if t=j then x else C t
theorem Nc (C:Nat->Nat->Int)(j:Nat)(x:Nat->Int):Fd j (Di C j x)=Fd j C:=by
 funext t
 unfold Fd Di;split
 ·grind
 grind
theorem N7 (C:Nat->Nat->Int)(h:j<a)(x:Nat->Int):Fd a (Di C j x)=Di (Fd a C) j x:=by
 funext t
 unfold Fd Di;by_cases d:t=j
 ·grind
 grind
theorem Kt (C:Nat->Nat->Int)(h:a<j)(x:Nat->Int):Fd a (Di C j x)=Di (Fd a C) (j-1) x:=by
 funext t
 unfold Fd Di;by_cases d:t=j-1
 ·grind
 grind
def It (C:Nat->Nat->Int)(j:Nat)(x:Nat->Int):Di C j x j=x:=by simp[Di]
def Hq (C:Nat->Nat->Int){j t:Nat}(h:t≠j)(x:Nat->Int):Di C j x t=C t:=by simp[Di,h]
theorem Ot (C:Nat->Nat->Int)(j:Nat):Di C j (C j)=C:=by
 funext t
 unfold Di;split
 ·grind
 rfl
theorem M6 (a b:Int)(x y:Nat->Int):∀ {r:Nat} (C:Nat->Nat->Int) {j:Nat},j<r->dt r (Di C j fun i=>a*x i+b*y i)=a*dt r (Di C j x)+b*dt r (Di C j y)
 |0,_,_,h=>oV
 |r+1,C,j,h=>by
  rw[dt,dt,dt,<-Lk];refine Co fun t g=>?_;by_cases e:t=j
  ·subst e;rw[Nc,Nc,Nc,It,It,It];grind
  rw[Hq C e,Hq C e,Hq C e];by_cases d:j<t
  ·rw[N7 C d,N7 C d,N7 C d,M6 a b x y (Fd t C) oV];grind
  have d:t<j:=oV;rw[Kt C d,Kt C d,Kt C d,M6 a b x y (Fd t C) oV];grind
def Alk (C:Nat->Nat->Int)(h:j<r):dt r (Di C j fun _=>0)=0:=by
 have:=M6 0 0 (fun _=>0) (fun _=>0) C h;simpa using this
theorem Ach:∀ {r:Nat} {C:Nat->Nat->Int} {a:Nat},a+1<r->C a=C (a+1)->dt r C=0
 |0,_,_,h,_=>oV
 |r+1,C,a,h,e=>by
  rw[dt,Ao6 (a:=a) h]
  ·have:Fd a C=Fd (a+1) C:=by
    funext t
    unfold Fd;by_cases d:t=a
    ·grind
    grind
   rw[this,e,show r+(a+1)=(r+a)+1 by omega,dsg];grind
  intro t u d g;have:dt r (Fd t C)=0:=by
   by_cases m:t<a
   ·refine Ach (a:=a-1) oV ?_;unfold Fd;rw[if_neg oV,if_neg oV,show a-1+1=a by omega];exact e
   refine Ach (a:=a) oV ?_;unfold Fd;rw[if_pos oV,if_pos oV];exact e
  rw[this];simp
def swp (C:Nat->Nat->Int)(a:Nat):Nat->Nat->Int:=Di (Di C a (C (a+1))) (a+1) (C a)
theorem Sy (C:Nat->Nat->Int)(h:a≠b)(x y:Nat->Int):Di (Di C a x) b y=Di (Di C b y) a x:=by
 funext t
 unfold Di;by_cases d:t=a
 ·grind
 grind
def Axq (C:Nat->Nat->Int)(h:a+1<r):dt r (swp C a) = - dt r C:=by
 have g:a<r:=oV
 let D:(Nat->Int)->(Nat->Int)->Int:=fun x y=>dt r (Di (Di C a x) (a+1) y)
 have l2:∀ x y z,D x (fun i=>1*y i+1*z i)=1*D x y+1*D x z:=fun x y z=>M6 1 1 y z _ h;have m:∀ x y z,D (fun i=>1*y i+1*z i) x=1*D y x+1*D z x:=fun x y z=>by
  show dt r (Di (Di C a _) (a+1) x)=1*dt r (Di (Di C a y) (a+1) x)+1*dt r (Di (Di C a z) (a+1) x);rw[Sy C (show a≠a+1 by omega) (fun i=>1*y i+1*z i) x,Sy C (show a≠a+1 by omega) y x,Sy C (show a≠a+1 by omega) z x];exact M6 1 1 y z _ g
 have d:∀ x,D x x=0:=fun x=>Ach h (by rw[It,Hq _ oV,It]);have e:=d (fun i=>1*C a i+1*C (a+1) i);rw[m,l2,l2,d,d]at e;have t:D (C a) (C (a+1))=dt r C:=by
  show dt r (Di (Di C a (C a)) (a+1) (C (a+1)))=_;rw[Ot,Ot]
 have u:D (C (a+1)) (C a)=dt r (swp C a):=rfl;omega
def Apu {r:Nat}:∀ {d:Nat} {C:Nat->Nat->Int} {a:Nat},a+d+1<r->C a=C (a+d+1)->dt r C=0
 |0,_,_,h,e=>Ach h e
 |d+1,C,a,h,e=>by
  have:=Axq C (a:=a+d+1) (r:=r) oV;rw[Apu (d:=d) (C:=swp C (a+d+1)) (a:=a) oV]at this
  ·omega
  unfold swp;rw[Hq _ oV,Hq _ oV,Hq _ oV,It];exact e
def Ajh {C:Nat->Nat->Int}(g:a<r)(m:b<r)(t:a≠b)(e:C a=C b):dt r C=0:=by
 by_cases h:a<b
 ·exact Apu (d:=b-a-1) (a:=a) oV (by rw[show a+(b-a-1)+1=b by omega];exact e)
 exact Apu (d:=a-b-1) (a:=b) oV (by rw[show b+(a-b-1)+1=a by omega];exact e.symm)
def Ag6 {r:Nat}(C:Nat->Nat->Int){j:Nat}(h:j<r)(a:Nat->Int)(X:Nat->Nat->Int):∀ n:Nat,dt r (Di C j fun i=>Cg n fun t=>a t*X t i)=Cg n fun t=>a t*dt r (Di C j (X t))
 |0=>Alk C h
 |n+1=>by
  have:=M6 1 (a n) (fun i=>Cg n fun t=>a t*X t i) (X n) C h;rw[Ag6 C h a X n]at this;simp only[Cg];rw[Bau]at this;rw[<-this]
  congr 2
  funext i
  rw[Bau]
def Amd (C:Nat->Nat->Int)(h:j<r)(a:Nat->Int):dt r (Di C j fun i=>Cg r fun t=>a t*C t i)=a j*dt r C:=by
 rw[Ag6 C h,Wt h,Ot];intro t g d;rw[Ajh (a:=j) (b:=t) h g (fun e=>d e.symm) (by rw[It,Hq _ d]),Int.mul_zero]
theorem Ast (C:Nat->Nat->Int)(e:Nat->Int)(h:∀ i,i<r->e i=0):dt (r+1) (Di C r e)=e r*dt r C:=by
 rw[dt,Wt (j:=r) oV]
 ·rw[Ajl,It,Bau,Js (C:=Fd r (Di C r e)) (D:=C)];intro t d i g;unfold Fd;rw[if_pos d,Hq _ oV]
 intro t d m;rw[Kt C (by omega:t<r),Js (D:=Di (Fd t C) (r-1) fun _=>0)]
 ·rw[Alk _ oV];simp
 intro s u i g;unfold Di;split
 ·grind
 rfl
structure Bar (n:Nat)(R:Nat->Nat->Int)(P:Nat->Nat)(r:Nat)(v:Int)(S:Nat->Nat->Int):Prop where
 v0:v≠0
 d:dt r (fun j i=>R i (P j))=v
 lo:∀ i,i<r->∀ k,Cg r (fun j=>S j k*R i (P j))=v*R i k
 hi:∀ i,r<=i->i<n->∀ k,S i k=v*R i k-Cg r (fun j=>S j k*R i (P j))
def Bar.init (n:Nat)(R:Nat->Nat->Int)(P:Nat->Nat):Bar n R P 0 1 R:=⟨fV,rfl,fun i h=>oV,fun i _ _ k=>by simp[Cg]⟩
def Ap4 (a:Int)(f:Nat->Int)(n:Nat):Cg n (fun j=>a*f j)=a*Cg n f:=by
 have:=Lk (f:=f) (g:=f) a 0 (n:=n);simp only[Int.zero_mul,Int.add_zero]at this;exact this
def Kb {v a b:Int}(d:v≠0)(h:v*a=v*b):a=b:=A8u d h
theorem Bar.num (h:Bar n R P r v S)(g:r<n)(c:Nat)(i k:Nat)(u:i<=r) :
 Cg r (fun j=>(S j k*S r c-S j c*S r k)*R i (P j))+v*S r k*R i c=v*(S r c*R i k):=by
 have e:Cg r (fun j=>(S j k*S r c-S j c*S r k)*R i (P j))=S r c*Cg r (fun j=>S j k*R i (P j))+(- S r k)*Cg r (fun j=>S j c*R i (P j)):=by
  rw[<-Lk];exact Co fun j _=>by grind
 rw[e];by_cases d:i<r
 ·rw[h.lo i d,h.lo i d];grind
 obtain rfl:i=r:=oV;have m:=h.hi i (A0s _) g k;have t:=h.hi i (A0s _) g c;grind
def Kd (P:Nat->Nat)(r c:Nat):Nat->Nat:=fun j=>if j=r then c else P j
theorem Bar.det (h:Bar n R P r v S)(F:r<n)(c:Nat) :
 dt (r+1) (fun j i=>R i (Kd P r c j))=S r c:=by
 let C:Nat->Nat->Int:=fun j i=>R i (Kd P r c j)
 have g:C r=fun i=>R i c:=by funext i;simp[C,Kd]
 have e:∀ j,j<r->C j=fun i=>R i (P j):=fun j u=>by funext i;simp[C,Kd,show j≠r by omega]
 have E:dt (r+1) (Di C r (fun i=>v*C r i+(-1)*Cg r (fun j=>S j c*C j i)))=v*dt (r+1) C:=by
  rw[M6 v (-1) (C r) _ C oV,Ot,Ag6 C oV];rw[Aau]
  ·grind
  intro t z;rw[Ajh (a:=t) (b:=r) oV oV oV (by rw[It,Hq _ oV]),Int.mul_zero]
 have es:∀ i,Cg r (fun j=>S j c*C j i)=Cg r (fun j=>S j c*R i (P j)):=fun i=>Co fun j u=>by rw[e j u]
 rw[Ast C _ (fun i m=>by
  rw[es,h.lo i m,g];grind)]at E
 have H:dt r C=v:=by
  rw[<-h.d];exact Js fun t z i m=>by rw[e t z]
 have I:v*C r r+(-1)*Cg r (fun j=>S j c*C j r)=S r c:=by
  rw[es,g];have:=h.hi r (A0s _) F c;grind
 refine Kb h.v0 ?_;grind
theorem Bar.dvd (h:Bar n R P r v S)(m:r<n)(F:S r c≠0)(j k:Nat)(I:j<r) :
 v ∣ S j k*S r c-S j c*S r k:=by
 let C:Nat->Nat->Int:=fun j i=>R i (Kd P r c j)
 have e:∀ i,C r i=R i c:=fun i=>by simp[C,Kd]
 have d:∀ j,j<r->∀ i,C j i=R i (P j):=fun j I i=>by simp[C,Kd,show j≠r by omega]
 have H:dt (r+1) C=S r c:=h.det m c;have z:=Amd C (show j<r+1 by omega) (fun t=>if t=r then v*S r k else S t k*S r c-S t c*S r k);have E:dt (r+1) (Di C j fun i=>Cg (r+1) fun t=>(if t=r then v*S r k else S t k*S r c-S t c*S r k)*C t i)=dt (r+1) (Di C j fun i=>(v*S r c)*R i k+0*R i k):=by
  refine Js fun t u i J=>?_;unfold Di;split
  ·simp only[Cg,if_true,e];have:=h.num m c i k oV;rw[Co (g:=fun j=>(S j k*S r c-S j c*S r k)*R i (P j)) (fun t u=>by rw[if_neg oV,d t u])];grind
  rfl
 rw[E,M6 _ _ _ _ C oV,H,if_neg oV]at z;refine⟨dt (r+1) (Di C j fun i=>R i k),Kb F ?_⟩;grind
def Af7 {v:Int}{f:Nat->Int}:∀ {n:Nat},(∀ j,j<n->v ∣ f j)->v ∣ Cg n f
 |0,_=>⟨0,by simp[Cg]⟩
 |n+1,h=>Int.dvd_add (Af7 fun j d=>h j oV) (h n oV)
theorem Bar.dvdAll (h:Bar n R P r v S)(m:r<n)(d:S r c≠0)(i k:Nat)(g:i<n)(E:i≠r) :
 v ∣ S i k*S r c-S i c*S r k:=by
 by_cases u:i<r
 ·exact h.dvd m d i k u
 have z:=h.hi i oV g k;have C:=h.hi i oV g c;have e:Cg r (fun j=>(S j k*S r c-S j c*S r k)*R i (P j))=S r c*Cg r (fun j=>S j k*R i (P j))+(- S r k)*Cg r (fun j=>S j c*R i (P j)):=by
  rw[<-Lk];exact Co fun j _=>by grind
 obtain⟨q,F⟩:v ∣ Cg r (fun j=>(S j k*S r c-S j c*S r k)*R i (P j)):=Af7 fun j t=>Int.dvd_mul_of_dvd_left (h.dvd m d j k t);exact⟨S r c*R i k-S r k*R i c-q,by grind⟩
theorem Bar.step {n:Nat}{R:Nat->Nat->Int}{P:Nat->Nat}{r:Nat}{v:Int}{S:Nat->Nat->Int}(h:Bar n R P r v S)(z:r<n){c:Nat}(H:S r c≠0){S':Nat->Nat->Int}
 (hp:∀ k,S' r k=S r k) (C:∀ i,i<n->i≠r->∀ k,v*S' i k=S i k*S r c-S i c*S r k):Bar n R (Kd P r c) (r+1) (S r c) S':=by
 have E:=h.v0;have F:∀ j,j<r->Kd P r c j=P j:=fun j t=>by simp[Kd,show j≠r by omega]
 have m:Kd P r c r=c:=by simp[Kd]
 have e:∀ i k,v*Cg r (fun j=>S' j k*R i (P j))=Cg r (fun j=>(S j k*S r c-S j c*S r k)*R i (P j)):=fun i k=>by
  rw[<-Ap4];exact Co fun j t=>by rw[<-C j oV oV];grind
 have u:∀ i k,Cg (r+1) (fun j=>S' j k*R i (Kd P r c j))=Cg r (fun j=>S' j k*R i (P j))+S r k*R i c:=fun i k=>by
  rw[Cg,m,hp,Co (g:=fun j=>S' j k*R i (P j)) fun j t=>by rw[F j t]]
 refine⟨H,h.det z c,fun i O k=>?_,fun i J d k=>?_⟩
 ·refine Kb E ?_;rw[u,Bao,e];have:=h.num z c i k oV;grind
 refine Kb E ?_;rw[u,C i d oV];have K:=e i k;have I:Cg r (fun j=>(S j k*S r c-S j c*S r k)*R i (P j))=S r c*Cg r (fun j=>S j k*R i (P j))+(- S r k)*Cg r (fun j=>S j c*R i (P j)):=by
  rw[<-Lk];exact Co fun j _=>by grind
 have L:=h.hi i oV d k;have N:=h.hi i oV d c;grind
def rsw (F:Nat->Nat->Int)(p q:Nat):Nat->Nat->Int:=fun i=>if i=p then F q else if i=q then F p else F i
def Bar.swap (h:Bar n R P r v S){p:Nat}(I:r<=p)(J:p<n):Bar n (rsw R p r) P r v (rsw S p r):=by
 have z:∀ F:Nat->Nat->Int,∀ i,i<r->rsw F p r i=F i:=fun F i g=>by simp[rsw,show i≠p by omega,show i≠r by omega]
 refine⟨h.v0,?_,fun i g k=>?_,fun i g K k=>?_⟩
 ·rw[<-h.d];exact Js fun t _ i g=>by rw[z R i g]
 ·rw[z R i g,<-h.lo i g];exact Co fun j E=>by rw[z S j E]
 have:∀ u,r<=u->u < n->rsw S p r i=S u->rsw R p r i=R u->rsw S p r i k=v*rsw R p r i k-Cg r (fun j=>rsw S p r j k*rsw R p r i (P j)):=fun u a b H m=>by
  rw[H,m,h.hi u a b]
  congr 1
  exact Co fun j E=>by rw[z S j E]
 by_cases e:i=p
 ·exact this r (A0s _) oV (by simp[rsw,e]) (by simp[rsw,e])
 by_cases m:i=r
 ·exact this p I J (by simp[rsw,m];intro C;rw[C]) (by simp[rsw,m];intro C;rw[C])
 exact this i g K (by simp[rsw,e,m]) (by simp[rsw,e,m])
end
section
variable {R:Nat->Nat->Int}{X:List (List Int)}{i j n p r w:Nat}{l:List Int}
def gZ (l:List Int)(j:Nat):Int:=l.getD j 0
def gMZ (X:List (List Int))(i:Nat):List Int:=X.getD i []
def enZ (X:List (List Int))(i j:Nat):Int:=gZ (gMZ X i) j
def Gn (n w:Nat)(X:List (List Int)):Prop:=X.length=n/\∀ i,i<n->(gMZ X i).length=w
def Aah (h:j<l.length):gZ l j=l[j]:=by unfold gZ;rw[A0j,A0i h];rfl
def Abn (h:l.length<=j):gZ l j=0:=by unfold gZ;rw[A0j,A1k h];rfl
def Qb (h:i<X.length):gMZ X i=X[i]:=by unfold gMZ;rw[A0j,A0i h];rfl
theorem Mn {i k:Nat}{r:List Int}(h:i<X.length):gMZ (X.set i r) k=if i=k then r else gMZ X k:=by
 unfold gMZ;by_cases e:i=k
 ·grind
 grind
def Ayi (f:Nat->Int)(h:j<n):gZ ((List.range n).map f) j=f j:=by
 rw[Aah (by simpa using h)];simp
def If (X:List (List Int))(c:Nat):Nat->Nat->Nat
 |0,p=>p
 |f+1,p=>if enZ X p c=0 then If X c f (p+1) else p
def Km (X:List (List Int))(p r:Nat):List (List Int):=(X.set p (gMZ X r)).set r (gMZ X p)
def P5 (v a g:Int)(R row:List Int):List Int:=(List.range row.length).map fun k=>(gZ row k*a-g*gZ R k)/v
def No (r c:Nat)(v:Int):Nat->Nat->List (List Int)->List (List Int)
 |0,_,X=>X
 |f+1,i,X=>No r c v f (i+1) (if i=r then X else X.set i (P5 v (enZ X r c) (enZ X i c) (gMZ X r) (gMZ X i)))
structure BZ where
 X:List (List Int)
 P:List Nat
 v:Int
 odd:Bool
def Ih (n c:Nat)(s:BZ):BZ :=
 if If s.X c (n-s.P.length) s.P.length=n then s
 else ⟨No s.P.length c s.v n 0 (if If s.X c (n-s.P.length) s.P.length=s.P.length then s.X else Km s.X (If s.X c (n-s.P.length) s.P.length) s.P.length),s.P++[c],
  enZ s.X (If s.X c (n-s.P.length) s.P.length) c,if If s.X c (n-s.P.length) s.P.length=s.P.length then s.odd else !s.odd⟩
def Ig (n:Nat):Nat->Nat->BZ->BZ
 |0,_,s=>s
 |f+1,c,s=>Ig n f (c+1) (Ih n c s)
def Abr (X:List (List Int))(c:Nat):∀ f p,p<=If X c f p/\If X c f p<=p+f
 |0,p=>by simp[If]
 |f+1,p=>by
  unfold If;split
  ·have:=Abr X c f (p+1);omega
  omega
def Zy (X:List (List Int))(c:Nat):∀ f p i,p<=i->i<If X c f p->enZ X i c=0
 |0,p,i,h1,h2=>by simp[If]at h2;omega
 |f+1,p,i,h1,h2=>by
  unfold If at h2;split at h2
  ·rename_i h;by_cases e:i=p
   ·subst e;exact h
   exact Zy X c f (p+1) i oV h2
  omega
def Abm (X:List (List Int))(c:Nat):∀ f p,If X c f p<p+f->enZ X (If X c f p) c≠0
 |0,p,h=>by simp[If]at h
 |f+1,p,h=>by
  unfold If at h⊢;split at h
  ·rename_i h0;rw[if_pos h0];exact Abm X c f (p+1) oV
  rename_i h0;rw[if_neg h0];exact h0
def M8 {r:List Int}(h:Gn n w X)(d:i<n)(g:r.length=w):Gn n w (X.set i r):=by
 refine⟨by simp[h.1],fun j e=>?_⟩;rw[Mn (by rw[h.1];exact d)];split
 ·exact g
 exact h.2 j e
def Tf (h:Gn n w X)(hp:p<n)(d:r<n):Gn n w (Km X p r) :=
 M8 (M8 h hp (h.2 r d)) d (h.2 p hp)
theorem Yn (h:Gn n w X)(hp:p<n)(d:r<n)(i:Nat):gMZ (Km X p r) i=if i=r then gMZ X p else if i=p then gMZ X r else gMZ X i:=by
 unfold Km;rw[Mn (by simp[h.1];exact d),Mn (by rw[h.1];exact hp)];by_cases e:r=i
 ·grind
 grind
def Sc (v a g:Int)(R row:List Int):(P5 v a g R row).length=row.length:=by simp[P5]
def Abk (v a g:Int)(R row:List Int)(h:R.length=row.length)(j:Nat):gZ (P5 v a g R row) j=(gZ row j*a-g*gZ R j)/v:=by
 by_cases d:j<row.length
 ·unfold P5;exact Ayi _ d
 rw[Abn (by rw[Sc];omega),Abn (l:=row) oV,Abn (l:=R) oV];simp
def Yo {n w r c:Nat}{v:Int}(d:r<n):∀ f i X,i+f<=n->Gn n w X->Gn n w (No r c v f i X)
 |0,i,X,_,h=>h
 |f+1,i,X,hf,h=>by
  unfold No;refine Yo d f (i+1) _ oV ?_;split
  ·exact h
  exact M8 h oV (by rw[Sc];exact h.2 i oV)
def Sh {n w r c:Nat}{v:Int}(t:r<n):∀ f i X,i+f<=n->Gn n w X->∀ k,gMZ (No r c v f i X) k=if i<=k/\k<i+f/\k≠r then P5 v (enZ X r c) (enZ X k c) (gMZ X r) (gMZ X k) else gMZ X k
 |0,i,X,_,h,k=>by rw[if_neg oV];rfl
 |f+1,i,X,hf,h,k=>by
  unfold No;by_cases e:i=r
  ·rw[if_pos e,Sh t f (i+1) X oV h k];by_cases d:i+1<=k/\k<i+1+f/\k≠r
   ·rw[if_pos d,if_pos ⟨oV,oV,d.2.2⟩]
   rw[if_neg d,if_neg oV]
  have u:Gn n w (X.set i (P5 v (enZ X r c) (enZ X i c) (gMZ X r) (gMZ X i))):=M8 h oV (by rw[Sc];exact h.2 i oV);have m:i<X.length:=by rw[h.1];omega
  rw[if_neg e,Sh t f (i+1) _ oV u k];unfold enZ;rw[Mn m,Mn m,if_neg e];by_cases d:i=k
  ·subst d;rw[if_neg oV,if_pos rfl,if_pos ⟨oV,oV,e⟩]
  rw[if_neg d];by_cases g:i+1<=k/\k<i+1+f/\k≠r
  ·rw[if_pos g,if_pos ⟨oV,oV,g.2.2⟩]
  rw[if_neg g,if_neg oV]
def Agb (n:Nat)(A R:Nat->Nat->Int):Prop:=∀ i,i<n->∃ j,j<n/\A i=R j
def Agb.swap {A R:Nat->Nat->Int}(h:Agb n A R)(hp:p<n)(u:r<n):Agb n A (rsw R p r):=fun i m=>by
 obtain⟨j,t,e⟩:=h i m;by_cases g:j=p
 ·subst g;refine⟨r,u,?_⟩;unfold rsw;by_cases d:r=j
  ·rw[if_pos d,e,d]
  rw[if_neg d,if_pos rfl,e]
 by_cases d:j=r
 ·subst d;exact⟨p,hp,by unfold rsw;rw[if_pos rfl,e]⟩
 exact⟨j,t,by unfold rsw;rw[if_neg g,if_neg d,e]⟩
structure Amt (n w:Nat)(A:Nat->Nat->Int)(c:Nat)(s:BZ):Prop where
 rc:Gn n w s.X
 len:s.P.length=c
 bar:∃ R,Agb n A R/\Agb n R A/\Bar n R (fun j=>j) c s.v (enZ s.X)
def Aio {P Q:Nat->Nat}{v:Int}{S:Nat->Nat->Int}(h:Bar n R P r v S)(e:∀ j,j<r->P j=Q j):Bar n R Q r v S:=by
 refine⟨h.v0,?_,fun i z k=>?_,fun i m u k=>?_⟩
 ·rw[<-h.d];exact Js fun t C i _=>by rw[e t C]
 ·rw[<-h.lo i z];exact Co fun j g=>by rw[e j g]
 rw[h.hi i m u];congr 1;exact Co fun j g=>by rw[e j g]
def Ker (n:Nat)(A:Nat->Nat->Int):Prop:=∃ y:Nat->Int,(∃ j,j<n/\y j≠0)/\∀ i,i<n->Cg n (fun j=>y j*A i j)=0
theorem Amt.step {n w:Nat}{A:Nat->Nat->Int}{c:Nat}{s:BZ}(h:Amt n w A c s)(u:c<n):Amt n w A (c+1) (Ih n c s)\/(Ker n A/\Ih n c s=s):=by
 obtain⟨F,E,R,z,g,t⟩:=h;unfold Ih;obtain⟨V,Z⟩:=Abr s.X c (n-s.P.length) s.P.length;have p3:=Zy s.X c (n-s.P.length) s.P.length;have p4:=Abm s.X c (n-s.P.length) s.P.length;generalize If s.X c (n-s.P.length) s.P.length=p at *
 rw[E]at V Z p3 p4⊢;by_cases e:p=n
 ·rw[if_pos e];refine .inr ⟨?_,rfl⟩;refine⟨fun j=>if j<c then enZ s.X j c else if j=c then-s.v else 0,⟨c,u,by simp;exact t.v0⟩,fun i C=>?_⟩;obtain⟨J,T,O⟩:=z i C;rw[O];have key:∀ m,m<=n->Cg m (fun j=>(if j<c then enZ s.X j c else if j=c then-s.v else 0)*R J j)=Cg (min m c) (fun j=>enZ s.X j c*R J j)+if c<m then-s.v*R J c else 0:=by
   intro m;induction m with
   |zero=>intro _;simp[Cg]
   |succ m ih =>
    intro hm;rw[Cg,ih oV];by_cases Q:m<c
    ·rw[if_pos Q,if_neg oV,if_neg oV,show min m c=m by omega,show min (m+1) c=m+1 by omega,Cg];omega
    grind
  rw[key n (A0s _),show min n c=c by omega,if_pos u];by_cases Q:J < c
  ·rw[t.lo J Q];grind
  have:=t.hi J oV T c;grind
 rw[if_neg e];have hp:p<n:=oV;refine .inl ?_;have d:Gn n w (if p=c then s.X else Km s.X p c):=by
  split
  ·grind
  exact Tf F hp u
 have I:∀ i,gMZ (if p=c then s.X else Km s.X p c) i=if i=c then gMZ s.X p else if i=p then gMZ s.X c else gMZ s.X i:=fun i=>by
  by_cases O:p=c
  ·grind
  rw[if_neg O];exact Yn F hp u i
 have L:enZ (if p=c then s.X else Km s.X p c)=rsw (enZ s.X) p c:=by
  funext i k
  unfold enZ rsw;by_cases e2:i=p
  ·grind
  grind
 have H:=t.swap V hp;rw[<-L]at H;have U:enZ (if p=c then s.X else Km s.X p c) c c=enZ s.X p c:=by unfold enZ;rw[I,if_pos rfl]
 generalize (if p=c then s.X else Km s.X p c)=X1 at *
 have K:enZ X1 c c≠0:=by grind
 refine⟨Yo u n 0 X1 oV d,by simp[E],_,z.swap hp u,fun i C=>by
  unfold rsw;split
  ·exact g c u
  split
  ·exact g p hp
  exact g i C,?_⟩
 rw[<-U];have W:=fun i k C N=>H.dvdAll u K i k C N;have Y:=H.step u K (S':=enZ (No c c s.v n 0 X1)) (fun k=>by unfold enZ;rw[Sh u n 0 X1 oV d,if_neg oV]) (fun i C N k=>by
  show s.v*gZ (gMZ (No c c s.v n 0 X1) i) k=_;rw[Sh u n 0 X1 oV d,if_pos ⟨oV,oV,N⟩,Abk _ _ _ _ _ (by rw[d.2 c u,d.2 i C])];exact Int.mul_ediv_cancel' (W i k C N))
 exact Aio Y fun j hj=>by unfold Kd;dsimp only;split<;>omega
def Ave {n c:Nat}{s:BZ}:(Ih n c s).P.length<=s.P.length+1:=by
 unfold Ih;split
 ·omega
 simp
def Akn {n:Nat}:∀ (f c:Nat) (s:BZ),(Ig n f c s).P.length<=s.P.length+f
 |0,c,s=>by simp[Ig]
 |f+1,c,s=>by
  unfold Ig;have:=Akn (n:=n) f (c+1) (Ih n c s);have:=Ave (n:=n) (c:=c) (s:=s);omega
def Aln {n w:Nat}{A:Nat->Nat->Int}:∀ (f c:Nat) (s:BZ),c+f=n->Amt n w A c s->Amt n w A n (Ig n f c s)\/(Ker n A/\(Ig n f c s).P.length<n)
 |0,c,s,h,hf=>.inl (by
  have:c=n:=oV;subst this;exact hf)
 |f+1,c,s,h,hf=>by
  unfold Ig;rcases hf.step oV with d|⟨d,e⟩
  ·exact Aln f (c+1) _ oV d
  refine .inr ⟨d,?_⟩;rw[e];have:=Akn (n:=n) f (c+1) s;have:=hf.len;omega
theorem Ag1 (h:Gn n w X):((Ig n n 0 ⟨X,[],1,false⟩).P.length=n/\Gn n w (Ig n n 0 ⟨X,[],1,false⟩).X/\(Ig n n 0 ⟨X,[],1,false⟩).v≠0 /\
 ∀ i,i<n->∀ k,Cg n (fun j=>enZ (Ig n n 0 ⟨X,[],1,false⟩).X j k*enZ X i j)=(Ig n n 0 ⟨X,[],1,false⟩).v*enZ X i k) \/
 (Ker n (enZ X)/\(Ig n n 0 ⟨X,[],1,false⟩).P.length<n):=by
 have h0:Amt n w (enZ X) 0 ⟨X,[],1,false⟩:=⟨h,rfl,enZ X,fun i d=>⟨i,d,rfl⟩,fun i d=>⟨i,d,rfl⟩,Bar.init n _ _⟩;rcases Aln n 0 _ oV h0 with ⟨m,u,R,z,_,t⟩|m
 ·refine .inl ⟨u,m,t.v0,fun i d k=>?_⟩;obtain⟨C,g,e⟩:=z i d;rw[e];exact t.lo C g k
 grind
def zs (K:Nat):Nat->Nat
 |0=>K
 |r+1=>2*zs K r+2
end
section
variable {j:Nat}
def Cb (a:Nat->Nat->Rat):Nat->Nat->Nat->Rat
 |0,i,k=>a i k
 |j+1,i,k=>Cb a j i k-Cb a j i j/Cb a j j j*(Cb a j k j/Cb a j j j)*Cb a j j j
section
variable {n:Nat} {a:Nat->Nat->Rat}
theorem Qt (d:∀ i k,i<n->k<n->a i k=a k i):∀ j i k,i<n->k<n->Cb a j i k=Cb a j k i
 |0,i,k,hi,hk=>d i k hi hk
 |j+1,i,k,hi,hk=>by
  have:=Qt d j i k hi hk;unfold Cb;rw[this];grind
def frm (n:Nat)(S:Nat->Nat->Rat)(x:Nat->Rat):Rat:=Bx n fun i=>x i*Bx n fun k=>S i k*x k
theorem Afz (d:j<n)(c:Rat)(g:Nat->Rat):Bx n (fun k=>(if k=j then c else 0)*g k)=c*g j:=by
 induction n with
 |zero=>omega
 |succ n ih =>
  rw[Fg];by_cases h:j<n
  ·rw[ih h,if_neg oV];grind
  obtain rfl:j=n:=oV;rw[if_pos rfl,A3 (g:=fun _=>(0:Rat)*0) fun k e=>by rw[if_neg oV];grind,Dt];grind
theorem Ab5 {S:Nat->Nat->Rat}(e:j<n)(t:∀ i k,i<n->k<n->S i k=S k i)(x:Nat->Rat)(c:Rat) :
 frm n S (fun i=>x i+if i=j then c else 0)=frm n S x+2*c*Bx n (fun k=>S j k*x k)+c*c*S j j:=by
 have h:∀ i,i<n->Bx n (fun k=>S i k*(x k+if k=j then c else 0))=Bx n (fun k=>S i k*x k)+c*S i j:=fun i _=>by
  rw[A3 (g:=fun k=>S i k*x k+(if k=j then c else 0)*S i k) fun k _=>by grind,Ju,Afz e]
 have m:Bx n (fun i=>x i*S i j)=Bx n fun k=>S j k*x k:=A3 fun i d=>by rw[t i j d e];grind
 unfold frm;rw[A3 (g:=fun i=>x i*Bx n (fun k=>S i k*x k)+(c*(x i*S i j)+(if i=j then c else 0)*(Bx n (fun k=>S i k*x k)+c*S i j))) fun i d=>by rw[h i d];grind,
  Ju,Ju,Dt,Afz e,m]
 grind
theorem Ap0 (t:j<n)(E:∀ i k,i<n->k<n->a i k=a k i)(hp:Cb a j j j≠0)(x:Nat->Rat) :
 frm n (Cb a (j+1)) x=frm n (Cb a j) x-Bx n (fun k=>Cb a j j k*x k)*Bx n (fun k=>Cb a j j k*x k)/Cb a j j j:=by
 obtain⟨p,d⟩:∃ p,Cb a j j j=p:=⟨_,rfl⟩;obtain⟨R,m⟩:∃ R,Bx n (fun k=>Cb a j j k*x k)=R:=⟨_,rfl⟩;have e:=Qt E j;have u:∀ i,i<n->Bx n (fun k=>Cb a (j+1) i k*x k)=Bx n (fun k=>Cb a j i k*x k)-Cb a j i j/p*R:=fun i h=>by
  rw[A3 (g:=fun k=>Cb a j i k*x k-Cb a j i j/p*(Cb a j j k*x k)) fun k C=>by
   show (Cb a j i k-Cb a j i j/Cb a j j j*(Cb a j k j/Cb a j j j)*Cb a j j j)*x k=_;rw[e k j C t,d]at *
   grind,N5,Dt,m]
 have z:Bx n (fun i=>x i*Cb a j i j)=R:=by rw[<-m];exact A3 fun i h=>by rw[e i j h t];grind
 rw[m,d];unfold frm;rw[A3 (g:=fun i=>x i*Bx n (fun k=>Cb a j i k*x k)-R/p*(x i*Cb a j i j)) fun i h=>by rw[u i h];grind,N5,Dt,z];grind
theorem Aqx (t:∀ i k,i<n->k<n->a i k=a k i)(hp:∀ x,(∃ i,i<n/\x i≠0)->0<frm n a x):∀ j,j<=n->∀ x:Nat->Rat,(∀ i,i<j->x i=0)->(∃ i,i<n/\x i≠0)->0<frm n (Cb a j) x
 |0,_,x,_,hx=>hp x hx
 |j+1,hj,x,h0,⟨i,hi,hxi⟩=>by
  have h:j<n:=oV
  have z:=Aqx t hp j oV;have d:0<Cb a j j j:=by
   have u:=z (fun i=>0+if i=j then 1 else 0) (fun i m=>by rw[if_neg oV];grind) ⟨j,h,by rw[if_pos rfl];decide +kernel⟩;rw[Ab5 h (Qt t j) (fun _=>0) 1]at u;have C:frm n (Cb a j) (fun _=>0)=0:=by
    unfold frm;rw[A3 (g:=fun _=>(0:Rat)*0) fun i _=>by grind,Dt];grind
   have E:Bx n (fun k=>Cb a j j k*(0:Rat))=0:=by
    rw[A3 (g:=fun _=>(0:Rat)*0) fun i _=>by grind,Dt];grind
   rw[C,E]at u;grind
  rw[Ap0 h t (fun e=>by rw[e]at d;exact absurd d jV) x];have m:i≠j:=fun e=>hxi (h0 i oV);have F:=z (fun i=>x i+if i=j then -(Bx n (fun k=>Cb a j j k*x k)/Cb a j j j) else 0) (fun i m=>by rw[if_neg oV,h0 i oV];grind) ⟨i,hi,by rw[if_neg m];grind⟩;rw[Ab5 h (Qt t j)]at F;generalize Bx n (fun k=>Cb a j j k*x k)=R at *
  generalize Cb a j j j=p at *
  have H:p≠0:=fun e=>by rw[e]at d;exact absurd d jV
  have e:2 * -(R/p)*R + -(R/p) * -(R/p)*p = -(R*R/p):=by grind
  grind
theorem Atu (h:∀ i k,i<n->k<n->a i k=a k i)(hp:∀ x,(∃ i,i<n/\x i≠0)->0<frm n a x)(e:j<n):0<Cb a j j j:=by
 have d:=Aqx h hp j oV (fun i=>0+if i=j then 1 else 0) (fun i u=>by rw[if_neg oV];grind) ⟨j,e,by rw[if_pos rfl];decide +kernel⟩;rw[Ab5 e (Qt h j) (fun _=>0) 1]at d;have m:frm n (Cb a j) (fun _=>0)=0:=by
  unfold frm;rw[A3 (g:=fun _=>(0:Rat)*0) fun i _=>by grind,Dt];grind
 have t:Bx n (fun k=>Cb a j j k*(0:Rat))=0:=by
  rw[A3 (g:=fun _=>(0:Rat)*0) fun i _=>by grind,Dt];grind
 rw[m,t]at d;grind
def Rf (M:Nat->Nat->Int):Nat->Nat->Nat->Int
 |0,i,k=>M i k
 |j+1,i,k=>Rf M j i k*Rf M j j j-Rf M j i j*Rf M j k j
def Xf (M:Nat->Nat->Int)(d:Int):Nat->Int
 |0=>d
 |j+1=>Xf M d j*Rf M j j j
theorem Aki {M:Nat->Nat->Int}{d:Int}(C:d≠0)(z:∀ i k,i<n->k<n->a i k*(d:Rat)=M i k):∀ j,j<=n->(∀ t,t<j->Cb a t t t≠0)->Xf M d j≠0/\∀ i k,i<n->k<n->Cb a j i k*(Xf M d j:Rat)=Rf M j i k
 |0,_,_=>⟨C,z⟩
 |j+1,hj,h0=>by
  obtain⟨u,m⟩:=Aki C z j oV fun t N=>h0 t oV;have g:=m j j oV oV;have hp:=h0 j oV;have L:(Xf M d j:Rat)≠0:=fun e=>u (A89.1 (by rw[e];rfl));have K:Rf M j j j≠0:=fun e=>by
   rw[e]at g;rcases A34.1 g with h|h
   ·exact hp h
   exact L h
  refine⟨A6g u K,fun i k E F=>?_⟩;have H:=m i k E F;have I:=m i j E oV;have J:=m k j F oV;show (Cb a j i k-Cb a j i j/Cb a j j j*(Cb a j k j/Cb a j j j)*Cb a j j j)*((Xf M d j*Rf M j j j:Int):Rat)=((Rf M j i k*Rf M j j j-Rf M j i j*Rf M j k j:Int):Rat);rw[A8d,A1v,A1v,A1v,<-H,<-I,<-J,<-g];generalize Cb a j j j=p at *
  generalize (Xf M d j:Rat)=q at *
  grind
def Aof {M:Nat->Nat->Int}{d:Int}{K:Nat}(h:nl d.natAbs<=K)(g:∀ i k,i<n->k<n->nl (M i k).natAbs<=K):∀ j,j<=n->nl (Xf M d j).natAbs<=zs K j/\∀ i k,i<n->k<n->nl (Rf M j i k).natAbs<=zs K j
 |0,_=>⟨h,g⟩
 |j+1,hj=>by
  obtain⟨u,e⟩:=Aof h g j oV;refine⟨A0l (B5 u (e j j oV oV)) (by show _<=2*zs K j+2;omega),fun i k m t=>?_⟩;exact A0l (Acm (B5 (e i k m t) (e j j oV oV)) (B5 (e i j m oV) (e k j t oV))) (by show _<=2*zs K j+2;omega)
theorem Awh {M:Nat->Nat->Int}{d:Int}{K:Nat}(Q:d≠0)(P:∀ i k,i<n->k<n->a i k*(d:Rat)=M i k)(m:nl d.natAbs<=K)(g:∀ i k,i<n->k<n->nl (M i k).natAbs<=K)(F:j<=n)(h0:∀ t,t<j->Cb a t t t≠0){i k:Nat}(E:i<n)(H:k<n):Sz (Cb a j i k) (zs K j):=by
 obtain⟨R,L⟩:=Aki Q P j F h0;obtain⟨N,O⟩:=Aof (n:=n) m g j F;have e:=L i k E H;obtain⟨s,u,z⟩:∃ s:Int,s.natAbs=1/\Xf M d j*s=((Xf M d j).natAbs:Int):=by
  rcases A43 (Xf M d j) 0 with h|h
  ·exact⟨-1,rfl,oV⟩
  exact⟨1,rfl,oV⟩
 have I:Cb a j i k*(((Xf M d j).natAbs:Nat):Rat)=((Rf M j i k*s:Int):Rat):=by
  rw[<-A1f,<-z,A1v,A1v,<-e];grind
 obtain⟨J,C⟩:=Xg I oV;rw[A2t,u,A5u]at C;exact⟨A0l (Cl C) (O i k E H),A0l (Cl (A4l oV J)) N⟩
end
end
section
variable {A:List (List Rat)}{i n:Nat}{m u:PH}{r:Value×List Value}{v:Value}
def Aol (h:Fm u v (Dv A))(C:Sq A)(hy:Aue A):Fn0 prog 135 [v] u fun v' _=>v'=.bool true:=by
 obtain⟨a,c,rfl⟩:=h.opn;rw[Bs]at h⊢;have a0:=C.le;refine Fn0.o func135<|G.c call85 (Ss h C) ?_;rintro v1 u1 W rfl;refine G.nF 0 0<|G.nF A.length A.length<|G.l (ι:=Nat) (fun i=>[(0,sV a A.length c),(22,iV A.length),(23,iV i)]) (fun _=>[])
  (fun i u' R=>i<=A.length/\R=PH.mt) (fun i=>A.length-i) 0 ⟨oV,rfl⟩ ?_
 rintro J i hJ u2 m2 l2 ⟨hi,rfl⟩;by_cases d:i<A.length
 ·refine G.lT i A.length ?_;have P:=h.mono (W.trans l2);have F:0<A[i].length:=by rw[C.len d];omega
  obtain⟨e,z,b2,o2,c2,rfl,U,e2⟩:=P.cell d F;refine G.a e z A.length c i 1 oV<|G.lU none e (z+i*1) _ U ?_;rw[C.len d]at U⊢;refine G.l (ι:=Nat) (fun k=>[(0,sV (some ⟨e,z,none⟩) A.length c),(22,iV A.length),(23,iV i),(6,iV i),(30,iV A.length),(31,iV k)]) (fun _=>[])
   (fun k u' R=>k<=A.length/\R=PH.mt) (fun k=>A.length-k) 0 ⟨oV,rfl⟩ ?_
  rintro J2 k O u3 m3 Q ⟨hk,rfl⟩;by_cases t:k<A.length
  ·refine G.lT k A.length ?_;have j:k<A[i].length:=by rw[C.len d];omega
   have g:i<A[k].length:=by rw[C.len t];omega
   have V:=h.mono (W.trans (l2.trans Q));obtain⟨Y,a1,E,H,I,K,L,N⟩:=V.cell d j;cases K;refine G.a e z A.length c i 1 oV<|G.lU none e (z+i*1) _ L<|G.a E H A[i].length I k 1 j<|G.lU none E (H+k*1) _ N ?_;obtain⟨b3,o3,T,X,Z,K,e3,e4⟩:=V.cell t g;cases K;exact G.a e z A.length c k 1 oV<|G.lU none e (z+k*1) _ e3<|G.a T X A[k].length Z i 1 g<|G.lU none T (X+i*1) _ e4<|G.y (Ag A[i][k]) (Ag A[k][i]) (by rw[hy i k d t j g])<|G.i k<|G.b (O (k+1) _ _ _ cV Q ⟨oV,rfl⟩ oV)
  exact G.lF k A.length<|G.i i<|G.b (hJ (i+1) _ _ _ cV (l2.trans Q) ⟨oV,rfl⟩ oV)
 exact G.lF i A.length<|G.r (.bool true) ⟨rfl,rfl⟩
def idL (n:Nat):List (List Rat):=(List.range n).map fun i=>(List.range n).map fun k=>if k=i then 1 else 0
section
variable {x y:Arr} {rows:List (Value×List Value)} {rest:List Arr}
def Aqu (h:rows[i]?=some r):(x::y::(rows.map Bj++rest))[i+2]?=some (Bj r):=by
 obtain⟨d,e⟩:=A0o.1 h;simp only[A2v];rw[A09 (by simpa using d),A0n,h];rfl
def Avu (h:i<rows.length):(x::y::(rows.map Bj++rest)).set (i+2) (Bj r)=x::y::((rows.set i r).map Bj++rest):=by
 simp only[A2s];rw[A9q _ _ (by simpa using h),A10]
def Azo {k:Nat}{z:Arr}(h:rest[k]?=some z):(x::y::(rows.map Bj++rest))[rows.length+k+2]?=some z:=by
 simp only[A2v];rw[A1d mV,A0k,Nat.add_sub_cancel_left,h]
end
def Azi {y:Arr}{rest:List Arr}{g n c w i:Nat}{rows:List (Value×List Value)}{X:List (List Rat)}(t:Bag m (oQ (.slice (some ⟨g,0,none⟩) n c) rows::y::(rows.map Bj++rest)))(L:QAt u rows X)(J:Rec n w X)(N:i<n)(R:0<w) :
 ∃ E H C,rows[i]?=some (.slice (some ⟨E,0,none⟩) w H,C)/\C.length=w/\AtP QP u C (gM X i)/\ElP m g (0+i*1) (.slice (some ⟨E,0,none⟩) w H)/\∀ j,j<w->∃ f,C[j]?=some (qv f)/\QP u (qv f) (gR (gM X i) j)/\ElP m E (0+j*4) (qv f):=by
 have Q:rows.length=n:=by rw[L.1,J.1]
 have d:rows[i]?=some rows[i]:=A0i oV;have h:=L.2 i _ d;obtain⟨⟨T,C⟩,O⟩:∃ x,rows[i]=x:=⟨_,rfl⟩;rw[O]at d h;simp only at h;have z:C.length=w:=by rw[h.1,J.2 i N]
 obtain⟨E,H,e⟩:=t.ptr (i+2) (Aqu d) (by intro e;simp only[Bj]at e;rw[e]at z;simp at z;omega);simp only[Bj]at e;rw[z]at e;subst e;refine⟨E,H,C,d,z,h,t.el 0 (x:=oQ _ rows) rfl rfl (by show (rows.map (·.1))[i]?=_;rw[A0n,d];rfl),fun j P=>?_⟩;have F:j<(gM X i).length:=by rw[J.2 i N];exact P
 obtain⟨e,K,I⟩:=h.at F;obtain⟨f,rfl⟩:=I.opQ;rw[<-E7 F]at I;exact⟨f,K,I,t.el (i+2) (x:=Bj _) (Aqu d) rfl K⟩
def Azm {x y:Arr}{g n c i j:Nat}{rows d:List (Value×List Value)}(h:Bag m (x::y::(rows.map Bj++(oQ (.slice (some ⟨g,0,none⟩) n c) d::d.map Bj))))(N:QAt u d A)(K:Rec n n A)(O:i<n)(R:j<n) :
 ∃ H I f,ElP m g (0+i*1) (.slice (some ⟨H,0,none⟩) n I)/\QP u (qv f) (gR (gM A i) j)/\ElP m H (0+j*4) (qv f):=by
 have T:d.length=n:=by rw[N.1,K.1]
 have z:d[i]?=some d[i]:=A0i oV;have t:=N.2 i _ z;obtain⟨⟨U,L⟩,Q⟩:∃ x,d[i]=x:=⟨_,rfl⟩;rw[Q]at z t;simp only at t;have C:L.length=n:=by rw[t.1,K.2 i O]
 have E:(x::y::(rows.map Bj++(oQ (.slice (some ⟨g,0,none⟩) n c) d::d.map Bj)))[rows.length+(i+1)+2]?=some (Bj (U,L)):=Azo (by rw[A2v,A0n,z];rfl);obtain⟨H,I,e⟩:=h.ptr _ E (by intro e;simp only[Bj]at e;rw[e]at C;simp at C;omega);simp only[Bj]at e;rw[C]at e;subst e;have F:j<(gM A i).length:=by rw[K.2 i O];exact R
 obtain⟨e,P,J⟩:=t.at F;obtain⟨f,rfl⟩:=J.opQ;rw[<-E7 F]at J;exact⟨H,I,f,h.el _ (x:=oQ _ d) (Azo (k:=0) rfl) rfl (by show (d.map (·.1))[i]?=_;rw[A0n,z];rfl),J,h.el _ (x:=Bj _) E rfl P⟩
def Arl (d:i<n):gM (idL n) i=(List.range n).map fun k=>if k=i then 1 else 0:=by
 unfold idL gM;rw[A0j,A0n,A4c d];rfl
def Ajm (n:Nat):Rec n n (idL n):=⟨by simp[idL],fun i d=>by rw[Arl d];simp⟩
def Bag.nilsQ {l:List Arr}{m:PH}(h:Bag m l):∀ n,Bag m ((List.replicate n Jh).map Bj++l)
 |0=>h
 |n+1=>⟨m,Af.nil _ _ _,Bag.nilsQ h n⟩
def lvA (A:List (List Rat))(p q:Nat):Rat:=Cb (en A) q p q/Cb (en A) q q q
def Ahq {q:Rat}(h:0<q):q≠0:=fun e=>by rw[e]at h;exact absurd h jV
def Auu (u:PH)(es:List Value)(A:List (List Rat))(i:Nat):Prop:=∀ j,j<i->∃ f,es[j]?=some (qv f)/\QP u (qv f) (Cb (en A) j j j)
def Auu.mono {u u':PH}{es:List Value}{A:List (List Rat)}{i:Nat}(h:Auu u es A i)(hl:PH.le u u'):Auu u' es A i:=fun j hj=>by
 obtain⟨f,h1,h2⟩:=h j hj;exact⟨f,h1,h2.mono hl⟩
structure FS where
 i:Nat
 rows:List (Value×List Value)
 L:List (List Rat)
 es:List Value
structure FK where
 k:Nat
 rows:List (Value×List Value)
 L:List (List Rat)
def Aqy {rows:List (Value×List Value)}(h:rows[i]?=some r):(oQ v rows).es[i]?=some r.1:=by
 show (rows.map (·.1))[i]?=_;rw[A0n,h];rfl
def Ahi {u m:PH}{a:Option Addr}{U:Nat}{C:List (Value×List Value)}{A:List (List Rat)}{n B:Nat}(hA:Rec n n A)(hn:n<=12)(hB:B<=1000000)(aj:∀ j,j<n->0<Cb (en A) j j j)(a7:∀ j i k,j<=n->i<n->k<n->Sz (Cb (en A) j i k) B)
 (ba:QAt u C A) (ae:Bag m (oQ (.slice a n U) C::C.map Bj)) :
 Ah prog 64 [.slice a n U] u m fun v u' m'=>m'=PH.mt/\∃ l d,v=.tuple #[l,d,.int .i64 n]:=by
 refine Ah.o func64<|G.make 141 1 24 (.slice none 0 0) n kV rfl rfl oV oV oV ?_;rintro v1 m1 b9 ⟨⟨H,oL,sL⟩,rfl⟩;obtain⟨ce,cb,b4⟩:∃ b c,Value.slice (some ⟨H,oL,sL⟩) n n=.slice (some ⟨b,0,none⟩) n c:=by
  rcases b9.2 with ⟨e,_⟩|⟨g,c,_,_,_,e,_⟩
  ·simp at e
  rw[A2z]at e;exact⟨g,c,e⟩
 simp only[Value.slice.injEq,A0u,Addr.mk.injEq,true_and]at b4;obtain⟨⟨rfl,rfl,rfl⟩,rfl⟩:=b4;refine G.make 84 4 64 zQ n kV rfl rfl oV oV oV ?_;rintro v2 m2 b7 ⟨⟨K,oD,sD⟩,rfl⟩;obtain⟨cd,c9,b3⟩:∃ b c,Value.slice (some ⟨K,oD,sD⟩) n n=.slice (some ⟨b,0,none⟩) n c:=by
  rcases b7.2 with ⟨e,_⟩|⟨g,c,_,_,_,e,_⟩
  ·simp at e
  rw[A2z]at e;exact⟨g,c,e⟩
 simp only[Value.slice.injEq,A0u,Addr.mk.injEq,true_and]at b3;obtain⟨⟨rfl,rfl,rfl⟩,rfl⟩:=b3;have bo:Bag m2 (oQ (.slice (some ⟨H,0,none⟩) n n) (List.replicate n Jh)::Bj (.slice (some ⟨K,0,none⟩) n n,List.replicate n zQ)::((List.replicate n Jh).map Bj++(oQ (.slice a n U) C::C.map Bj))):=by
  have h0:=ae.nilsQ n;have h1:Bag m1 (oQ (.slice (some ⟨H,0,none⟩) n n) (List.replicate n Jh)::((List.replicate n Jh).map Bj++(oQ (.slice a n U) C::C.map Bj))):=⟨m,by rw[Aa6,A8k];exact b9,h0⟩;have h2:Bag m2 (Bj (.slice (some ⟨K,0,none⟩) n n,List.replicate n zQ)::oQ (.slice (some ⟨H,0,none⟩) n n) (List.replicate n Jh)::((List.replicate n Jh).map Bj++(oQ (.slice a n U) C::C.map Bj))):=⟨m1,b7,h1⟩;exact Bag.perm (List.Perm.swap _ _ _) h2
 refine G.l (ι:=Nat×List (Value×List Value)) (fun i=>[(0,sV a n U),(5,iV n),(6,sV (some ⟨H,0,none⟩) n n),(7,sV (some ⟨K,0,none⟩) n n),(23,iV n),(24,iV i.1)]) (fun _=>[])
  (fun i u' m'=>i.1<=n/\i.2.length=n/\(∀ j r,i.2[j]?=some r->if j<i.1 then AtP QP u' r.2 (gM (idL n) j) else r=Jh)/\Bag m' (oQ (.slice (some ⟨H,0,none⟩) n n) i.2::Bj (.slice (some ⟨K,0,none⟩) n n,List.replicate n zQ)::(i.2.map Bj++(oQ (.slice a n U) C::C.map Bj))))
  (fun i=>n-i.1) (0,List.replicate n Jh)
  ⟨A1c _,mV,fun j r P=>by rw[if_neg (Nat.not_lt_zero _)];exact A66 (A0w P),bo⟩ ?_
 rintro J ⟨i,rows⟩ hJ u3 m3 l3 ⟨hi,ad,a3,O⟩;simp only at hi ad a3 O hJ;by_cases E:i<n
 ·refine G.lT i n<|G.make 84 4 64 zQ n kV rfl rfl oV oV oV ?_;rintro v4 m4 b5 ⟨⟨I,o4,s4⟩,rfl⟩;obtain⟨cc,c8,b2⟩:∃ b c,Value.slice (some ⟨I,o4,s4⟩) n n=.slice (some ⟨b,0,none⟩) n c:=by
   rcases b5.2 with ⟨e,_⟩|⟨g,c,_,_,_,e,_⟩
   ·simp at e
   rw[A2z]at e;exact⟨g,c,e⟩
  simp only[Value.slice.injEq,A0u,Addr.mk.injEq,true_and]at b2;obtain⟨⟨rfl,rfl,rfl⟩,rfl⟩:=b2;have ak:rows[i]?=some Jh:=by
   have hx:=a3 i rows[i] (A0i oV);rw[if_neg oV]at hx;rw[A0i oV,hx]
  obtain⟨m0,c2,bk⟩:=O.focus (i+2) (Aqu ak);have bw:m0=m3:=by
   rcases c2.2 with ⟨_,_,e⟩|⟨_,_,_,_,_,e,_⟩
   ·exact e.symm
   simp[Bj,Jh]at e
  subst bw;have F:=bk (Bj (.slice (some ⟨I,0,none⟩) n n,List.replicate n zQ)) _ b5;rw[Avu oV]at F;obtain⟨c4,bn,b0⟩:=F.focus 0 rfl;rw[Aa6]at bn;refine G.a H 0 n n i 1 E<|G.storeA 1 c4 _ H n n i (.slice (some ⟨I,0,none⟩) n n) kV bn (by simp[ad,E]) rfl rfl ?_;intro m5 c3;have af:=b0 (oQ (.slice (some ⟨H,0,none⟩) n n) (rows.set i (.slice (some ⟨I,0,none⟩) n n,List.replicate n zQ))) m5 (by
   rw[Aa6,A10];exact c3)
  obtain⟨rs,ch⟩:∃ rs,rs=rows.set i (Value.slice (some ⟨I,0,none⟩) n n,List.replicate n zQ):=⟨_,rfl⟩;have br:ElP m5 H (0+i*1) (.slice (some ⟨I,0,none⟩) n n):=af.el 0 (x:=oQ _ _) rfl rfl (Aqy (A2q oV));refine G.a H 0 n n i 1 E<|G.lM none H (0+i*1) _ br ?_;have c0:∀ e:List Value,(rows.set i (Value.slice (some ⟨I,0,none⟩) n n,List.replicate n zQ)).set i (Value.slice (some ⟨I,0,none⟩) n n,e)=rows.set i (Value.slice (some ⟨I,0,none⟩) n n,e):=fun e=>A5i _;refine G.l (ι:=Nat×List Value) (fun k=>[(0,sV a n U),(5,iV n),(6,sV (some ⟨H,0,none⟩) n n),(7,sV (some ⟨K,0,none⟩) n n),(23,iV n),(24,iV i),(8,iV i),(36,iV n),(37,iV k.1)]) (fun _=>[])
   (fun k u' m'=>k.1<=n/\k.2.length=n/\(∀ j,j<k.1->∃ f,k.2[j]?=some (qv f)/\QP u' (qv f) 0)/\Bag m' (oQ (.slice (some ⟨H,0,none⟩) n n) (rows.set i (.slice (some ⟨I,0,none⟩) n n,k.2))::Bj (.slice (some ⟨K,0,none⟩) n n,List.replicate n zQ)::((rows.set i (.slice (some ⟨I,0,none⟩) n n,k.2)).map Bj++(oQ (.slice a n U) C::C.map Bj))))
   (fun k=>n-k.1) (0,List.replicate n zQ)
   ⟨A1c _,mV,fun j P=>absurd P (Nat.not_lt_zero _),af⟩ ?_
  rintro J2 ⟨k,e⟩ aa u6 m6 W ⟨hk,ay,he,a4⟩;simp only at hk ay he a4 aa;have ai:i<(rows.set i (Value.slice (some ⟨I,0,none⟩) n n,e)).length:=by simp[ad,E]
  have bg:(rows.set i (Value.slice (some ⟨I,0,none⟩) n n,e))[i]?=some (Value.slice (some ⟨I,0,none⟩) n n,e):=A2q oV;have bf:ElP m6 H (0+i*1) (.slice (some ⟨I,0,none⟩) n n):=a4.el 0 (x:=oQ _ _) rfl rfl (Aqy bg);obtain⟨m0,X,N⟩:=a4.focus (i+2) (Aqu bg);rw[Iv]at X;by_cases bt:k<n
  ·refine G.lT k n<|G.a H 0 n n i 1 E<|G.lM none H (0+i*1) _ bf<|G.c call24 (Od (z:=0) oV oV) ?_;intro v7 u7 R k7;rw[show ((0:Int):Rat)=0 from by decide]at k7;obtain⟨Q,rfl⟩:=k7.opQ;refine G.a I 0 n n k 4 bt<|G.storeA 4 m0 _ I n n k (qv Q) kV X (by show k<e.length;omega) rfl rfl ?_;intro m8 a8;have V:=N (Bj (.slice (some ⟨I,0,none⟩) n n,e.set k (qv Q))) m8 a8;rw[Avu ai,A5i]at V;have a0:Bag m8 (oQ (.slice (some ⟨H,0,none⟩) n n) (rows.set i (.slice (some ⟨I,0,none⟩) n n,e.set k (qv Q)))::Bj (.slice (some ⟨K,0,none⟩) n n,List.replicate n zQ)::((rows.set i (.slice (some ⟨I,0,none⟩) n n,e.set k (qv Q))).map Bj++(oQ (.slice a n U) C::C.map Bj))):=by
    have:oQ (.slice (some ⟨H,0,none⟩) n n) (rows.set i (.slice (some ⟨I,0,none⟩) n n,e.set k (qv Q)))=oQ (.slice (some ⟨H,0,none⟩) n n) (rows.set i (.slice (some ⟨I,0,none⟩) n n,e)):=by
     unfold oQ;rw[A10,A10]
    rw[this];exact V
   refine G.i k<|G.b (aa (k+1,e.set k (qv Q)) _ _ _ cV (W.trans R) ⟨dV,by simpa using ay,fun j P=>?_,a0⟩ dV);dsimp only at P⊢;by_cases e1:j=k
   ·subst e1;exact⟨Q,A2q oV,k7⟩
   obtain⟨f,h1,h2⟩:=he j oV;exact⟨f,by rw[A5t (fun h=>e1 h.symm)];exact h1,h2.mono R⟩
  obtain rfl:k=n:=oV;refine G.lF k k<|G.a H 0 k k i 1 E<|G.lM none H (0+i*1) _ bf<|G.c call24 (Od (z:=1) oV oV) ?_;intro v7 u7 R k7;rw[show ((1:Int):Rat)=1 from by decide]at k7;obtain⟨Q,rfl⟩:=k7.opQ;refine G.a I 0 k k i 4 E<|G.storeA 4 m0 _ I k k i (qv Q) kV X (by show i<e.length;omega) rfl rfl ?_;intro m8 a8;have V:=N (Bj (.slice (some ⟨I,0,none⟩) k k,e.set i (qv Q))) m8 a8;rw[Avu ai,A5i]at V;have a0:Bag m8 (oQ (.slice (some ⟨H,0,none⟩) k k) (rows.set i (.slice (some ⟨I,0,none⟩) k k,e.set i (qv Q)))::Bj (.slice (some ⟨K,0,none⟩) k k,List.replicate k zQ)::((rows.set i (.slice (some ⟨I,0,none⟩) k k,e.set i (qv Q))).map Bj++(oQ (.slice a k U) C::C.map Bj))):=by
   have:oQ (.slice (some ⟨H,0,none⟩) k k) (rows.set i (.slice (some ⟨I,0,none⟩) k k,e.set i (qv Q)))=oQ (.slice (some ⟨H,0,none⟩) k k) (rows.set i (.slice (some ⟨I,0,none⟩) k k,e)):=by
    unfold oQ;rw[A10,A10]
   rw[this];exact V
  refine G.i i<|G.b (hJ (i+1,rows.set i (.slice (some ⟨I,0,none⟩) k k,e.set i (qv Q))) _ _ _ cV ((l3.trans W).trans R) ⟨dV,by simpa using ad,fun j r P=>?_,a0⟩ dV);dsimp only at P⊢;rw[A2g]at P;by_cases e1:i=j
  ·subst e1;rw[if_pos rfl,if_pos oV]at P;simp only[A0u]at P;rw[if_pos oV,<-P,Arl E];refine⟨by simp[ay],fun t x ht=>?_⟩;rw[A0n]at ht;have bm:t<k:=by
    rcases A16 t k with h|h
    ·exact h
    rw[A1k gV]at ht;simp at ht
   rw[A4c bm]at ht;simp only[A3g,A0u]at ht;by_cases e2:t=i
   ·subst e2;exact⟨qv Q,A2q oV,by rw[<-ht,if_pos rfl];exact k7⟩
   obtain⟨f,h1,h2⟩:=he t bm;exact⟨qv f,by rw[A5t (fun h=>e2 h.symm)];exact h1,by rw[<-ht,if_neg e2];exact h2.mono R⟩
  rw[if_neg e1]at P;have:=a3 j r P;by_cases bi:j<i
  ·rw[if_pos bi]at this;rw[if_pos oV];exact this.mono (fun _ _ h=>h.mono (W.trans R))
  rw[if_neg bi]at this;rw[if_neg oV];exact this
 obtain rfl:n=i:=oV;refine G.lF n n ?_;have ap:QAt u3 rows (idL n):=⟨by rw[ad,(Ajm n).1],fun j r P=>by
  have bs:j<n:=by
   obtain⟨h1,_⟩:=A0o.1 P;omega
  have:=a3 j r P;rwa[if_pos bs]at this⟩
 have az:∀ p q,p<n->q<p->Sz (lvA A p q) (B+B):=fun p q hp hq=>Vx (a7 q p q oV hp oV) (a7 q q q oV oV oV) (Ahq (aj q oV));refine G.l (ι:=FS) (fun s=>[(0,sV a n U),(5,iV n),(6,sV (some ⟨H,0,none⟩) n n),(7,sV (some ⟨K,0,none⟩) n n),(10,iV s.i)]) (fun _=>[])
  (fun s u' m'=>s.i<=n/\(∀ p q,p<s.i->q<p->gR (gM s.L p) q=lvA A p q)/\Rec n n s.L/\QAt u' s.rows s.L/\s.es.length=n/\Auu u' s.es A s.i/\Bag m' (oQ (.slice (some ⟨H,0,none⟩) n n) s.rows::Bj (.slice (some ⟨K,0,none⟩) n n,s.es)::(s.rows.map Bj++(oQ (.slice a n U) C::C.map Bj))))
  (fun s=>n-s.i) ⟨0,rows,idL n,List.replicate n zQ⟩
  ⟨A1c _,fun p q hp _=>absurd hp (Nat.not_lt_zero _),Ajm n,ap,mV,fun j P=>absurd P (Nat.not_lt_zero _),O⟩ ?_
 clear O a3 ap ad hJ;rintro J ⟨i,rows,L,es⟩ hJ u4 m4 l4 ⟨hi,bh,hL,au,bd,hD,O⟩;simp only at hi bh hL au bd hD O hJ;by_cases E:i<n
 ·refine G.lT i n ?_;have hw:0<n:=oV;obtain⟨gA,cA,eA⟩:∃ b c,a=some ⟨b,0,none⟩/\U=c:=by
   have bl:C.length=n:=by rw[ba.1,hA.1]
   obtain⟨b,c,e⟩:=ae.ptr 0 rfl (by intro e;simp only[oQ,A57]at e;rw[e]at bl;simp at bl;omega);simp only[oQ,Value.slice.injEq]at e;exact⟨b,c,e.1,e.2.2⟩
  obtain⟨rfl,rfl⟩:=eA;refine G.l (ι:=FK) (fun s=>[(0,sV (some ⟨gA,0,none⟩) n U),(5,iV n),(6,sV (some ⟨H,0,none⟩) n n),(7,sV (some ⟨K,0,none⟩) n n),(10,iV i),(11,iV s.k)]) (fun _=>[])
   (fun s u' m'=>s.k<=i/\(∀ p q,p<i->q<p->gR (gM s.L p) q=lvA A p q)/\(∀ q,q<s.k->gR (gM s.L i) q=lvA A i q)/\Rec n n s.L/\QAt u' s.rows s.L/\Bag m' (oQ (.slice (some ⟨H,0,none⟩) n n) s.rows::Bj (.slice (some ⟨K,0,none⟩) n n,es)::(s.rows.map Bj++(oQ (.slice (some ⟨gA,0,none⟩) n U) C::C.map Bj))))
   (fun s=>i-s.k) ⟨0,rows,L⟩
   ⟨A1c _,bh,fun q hq=>absurd hq (Nat.not_lt_zero _),hL,au,O⟩ ?_
  clear O au;rintro J2 ⟨k,T,L2⟩ aa u5 m5 l5 ⟨hk,a9,a1,Y,Z,F⟩;simp only at hk a9 a1 Y Z F aa;have b8:=hD.mono l5;have ao:QAt u5 C A:=ba.mono ((l3.trans l4).trans l5);have ar:∀ j,j<i->∃ f,ElP m5 K (0+j*4) (qv f)/\QP u5 (qv f) (Cb (en A) j j j):=fun j P=>by
   obtain⟨f,h1,h2⟩:=b8 j P;exact⟨f,F.el 1 (x:=Bj (.slice (some ⟨K,0,none⟩) n n,es)) rfl rfl h1,h2⟩
  obtain⟨gi,ci,ei,ak,c6,b6,an,bb⟩:=Azi F Z Y E hw;by_cases bj:k<i
  ·refine G.lT k i ?_;obtain⟨gk,ck,ek,cg,c7,c5,bx,bp⟩:=Azi F Z Y (show k<n by omega) hw;obtain⟨ga,ca,fa,av,aw,ax⟩:=Azm F ao hA E (show k<n by omega);refine G.a gA 0 n U i 1 E<|G.lM none gA (0+i*1) _ av<|G.a ga 0 n ca k 4 oV<|G.lM (some 4) ga (0+k*4) (qv fa) ax<|G.l (ι:=Nat×Q4) (fun s=>[(0,sV (some ⟨gA,0,none⟩) n U),(5,iV n),(6,sV (some ⟨H,0,none⟩) n n),(7,sV (some ⟨K,0,none⟩) n n),(10,iV i),(11,iV k),(12,.p 21007 0),(13,iV s.1)]) (fun s=>[(21007,⟨84,qc s.2⟩)])
    (fun s u' m'=>s.1<=k/\QP u' (qv s.2) (Cb (en A) s.1 i k)/\m'=m5)
    (fun s=>k-s.1) (0,fa)
    ⟨A1c _,aw,rfl⟩ ?_
   rintro J3 ⟨j,fs⟩ ab u6 m6 W ⟨P,a2,rfl⟩;simp only at P a2 ab;have al:=a7 j i k oV E oV;by_cases a5:j<k
   ·refine G.lT j k ?_;obtain⟨fi,_,ac,am⟩:=bb j oV;obtain⟨fk,_,be,bq⟩:=bp j oV;obtain⟨fd,ag,ah⟩:=ar j oV;rw[a1 j a5]at ac;rw[a9 k j bj a5]at be;have sI:=az i j E oV;have sK:=az k j oV a5;have a6:=a7 j j j oV oV oV;refine G.a H 0 n n i 1 E<|G.lM none H (0+i*1) _ an<|G.a gi 0 n ci j 4 oV<|G.lM (some 4) gi (0+j*4) (qv fi) am<|G.a H 0 n n k 1 oV<|G.lM none H (0+k*1) _ bx<|G.a gk 0 n ck j 4 oV<|G.lM (some 4) gk (0+j*4) (qv fk) bq<|G.a K 0 n n j 4 oV<|G.lM (some 4) K (0+j*4) (qv fd) ag<|G.c call127 (D7 (ac.mono W) (be.mono W) (sI.mono oV) (sK.mono oV)) ?_;intro v7 u7 R k7;obtain⟨Q,rfl⟩:=k7.opQ;have s7:=Kp sI sK;refine G.c call127 (D7 k7 (ah.mono (W.trans R)) (s7.mono oV) (a6.mono oV)) ?_;intro v8 u8 l8 k8;obtain⟨f8,rfl⟩:=k8.opQ;have s8:=Kp s7 a6;refine G.c call136 (Vj (a2.mono (R.trans l8)) k8 (al.mono oV) (s8.mono oV)) ?_;intro v9 u9 l9 k9;obtain⟨f9,rfl⟩:=k9.opQ;refine G.i j<|G.b (ab (j+1,f9) _ _ _ cV (((W.trans R).trans l8).trans l9) ⟨dV,k9,rfl⟩ dV)
   obtain rfl:k=j:=oV;refine G.lF k k ?_;obtain⟨fd,ag,ah⟩:=ar k bj;have a6:=a7 k k k oV oV oV;have bz:=aj k oV;refine G.a H 0 n n i 1 E<|G.lM none H (0+i*1) _ an<|G.a K 0 n n k 4 oV<|G.lM (some 4) K (0+k*4) (qv fd) ag<|G.c call27 (Akc a2 (ah.mono W) (al.mono oV) (a6.mono oV) (Ahq bz)) ?_;intro v7 u7 R k7;obtain⟨Q,rfl⟩:=k7.opQ;obtain⟨m0,X,N⟩:=F.focus (i+2) (Aqu ak);rw[Iv]at X;refine G.a gi 0 n ci k 4 oV<|G.storeA 4 m0 _ gi n ci k (qv Q) kV X (by show k<ei.length;omega) rfl rfl ?_;intro m8 a8;have ai:i<T.length:=(A0o.1 ak).1;have V:=N (Bj (.slice (some ⟨gi,0,none⟩) n ci,ei.set k (qv Q))) m8 a8;rw[Avu ai]at V;have a0:Bag m8 (oQ (.slice (some ⟨H,0,none⟩) n n) (T.set i (.slice (some ⟨gi,0,none⟩) n ci,ei.set k (qv Q)))::Bj (.slice (some ⟨K,0,none⟩) n n,es)::((T.set i (.slice (some ⟨gi,0,none⟩) n ci,ei.set k (qv Q))).map Bj++(oQ (.slice (some ⟨gA,0,none⟩) n U) C::C.map Bj))):=by
    rw[Aif ak];exact V
   have aq:i<L2.length:=by rw[Y.1];exact E
   have bu:k<(gM L2 i).length:=by rw[Y.2 i E];omega
   refine G.i k ?_;have b1:Rec n n (L2.set i ((gM L2 i).set k (lvA A i k))):=In Y E (by rw[A3r,Y.2 i E]);refine G.b (aa ⟨k+1,T.set i (.slice (some ⟨gi,0,none⟩) n ci,ei.set k (qv Q)),L2.set i ((gM L2 i).set k (lvA A i k))⟩ _ _ _ cV ((l5.trans W).trans R) ⟨dV,fun p q hp hq=>?_,fun q hq=>?_,b1,?_,a0⟩ dV)
   ·dsimp only;rw[I4 aq,if_neg oV];exact a9 p q hp hq
   ·dsimp only at hq⊢;rw[I4 aq,if_pos rfl,Apc bu];by_cases e:k=q
    ·rw[if_pos e,<-e]
    rw[if_neg e];exact a1 q oV
   dsimp only;exact (Z.mono (W.trans R)).set ai ((b6.mono (fun _ _ h=>h.mono (W.trans R))).set k k7)
  obtain rfl:i=k:=oV;refine G.lF i i ?_;clear aa;obtain⟨ga,ca,fa,av,aw,ax⟩:=Azm F ao hA E E;refine G.a gA 0 n U i 1 E<|G.lM none gA (0+i*1) _ av<|G.a ga 0 n ca i 4 oV<|G.lM (some 4) ga (0+i*4) (qv fa) ax<|G.l (ι:=Nat×Q4) (fun s=>[(0,sV (some ⟨gA,0,none⟩) n U),(5,iV n),(6,sV (some ⟨H,0,none⟩) n n),(7,sV (some ⟨K,0,none⟩) n n),(10,iV i),(14,.p 27007 0),(15,iV s.1)]) (fun s=>[(27007,⟨84,qc s.2⟩)])
   (fun s u' m'=>s.1<=i/\QP u' (qv s.2) (Cb (en A) s.1 i i)/\m'=m5)
   (fun s=>i-s.1) (0,fa)
   ⟨A1c _,aw,rfl⟩ ?_
  rintro J3 ⟨j,fs⟩ ab u6 m6 W ⟨P,a2,rfl⟩;simp only at P a2 ab;have al:=a7 j i i oV E E;by_cases a5:j<i
  ·refine G.lT j i ?_;obtain⟨fi,_,ac,am⟩:=bb j oV;obtain⟨fd,ag,ah⟩:=ar j a5;rw[a1 j a5]at ac;have sI:=az i j E a5;have a6:=a7 j j j oV oV oV;refine G.a H 0 n n i 1 E<|G.lM none H (0+i*1) _ an<|G.a gi 0 n ci j 4 oV<|G.lM (some 4) gi (0+j*4) (qv fi) am<|G.a H 0 n n i 1 E<|G.lM none H (0+i*1) _ an<|G.a gi 0 n ci j 4 oV<|G.lM (some 4) gi (0+j*4) (qv fi) am<|G.a K 0 n n j 4 oV<|G.lM (some 4) K (0+j*4) (qv fd) ag<|G.c call127 (D7 (ac.mono W) (ac.mono W) (sI.mono oV) (sI.mono oV)) ?_;intro v7 u7 R k7;obtain⟨Q,rfl⟩:=k7.opQ;have s7:=Kp sI sI;refine G.c call127 (D7 k7 (ah.mono (W.trans R)) (s7.mono oV) (a6.mono oV)) ?_;intro v8 u8 l8 k8;obtain⟨f8,rfl⟩:=k8.opQ;have s8:=Kp s7 a6;refine G.c call136 (Vj (a2.mono (R.trans l8)) k8 (al.mono oV) (s8.mono oV)) ?_;intro v9 u9 l9 k9;obtain⟨f9,rfl⟩:=k9.opQ;refine G.i j<|G.b (ab (j+1,f9) _ _ _ cV (((W.trans R).trans l8).trans l9) ⟨dV,k9,rfl⟩ dV)
  obtain rfl:i=j:=oV;refine G.lF i i ?_;clear ab;have c1:=aj i E;refine G.c call137 (Ad7 a2 (A0l al.1 oV)) ?_;rintro v7 u7 R rfl;rw[Acd];refine G.kF' (sg (Cb (en A) i i i)) 0 (by rw[Acx c1];decide) ?_;obtain⟨m0,X,N⟩:=F.focus 1 rfl;rw[Iv]at X;refine G.a K 0 n n i 4 E<|G.storeA 4 m0 _ K n n i (qv fs) kV X (by show i<es.length;omega) rfl rfl ?_;intro m8 a8;have V:=N (Bj (.slice (some ⟨K,0,none⟩) n n,es.set i (qv fs))) m8 a8;refine G.i i<|G.b (hJ ⟨i+1,T,L2,es.set i (qv fs)⟩ _ _ _ cV (((l4.trans l5).trans W).trans R) ⟨dV,fun p q hp hq=>?_,Y,Z.mono (W.trans R),by simpa using bd,fun t ht=>?_,V⟩ dV)
  ·dsimp only at hp⊢;by_cases e:p=i
   ·rw[e]at hq⊢;exact a1 q hq
   exact a9 p q oV hq
  dsimp only at ht⊢;by_cases e1:t=i
  ·subst e1;exact⟨fs,A2q oV,a2.mono R⟩
  obtain⟨f',h1,h2⟩:=b8 t oV;exact⟨f',by rw[A5t (fun h=>e1 h.symm)];exact h1,h2.mono (W.trans R)⟩
 obtain rfl:n=i:=oV;exact G.lF n n<|G.drop PH.mt kV (PH.mt_le _)<|G.r (.tuple #[.slice (some ⟨H,0,none⟩) n n,.slice (some ⟨K,0,none⟩) n n,.int .i64 n]) ⟨rfl,_,_,rfl⟩
end
section
section
variable [Fl:Cj] {P:Program} {c:Cx} {s:S} {u m u' m':PH} {ρ:Nat->Nat} {w w':World}
end
section
variable [Fl:Cj] {P:Program} [A6 P] {fn:Func} {Post:Ca} {st:List KI×S} {u m:PH}
end
section
variable [Fl:Cj] {P:Program} [A6 P] {fnc:Func} {Post:Ca} {st:List KI×S} {u m:PH}
end
end
section
variable {E c c' i k n n' w:Nat}{R Y q:List Int}{X:List (List Int)}{a a':Option Addr}{cs es:List Value}{o p s:Arr}{r:Value×List Value}{rows:List (Value×List Value)}{u:PH}{v:Value}
def Dy (r:Value×List Value):Arr:=⟨r.1,124,2,r.2⟩
def oN (v:Value)(rows:List (Value×List Value)):Arr:=⟨v,183,1,rows.map (·.1)⟩
def Ak4 {m0 m:PH}:(Dy r).At m0 m=Af m0 m r.1 124 2 r.2:=rfl
def Aeq {m0 m:PH}:(oN v rows).At m0 m=Af m0 m v 183 1 (rows.map (·.1)):=rfl
def Awr {x:Value}{es es':List Value}(h:rows[i]?=some (x,es)):oN v (rows.set i (x,es'))=oN v rows:=by
 unfold oN;rw[T5 (r':=(x,es')) h rfl]
def Lx (h:rows[i]?=some r):(s::p::o::rows.map Dy)[i+3]?=some (Dy r):=by simp[h]
def Aqi :(s::p::o::rows.map Dy).set (i+3) (Dy r)=s::p::o::(rows.set i r).map Dy:=by
 rw[A2s,A2s,A2s,A10]
structure N3 where
 b:Bool
 a:Option Addr
 n:Nat
 c:Nat
def nv (f:N3):Value:=.agg #[.bool f.b,.slice f.a f.n f.c]
def Awy (f:N3):List SV:=[.v (.bool f.b),.v (.slice f.a f.n f.c)]
def Br.opN {z:Int}(h:Br u v z):∃ f,v=nv f:=by
 obtain⟨b,a,n,c,rfl⟩:=h.opn;exact⟨⟨b,a,n,c⟩,rfl⟩
def NAt (u:PH)(rows:List (Value×List Value))(X:List (List Int)):Prop:=rows.length=X.length/\∀ (i:Nat) (r:Value×List Value),rows[i]?=some r->AtP Br u r.2 (gMZ X i)
def NAt.mono {u u':PH}{rows:List (Value×List Value)}{X:List (List Int)}(h:NAt u rows X)(hl:PH.le u u'):NAt u' rows X:=⟨h.1,fun i r hr=>(h.2 i r hr).mono (fun _ _ k=>k.mono hl)⟩
def NAt.set (h:NAt u rows X)(t:i<rows.length)(z:AtP Br u r.2 q):NAt u (rows.set i r) (X.set i q):=by
 refine⟨by simp[h.1],fun j r' d=>?_⟩;rw[Mn (by rw[<-h.1];exact t)];rw[A2g]at d;by_cases e:i=j
 ·subst e;rw[if_pos rfl,if_pos t]at d;simp only[A0u]at d;rw[if_pos rfl,<-d];exact z
 rw[if_neg e]at d⊢;exact h.2 j r' d
def Ap5 (i:Nat):gMZ (X++[q]) i=if i<X.length then gMZ X i else if i=X.length then q else []:=by
 unfold gMZ;rw[A0j,A0j];by_cases h:i<X.length
 ·rw[A09 h,if_pos h]
 rw[if_neg h];by_cases e:i=X.length
 ·subst e;rw[if_pos rfl];simp
 rw[if_neg e,A1k gV];rfl
def NAt.snoc (h:NAt u rows X)(j:AtP Br u r.2 q):NAt u (rows++[r]) (X++[q]):=by
 refine⟨by simp[h.1],fun i r' d=>?_⟩;rw[Ap5];by_cases e:i<rows.length
 ·rw[A09 e]at d;rw[if_pos (by rw[<-h.1];exact e)];exact h.2 i r' d
 rw[A1d oV]at d;have t:i-rows.length=0:=by
  rcases A1p (i-rows.length) with h0|h0
  ·exact h0
  rw[A1k gV]at d;cases d
 rw[t]at d;simp at d;subst d;rw[if_neg (by rw[<-h.1];omega),if_pos (by rw[<-h.1];omega)];exact j
def E6 (rv pv:Value)(f:N3)(odd:Bool):List Value:=[rv,pv,.bool f.b,.slice f.a f.n f.c,.bool odd]
def I3 (g:Nat)(cs:List Value):Arr:=⟨.slice (some ⟨g,0,none⟩) 5 5,185,1,cs⟩
def Vg {g:Nat}{m0 m:PH}:(I3 g cs).At m0 m=Af m0 m (.slice (some ⟨g,0,none⟩) 5 5) 185 1 cs:=rfl
def Ayq (h:∀ x∈es,Be x=true/\x.cells = #[x]):Bm 1 es:=fun x t=>by
 obtain⟨e,j⟩:=h x t;rw[j];exact⟨rfl,fun y d=>by simp at d;subst d;exact e⟩
def Aje {f:N3}{odd:Bool}:Bm 1 (E6 (.slice a n c) (.slice a' n' c') f odd):=Ayq (by
 intro x d;simp only[E6,A0v,A1q,or_false]at d;rcases d with rfl|rfl|rfl|rfl|rfl<;>exact⟨rfl,rfl⟩)
def Vu (h:∀ x∈es,x.cells = #[x]):Bb es=es:=by
 induction es with
 |nil=>rfl
 |cons e es ih =>
  unfold Bb at ih⊢;rw[A7n,ih (fun x d=>h x (A01 _ d)),h e mV];rfl
def Rc {f:N3}{odd:Bool}:∀ x∈E6 (.slice a n c) (.slice a' n' c') f odd,x.cells = #[x]:=by
 intro x d;simp only[E6,A0v,A1q,or_false]at d;rcases d with rfl|rfl|rfl|rfl|rfl<;>rfl
def Adn {m:PH}{g:Nat}{f:N3}{odd:Bool}(d:m g=none):(I3 g (E6 (.slice a n c) (.slice a' n' c') f odd)).At m (m.upd g (.cells (E6 (.slice a n c) (.slice a' n' c') f odd).toArray 185 (0,0))):=by
 rw[Vg];refine⟨Aje,.inr ⟨g,5,[],d,?_,rfl,by simp[E6],by rw[Vu Rc];simp[E6],mV⟩⟩;rw[Vu Rc,A1i]
def Arj {m0 m:PH}{g:Nat}(h:(I3 g cs).At m0 m)(z:∀ x∈cs,x.cells = #[x])(H:cs.length=5):m0 g=none/\m=m0.upd g (.cells cs.toArray 185 (0,0)):=by
 rw[Vg]at h;rcases h.2 with ⟨h,_,_⟩|⟨F,cap,rest,t,d,e,C,j,_⟩
 ·cases h
 simp only[Value.slice.injEq,A0u,Addr.mk.injEq]at e;obtain⟨⟨rfl,_,_⟩,_,rfl⟩:=e;rw[Vu z]at d j;have:rest = []:=by
  refine A14 ?_;rw[A03]at j;omega
 subst this;rw[A1i]at d;exact⟨t,d⟩
section
variable {m:PH} {g:Nat} {l:List Arr} {rv pv:Value} {f:N3} {odd:Bool}
def Eq (h:Bag m (I3 g (E6 rv pv f odd)::l)):ElP m g (0+0) rv:=h.el (j:=0) 0 (x:=I3 g (E6 rv pv f odd)) rfl rfl rfl
def Acp (h:Bag m (I3 g (E6 rv pv f odd)::l)):ElP m g (0+1) pv:=h.el (j:=1) 0 (x:=I3 g (E6 rv pv f odd)) rfl rfl rfl
def Akw (h:Bag m (I3 g (E6 rv pv f odd)::l)):ElP m g (0+4) (.bool odd):=h.el (j:=4) 0 (x:=I3 g (E6 rv pv f odd)) rfl rfl rfl
def Ale (h:Bag m (I3 g (E6 rv pv f odd)::l)):ElP m g (0+2) (nv f):=by
 have e:ElP m g (0+2*1) (.bool f.b):=h.el (j:=2) 0 (x:=I3 g (E6 rv pv f odd)) rfl rfl rfl;have t:ElP m g (0+3*1) (.slice f.a f.n f.c):=h.el (j:=3) 0 (x:=I3 g (E6 rv pv f odd)) rfl rfl rfl;intro i x d
 match i,d with
 |0,d=>exact e 0 x d
 |1,d=>exact t 0 x d
end
def Adi {u m:PH}{g n c w i:Nat}(t:Bag m (s::p::oN (.slice (some ⟨g,0,none⟩) n c) rows::rows.map Dy))(N:NAt u rows X)(K:Gn n w X)(O:i<n)(U:0<w) :
 ∃ F I C,rows[i]?=some (.slice (some ⟨F,0,none⟩) w I,C)/\C.length=w/\AtP Br u C (gMZ X i)/\ElP m g (0+i*1) (.slice (some ⟨F,0,none⟩) w I)/\∀ j,j<w->∃ f,C[j]?=some (nv f)/\Br u (nv f) (enZ X i j)/\ElP m F (0+j*2) (nv f):=by
 have T:rows.length=n:=by rw[N.1,K.1]
 have d:rows[i]?=some rows[i]:=A0i oV;have h:=N.2 i _ d;obtain⟨⟨V,C⟩,P⟩:∃ x,rows[i]=x:=⟨_,rfl⟩;rw[P]at d h;simp only at h;have z:C.length=w:=by rw[h.1,K.2 i O]
 obtain⟨F,I,e⟩:=t.ptr (i+3) (Lx d) (by intro e;simp only[Dy]at e;rw[e]at z;simp at z;omega);simp only[Dy]at e;rw[z]at e;subst e;refine⟨F,I,C,d,z,h,t.el 2 (x:=oN _ rows) rfl rfl (by show (rows.map (·.1))[i]?=_;rw[A0n,d];rfl),fun j Q=>?_⟩;have H:j<(gMZ X i).length:=by rw[K.2 i O];exact Q
 obtain⟨e,L,J⟩:=h.at H;obtain⟨f,rfl⟩:=J.opN;rw[<-Aah H]at J;exact⟨f,L,J,t.el (i+3) (x:=Dy _) (Lx d) rfl L⟩
def Ut (Y R:List Int)(k:Nat):List Int:=Y.take k++R.drop k
def Anf (Y R:List Int):Ut Y R 0=R:=by simp[Ut]
def Aqq (h:Y.length=k)(d:R.length=k):Ut Y R k=Y:=by
 unfold Ut;rw[A00 oV,A11 oV,A1i]
def Aps (h:Y.length=R.length)(d:k<=R.length):(Ut Y R k).length=R.length:=by simp[Ut];omega
def Ar6 (h:Y.length=R.length)(d:k<R.length):(Ut Y R k).set k (gZ Y k)=Ut Y R (k+1):=by
 unfold Ut;rw[A5l _ _ gV];simp only[A0q];rw[show k-min k Y.length=0 by omega,A4y d,A2y,Jk oV,A2m,Aah oV];rfl
def Avs (h:Y.length=R.length)(d:k<R.length):gZ (Ut Y R k) k=gZ R k:=by
 unfold Ut gZ;rw[A0j,A1d gV,A0j];simp only[A0q];rw[show k-min k Y.length=0 by omega,A3m];rfl
def SzZ (X:List (List Int))(E:Nat):Prop:=∀ i j,nl (enZ X i j).natAbs<=E
def SzZ.mono {E E':Nat}(h:SzZ X E)(hl:E<=E'):SzZ X E':=fun i j=>A0l (h i j) hl
def Abt {v a g x y:Int}(j:nl a.natAbs<=E)(t:nl g.natAbs<=E)(z:nl x.natAbs<=E)(C:nl y.natAbs<=E):nl (x*a).natAbs<=2*E/\nl (g*y).natAbs<=2*E/\nl (x*a-g*y).natAbs<=2*E+1/\nl ((x*a-g*y)/v).natAbs<=2*E+1:=by
 have d:=B5 z j;have e:=B5 t C;have h:=Acm d e;exact⟨d,e,h,A0l (Cl (Int.natAbs_ediv_le_natAbs _ _)) h⟩
def SzZ.swap {n w p r E:Nat}(h:SzZ X E)(d:Gn n w X)(hp:p<n)(e:r<n):SzZ (Km X p r) E:=fun i j=>by
 unfold enZ;rw[Yn d hp e];split
 ·exact h p j
 split
 ·exact h r j
 exact h i j
def SzZ.row {n w r c i E:Nat}{v:Int}(h:SzZ X E)(d:Gn n w X)(t:r<n)(e:i<n)(j:Nat):nl (gZ (P5 v (enZ X r c) (enZ X i c) (gMZ X r) (gMZ X i)) j).natAbs<=2*E+1:=by
 rw[Abk _ _ _ _ _ (by rw[d.2 r t,d.2 i e])];exact (Abt (h r c) (h i c) (h i j) (h r j)).2.2.2
def SzZ.clr {n w r c E:Nat}{v:Int}(h:SzZ X E)(d:Gn n w X)(e:r<n):SzZ (No r c v n 0 X) (2*E+1):=fun i j=>by
 unfold enZ;rw[Sh e n 0 X oV d];split
 ·rename_i h1;exact h.row d e oV j
 exact A0l (h i j) oV
def Akx {s:BZ}(h:SzZ s.X E)(F:nl s.v.natAbs<=E)(j:Gn n w s.X)(C:s.P.length<=n):SzZ (Ih n c s).X (2*E+1)/\nl (Ih n c s).v.natAbs<=2*E+1/\Gn n w (Ih n c s).X/\(Ih n c s).P.length<=n/\(s.v≠0->(Ih n c s).v≠0):=by
 obtain⟨I,J⟩:=Abr s.X c (n-s.P.length) s.P.length;have H:=Abm s.X c (n-s.P.length) s.P.length;unfold Ih;generalize If s.X c (n-s.P.length) s.P.length=p at *
 split
 ·exact⟨h.mono oV,A0l F oV,j,C,id⟩
 rename_i e;have hp:p<n:=oV;have t:s.P.length<n:=oV;have d:Gn n w (if p=s.P.length then s.X else Km s.X p s.P.length):=by
  split
  ·exact j
  exact Tf j hp t
 have z:SzZ (if p=s.P.length then s.X else Km s.X p s.P.length) E:=by
  split
  ·exact h
  exact h.swap j hp t
 exact⟨z.clr d t,A0l (h p c) oV,Yo t n 0 _ oV d,gV,fun _=>H oV⟩
end
structure E3 where
 rows:List (Value×List Value)
 X:List (List Int)
 odd:Bool
def Avw {z:Int}:sgn z=0↔z=0:=by unfold sgn;split<;>(try split)<;>omega
def Ayp {u m:PH}{g z H n w c E:Nat}{t:List (Value×List Value)}{K:List (List Int)}{P:List Nat}{T:Option Addr}{U:Nat}{f0:N3}{h:Bool}{v:Int}
 (V:Gn n w K) (hn:n<=100) (hw:w<=100) (hc:c<w) (hP:P.length<=n) (h0:0<n) (a3:SzZ K E) (hv:Br u (nv f0) v) (d4:nl v.natAbs<=E) (d2:v≠0) (hE:E<=1000000000) (az:NAt u t K)
 (d:Bag m (I3 g (E6 (.slice (some ⟨z,0,none⟩) n H) (.slice T P.length U) f0 h)::My (.slice T P.length U) P::oN (.slice (some ⟨z,0,none⟩) n H) t::t.map Dy)) :
 Ah prog 178 [.pointer (some ⟨g,0,none⟩),.int .i64 c] u m fun r u' m'=>r=.tuple #[]/\∃ ce cg f' a2,NAt u' a2 (Ih n c ⟨K,P,v,h⟩).X/\Br u' (nv f') (Ih n c ⟨K,P,v,h⟩).v /\
  Bag m' (I3 g (E6 (.slice (some ⟨z,0,none⟩) n H) (.slice ce (Ih n c ⟨K,P,v,h⟩).P.length cg) f' (Ih n c ⟨K,P,v,h⟩).odd)::My (.slice ce (Ih n c ⟨K,P,v,h⟩).P.length cg) (Ih n c ⟨K,P,v,h⟩).P::oN (.slice (some ⟨z,0,none⟩) n H) a2::a2.map Dy):=by
 have af:0<w:=oV;refine Ah.o func178<|G.f 185 g 0 1 1<|G.lM none g (0+1) (.slice T P.length U) (Acp d)<|G.l (ι:=Nat) (fun p=>[(0,.v (.pointer (some ⟨g,0,none⟩))),(1,iV c),(4,iV P.length),(5,iV p)]) (fun _=>[])
  (fun p u' m'=>P.length<=p/\p<=n/\If K c (n-p) p=If K c (n-P.length) P.length/\m'=m) (fun p=>n-p) P.length ⟨A0s _,hP,rfl,rfl⟩ ?_
 rintro J2 p bi u3 m3 l3 ⟨dp,dq,a7,rfl⟩;have J:=az.mono l3;refine G.f 185 g 0 0 0<|G.lM none g (0+0) (.slice (some ⟨z,0,none⟩) n H) (Eq d) ?_;by_cases Y:n<=p
 ·obtain rfl:p=n:=oV;refine G.lF p p<|G.f 185 g 0 0 0<|G.lM none g (0+0) (.slice (some ⟨z,0,none⟩) p H) (Eq d)<|G.hT p p ?_;have e:Ih p c ⟨K,P,v,h⟩=⟨K,P,v,h⟩:=by
   unfold Ih;rw[if_pos];show If K c (p-P.length) P.length=p;rw[<-a7,A4r];rfl
  refine G.r (.tuple #[]) ?_;rw[e];exact⟨rfl,T,U,f0,t,J,hv.mono l3,d⟩
 have Y:p<n:=oV;refine G.lT p n ?_;obtain⟨K2,bk⟩:∃ K2,n-p=K2+1:=⟨n-p-1,oV⟩;obtain⟨gp,cp,ep,bz,d0,bh,aa,bt⟩:=Adi d J V Y af;obtain⟨fp,cz,bu,bw⟩:=bt c hc;refine G.f 185 g 0 0 0<|G.lM none g (0+0) (.slice (some ⟨z,0,none⟩) n H) (Eq d)<|G.a z 0 n H p 1 Y<|G.lM none z (0+p*1) _ aa<|G.a gp 0 w cp c 2 hc<|G.lM (some 2) gp (0+c*2) (nv fp) bw<|G.c call179 (Rd bu (A0l (a3 p c) oV)) ?_;rintro v4 u4 l4 rfl;by_cases hz:enZ K p c=0
 ·refine G.eT' (sgn (enZ K p c)) 0 (Avw.2 hz)<|G.i p<|G.b (bi (p+1) _ _ _ cV (l3.trans l4) ⟨oV,oV,?_,rfl⟩ oV);rw[<-a7,bk,If,if_pos hz,show n-(p+1)=K2 by omega]
 refine G.eF' (sgn (enZ K p c)) 0 (fun e=>hz (Avw.1 e)) ?_;rw[bk,If,if_neg hz]at a7;clear bi;have N:P.length<n:=oV;refine G.f 185 g 0 0 0<|G.lM none g (0+0) (.slice (some ⟨z,0,none⟩) n H) (Eq d)<|G.hF p n<|G.join (ι:=E3) (.bool false) (fun i=>[(0,.v (.pointer (some ⟨g,0,none⟩))),(1,iV c),(4,iV P.length)]) (fun i=>[])
  (fun i u' m'=>i.X=(if p=P.length then K else Km K p P.length)/\i.odd=(if p=P.length then h else !h)/\NAt u' i.rows i.X/\Bag m' (I3 g (E6 (.slice (some ⟨z,0,none⟩) n H) (.slice T P.length U) f0 i.odd)::My (.slice T P.length U) P::oN (.slice (some ⟨z,0,none⟩) n H) i.rows::i.rows.map Dy)) (fun _=>kV) kV ?tail ?way
 case way =>
  intro a9;by_cases an:p=P.length
  ·refine G.nF p P.length ?_;exact a9 ⟨t,K,h⟩ _ _ _ kV cV (PH.le_refl _) ⟨by rw[if_pos an],by rw[if_pos an],J.mono l4,d⟩
  refine G.nT p P.length ?_;obtain⟨gr,cr,er,bb,au,aw,am,b2⟩:=Adi d J V N af;refine G.f 185 g 0 0 0<|G.lM none g (0+0) (.slice (some ⟨z,0,none⟩) n H) (Eq d)<|G.f 185 g 0 0 0<|G.lM none g (0+0) (.slice (some ⟨z,0,none⟩) n H) (Eq d)<|G.f 185 g 0 0 0<|G.lM none g (0+0) (.slice (some ⟨z,0,none⟩) n H) (Eq d)<|G.a z 0 n H P.length 1 N<|G.lM none z (0+P.length*1) _ am<|G.f 185 g 0 0 0<|G.lM none g (0+0) (.slice (some ⟨z,0,none⟩) n H) (Eq d)<|G.a z 0 n H p 1 Y<|G.lM none z (0+p*1) _ aa ?_;obtain⟨m0,ag,ab⟩:=d.focus 2 rfl;rw[Aeq]at ag;have dc:t.length=n:=by rw[az.1,V.1]
  refine G.a z 0 n H p 1 Y<|G.storeA 1 m0 _ z n H p (.slice (some ⟨gr,0,none⟩) w cr) kV ag gV rfl rfl ?_;intro m5 d6;refine G.a z 0 n H P.length 1 N<|G.storeA 1 m0 _ z n H P.length (.slice (some ⟨gp,0,none⟩) w cp) kV d6 gV rfl rfl ?_;intro m6 c6;have ba:((t.map (·.1)).set p (Value.slice (some ⟨gr,0,none⟩) w cr)).set P.length (Value.slice (some ⟨gp,0,none⟩) w cp)=((t.set p (Value.slice (some ⟨gr,0,none⟩) w cr,er)).set P.length (Value.slice (some ⟨gp,0,none⟩) w cp,ep)).map (·.1):=by rw[A10,A10]
  rw[ba]at c6;have cm:=ab (oN (.slice (some ⟨z,0,none⟩) n H) ((t.set p (Value.slice (some ⟨gr,0,none⟩) w cr,er)).set P.length (Value.slice (some ⟨gp,0,none⟩) w cp,ep))) m6 c6;have b5:((t.set p (Value.slice (some ⟨gr,0,none⟩) w cr,er)).set P.length (Value.slice (some ⟨gp,0,none⟩) w cp,ep)).Perm t:=by
   obtain⟨q1,q2⟩:=A0o.1 bz;obtain⟨q3,q4⟩:=A0o.1 bb;rw[<-q2,<-q4];exact List.set_set_perm q1 q3
  have br:=Bag.perm (List.Perm.cons _ (List.Perm.cons _ (List.Perm.cons _ (b5.symm.map Dy)))) cm;have a0:=(J.set (i:=p) (r:=(Value.slice (some ⟨gr,0,none⟩) w cr,er)) oV aw).set (i:=P.length) (r:=(Value.slice (some ⟨gp,0,none⟩) w cp,ep)) gV bh;refine G.f 185 g 0 3 4<|G.lM none g (0+4) (.bool h) (Akw br)<|G.f 185 g 0 3 4 ?_;obtain⟨m7,c7,b9⟩:=br.focus 0 rfl;rw[Vg]at c7;refine G.storeA 1 m7 _ g 5 5 4 (.bool !h) kV c7 (by simp[E6]) rfl rfl ?_;intro m8 d7;have cn:=b9 (I3 g (E6 (.slice (some ⟨z,0,none⟩) n H) (.slice T P.length U) f0 (!h))) m8 d7;exact a9 ⟨(t.set p (Value.slice (some ⟨gr,0,none⟩) w cr,er)).set P.length (Value.slice (some ⟨gp,0,none⟩) w cp,ep),Km K p P.length,!h⟩ _ _ _ kV cV (PH.le_refl _) ⟨by rw[if_neg an],by rw[if_neg an],a0.mono l4,cn⟩
 rintro⟨rows1,X1,odd1⟩ u5 m5 l5 ⟨hX1e,hod,a0,hbag1⟩;simp only at hX1e hod a0 hbag1;have ak:Gn n w X1:=by
  rw[hX1e];split
  ·exact V
  exact Tf V Y N
 have ae:SzZ X1 E:=by
  rw[hX1e];split
  ·exact a3
  exact a3.swap V Y N
 have bn:enZ X1 P.length c=enZ K p c:=by
  rw[hX1e];split
  ·rename_i e;rw[e]
  unfold enZ;rw[Yn V Y N,if_pos rfl]
 have ad:Ih n c ⟨K,P,v,h⟩=⟨No P.length c v n 0 X1,P++[c],enZ X1 P.length c,odd1⟩:=by
  unfold Ih;rw[if_neg (by show ¬ If K c (n-P.length) P.length=n;rw[<-a7];omega),bn,hod,hX1e];show BZ.mk _ _ _ _=_;simp only[<-a7]
 rw[ad];clear ad hX1e d az J bz d0 bh aa bt cz bu bw a7 a3 V;have d3:=hv.mono ((l3.trans l4).trans l5);have dr:rows1.length=n:=by rw[a0.1,ak.1]
 obtain⟨gr,cr,er,bb,au,aw,am,b2⟩:=Adi hbag1 a0 ak N af;obtain⟨fr,h5,h6,h7⟩:=b2 c hc;obtain⟨R,hR⟩:∃ R,R=gMZ X1 P.length:=⟨_,rfl⟩;have dj:R.length=w:=by rw[hR];exact ak.2 _ N
 obtain⟨F,hF⟩:∃ F,F=enZ X1 P.length c:=⟨_,rfl⟩;have ax:nl F.natAbs<=E:=by rw[hF];exact ae _ _
 have b0:∀ j,nl (gZ R j).natAbs<=E:=fun j=>by rw[hR];exact ae _ j
 rw[<-hF]at h6⊢;have ck:gZ R c=F:=by rw[hR,hF];rfl
 refine G.f 185 g 0 0 0<|G.lM none g (0+0) (.slice (some ⟨z,0,none⟩) n H) (Eq hbag1)<|G.a z 0 n H P.length 1 N<|G.lM none z (0+P.length*1) _ am<|G.a gr 0 w cr c 2 hc<|G.lM (some 2) gr (0+c*2) (nv fr) h7<|G.f 185 g 0 0 0<|G.lM none g (0+0) (.slice (some ⟨z,0,none⟩) n H) (Eq hbag1)<|G.l (ι:=Nat×List (Value×List Value)×List (List Int)) (fun i=>[(0,.v (.pointer (some ⟨g,0,none⟩))),(1,iV c),(4,iV P.length),(6,.p 8010 0),(97,sV (some ⟨z,0,none⟩) n H),(98,iV n),(99,iV i.1)]) (fun i=>[(8010,⟨124,Awy fr⟩)])
  (fun i u' m'=>i.1<=n/\No P.length c v (n-i.1) i.1 i.2.2=No P.length c v n 0 X1/\Gn n w i.2.2/\gMZ i.2.2 P.length=R/\(∀ x j,i.1<=x->nl (enZ i.2.2 x j).natAbs<=E)/\NAt u' i.2.1 i.2.2 /\
   Bag m' (I3 g (E6 (.slice (some ⟨z,0,none⟩) n H) (.slice T P.length U) f0 odd1)::My (.slice T P.length U) P::oN (.slice (some ⟨z,0,none⟩) n H) i.2.1::i.2.1.map Dy))
  (fun i=>n-i.1) (0,rows1,X1) ⟨A1c _,rfl,ak,hR.symm,fun x j _=>ae x j,a0,hbag1⟩ ?_
 clear a0 hbag1 bb au aw am b2 h5 h7;rintro J4 ⟨i,C,X3⟩ ay u8 m8 l8 ⟨hi,a8,W,O,Z,J,I⟩;simp only at hi a8 W O Z J I ay;have d1:C.length=n:=by rw[J.1,W.1]
 by_cases a6:i<n
 ·refine G.lT i n ?_;obtain⟨K3,bl⟩:∃ K3,n-i=K3+1:=⟨n-i-1,oV⟩;obtain⟨gi,ci,ei,bx,cv,bg,cy,cq⟩:=Adi I J W a6 af;refine G.a z 0 n H i 1 a6<|G.lM none z (0+i*1) _ cy ?_;by_cases al:i=P.length
  ·refine G.eT i P.length<|G.i i<|G.b (ay (i+1,C,X3) _ _ _ cV l8 ⟨dV,?_,W,O,fun x j h1=>Z x j (by dsimp only at h1;omega),J,I⟩ dV);dsimp only;rw[<-a8,bl,No,if_pos al,show n-(i+1)=K3 by omega]
  refine G.eF i P.length ?_;obtain⟨fg,g5,g6,g7⟩:=cq c hc;have b4:=Z i c (A0s _);refine G.a gi 0 w ci c 2 hc<|G.lM (some 2) gi (0+c*2) (nv fg) g7 ?_;obtain⟨S,hS⟩:∃ S,S=gMZ X3 i:=⟨_,rfl⟩;have bm:S.length=w:=by rw[hS];exact W.2 i a6
  have b1:∀ j,nl (gZ S j).natAbs<=E:=fun j=>by rw[hS];exact Z i j (A0s _)
  have cj:enZ X3 P.length c=F:=by unfold enZ;rw[O];exact ck
  have bs:No P.length c v (n-(i+1)) (i+1) (X3.set i (P5 v F (enZ X3 i c) R S))=No P.length c v n 0 X1:=by
   rw[<-a8,bl,No,if_neg al,show n-(i+1)=K3 by omega,hS,O,cj]
  generalize hg:enZ X3 i c=gg at *
  rw[<-hS]at bg;have bd:=Sc v F gg R S;have dk:∀ j,nl (gZ (P5 v F gg R S) j).natAbs<=2*E+1:=fun j=>by
   rw[Abk _ _ _ _ _ oV];exact (Abt ax b4 (b1 j) (b0 j)).2.2.2
  obtain⟨gs,cs,bf,c0,dd,di,dm,ct⟩:=Adi I J W N af;refine G.l (ι:=Nat×List Value) (fun y=>[(0,.v (.pointer (some ⟨g,0,none⟩))),(1,iV c),(4,iV P.length),(6,.p 8010 0),(97,sV (some ⟨z,0,none⟩) n H),(98,iV n),(99,iV i),(8,sV (some ⟨gi,0,none⟩) w ci),(9,.p 13004 0),(112,iV w),(113,iV y.1)]) (fun y=>[(8010,⟨124,Awy fr⟩),(13004,⟨124,Awy fg⟩)])
   (fun y u' m'=>y.1<=w/\AtP Br u' y.2 (Ut (P5 v F gg R S) S y.1)/\Bag m' (I3 g (E6 (.slice (some ⟨z,0,none⟩) n H) (.slice T P.length U) f0 odd1)::My (.slice T P.length U) P::oN (.slice (some ⟨z,0,none⟩) n H) C::(C.set i ((Value.slice (some ⟨gi,0,none⟩) w ci),y.2)).map Dy)) (fun y=>w-y.1) (0,ei)
   ⟨A1c _,by rw[Anf];exact bg,by rw[Rr bx];exact I⟩ ?_
  rintro J5 ⟨y,L⟩ bj ds m10 a1 ⟨hy,a5,Q⟩;simp only at hy a5 Q bj;have cx:=Aps (k:=y) bd oV;have dl:L.length=w:=by rw[a5.1,cx,bm]
  have ar:(C.set i ((Value.slice (some ⟨gi,0,none⟩) w ci),L))[i]?=some ((Value.slice (some ⟨gi,0,none⟩) w ci),L):=by rw[A2g];simp[d1,a6]
  have b3:(C.set i ((Value.slice (some ⟨gi,0,none⟩) w ci),L))[P.length]?=some (Value.slice (some ⟨gs,0,none⟩) w cs,bf):=by rw[A2g,if_neg al];exact c0
  by_cases ao:y<w
  ·refine G.lT y w ?_;obtain⟨e,e1,e2⟩:=a5.at (j:=y) oV;obtain⟨fe,rfl⟩:=e2.opN;rw[<-Aah oV,Avs bd oV]at e2;have aa:ElP m10 z (0+P.length*1) (Value.slice (some ⟨gs,0,none⟩) w cs):=Q.el 2 (x:=oN (.slice (some ⟨z,0,none⟩) n H) C) rfl rfl (by show (C.map (·.1))[P.length]?=_;rw[A0n,c0];rfl);have he:ElP m10 gi (0+y*2) (nv fe):=Q.el (i+3) (x:=Dy ((Value.slice (some ⟨gi,0,none⟩) w ci),L)) (Lx ar) rfl e1;obtain⟨fs,s5,s6,_⟩:=ct y ao;have da:Br u8 (nv fs) (gZ R y):=by rw[<-O];exact s6
   have cu:ElP m10 gs (0+y*2) (nv fs):=Q.el (P.length+3) (x:=Dy (Value.slice (some ⟨gs,0,none⟩) w cs,bf)) (Lx b3) rfl s5;have c1:=(d3.mono l8).mono a1;obtain⟨z1,z2,z3,z4⟩:=Abt (v:=v) ax b4 (b1 y) (b0 y);refine G.a gi 0 w ci y 2 ao<|G.lM (some 2) gi (0+y*2) (nv fe) he<|G.f 185 g 0 0 0<|G.lM none g (0+0) (.slice (some ⟨z,0,none⟩) n H) (Eq Q)<|G.a z 0 n H P.length 1 N<|G.lM none z (0+P.length*1) _ aa<|G.a gs 0 w cs y 2 ao<|G.lM (some 2) gs (0+y*2) (nv fs) cu<|G.f 185 g 0 2 2<|G.lM (some 2) g (0+2) (nv f0) (Ale Q)<|G.c call100 (El e2 ((h6.mono l8).mono a1) (A0l (b1 y) oV) (A0l ax oV)) ?_;intro dz du ah c8;obtain⟨df,rfl⟩:=c8.opN;refine G.c call100 (El ((g6.mono a1).mono ah) ((da.mono a1).mono ah) (A0l b4 oV) (A0l (b0 y) oV)) ?_;intro e0 dv ap c9;obtain⟨dg,rfl⟩:=c9.opN;refine G.c call203 (Ak2 (c8.mono ap) c9 (A0l z1 oV) (A0l z2 oV)) ?_;intro e3 dw be ca;obtain⟨dh,rfl⟩:=ca.opN;refine G.c call176 (Oi ca (c1.mono ((ah.trans ap).trans be)) (A0l z3 oV) (A0l d4 oV) d2) ?_;rintro e4 dx cd ⟨e5,e6,rfl,cb,cc⟩;obtain⟨av,rfl⟩:=cb.opN;obtain⟨db,rfl⟩:=cc.opN;obtain⟨m0,ag,ab⟩:=Q.focus (i+3) (Lx ar);rw[Ak4]at ag;refine G.a gi 0 w ci y 2 ao<|G.storeA 2 m0 L gi w ci y (nv av) kV ag oV rfl rfl ?_;intro d9 c4;have aq:=ab (Dy ((Value.slice (some ⟨gi,0,none⟩) w ci),L.set y (nv av))) d9 c4;rw[Aqi,A5i]at aq;refine G.i y<|G.b (bj (y+1,L.set y (nv av)) _ _ _ cV ((((a1.trans ah).trans ap).trans be).trans cd) ⟨dV,?_,aq⟩ dV);dsimp only;rw[<-Ar6 bd oV,Abk _ _ _ _ _ oV];exact (a5.mono (fun _ _ k=>k.mono (((ah.trans ap).trans be).trans cd))).set y cb
  obtain rfl:y=w:=oV;refine G.lF y y ?_;rw[Aqq oV bm]at a5;rw[<-Awr (es':=L) bx]at Q;refine G.i i ?_;have cl:Gn n y (X3.set i (P5 v F gg R S)):=M8 W a6 oV;have ac:∀ x,gMZ (X3.set i (P5 v F gg R S)) x=if i=x then P5 v F gg R S else gMZ X3 x:=fun x=>Mn (by rw[W.1];exact a6)
  refine G.b (ay (i+1,C.set i ((Value.slice (some ⟨gi,0,none⟩) y ci),L),X3.set i (P5 v F gg R S)) _ _ _ cV (l8.trans a1) ⟨dV,bs,cl,?_,?_,?_,Q⟩ dV)
  ·dsimp only;rw[ac,if_neg al];exact O
  ·intro x j h1;dsimp only at h1⊢;unfold enZ;rw[ac,if_neg oV];exact Z x j oV
  exact (J.mono a1).set (i:=i) (r:=((Value.slice (some ⟨gi,0,none⟩) y ci),L)) oV a5
 obtain rfl:i=n:=oV;refine G.lF i i ?_;rw[A4r,No]at a8;rw[<-a8];refine G.f 185 g 0 1 1<|G.lM none g (0+1) (.slice T P.length U) (Acp I)<|G.B 3 1 8 (.int .i64 0) [.int .i64 c] (A4 [c]) ?_;intro g9 u9 l9 e9;obtain⟨m1,c2,b6⟩:=I.focus 1 rfl;rw[Aka]at c2;have cv:(Ai P).length=P.length:=by simp[Ai]
 refine G.append 3 1 8 (.int .i64 0) m1 (Ai P) [.int .i64 c] (.slice T P.length U) g9 0 1 1 kV rfl rfl oV c2 e9 (A4 [c]) rfl oV oV oV ?_;intro dy m10 a4;rw[show Ai P++[Value.int .i64 c]=Ai (P++[c]) by simp[Ai]]at a4;obtain⟨ai,aj,rfl⟩:=a4.shape;have el:(Ai (P++[c])).length=(P++[c]).length:=by simp[Ai]
 rw[el]at a4⊢;have bo:=b6 (My (.slice ai (P++[c]).length aj) (P++[c])) m10 a4;obtain⟨m2,d5,b7⟩:=bo.focus 0 rfl;obtain⟨cw,em⟩:=Arj d5 Rc rfl;refine G.f 185 g 0 2 2<|G.storeM 2 g (0+2) 185 (E6 (.slice (some ⟨z,0,none⟩) i H) (.slice T P.length U) f0 odd1) (nv fr) kV (by rw[em,Ac]) (fun x hx=>by
  have:=(Aje x hx).2 x (by rw[Rc x hx];simp);exact this) (by simp[E6]) rfl rfl ?_
 have ch:m10.upd g (.cells ((E6 (.slice (some ⟨z,0,none⟩) i H) (.slice T P.length U) f0 odd1).take (0+2)++(nv fr).cells.toList++(E6 (.slice (some ⟨z,0,none⟩) i H) (.slice T P.length U) f0 odd1).drop (0+2+2)).toArray 185 (0,0)) =
  m2.upd g (.cells (E6 (.slice (some ⟨z,0,none⟩) i H) (.slice T P.length U) fr odd1).toArray 185 (0,0)):=by
  rw[em,Ds];rfl
 rw[ch];have bp:=b7 (I3 g (E6 (.slice (some ⟨z,0,none⟩) i H) (.slice T P.length U) fr odd1)) _ (Adn cw);refine G.f 185 g 0 1 1 ?_;obtain⟨m3,c5,b8⟩:=bp.focus 0 rfl;rw[Vg]at c5;refine G.storeA 1 m3 _ g 5 5 1 (.slice ai (P++[c]).length aj) kV c5 (by simp[E6]) rfl rfl ?_;intro d8 c3;have bq:=b8 (I3 g (E6 (.slice (some ⟨z,0,none⟩) i H) (.slice ai (P++[c]).length aj) fr odd1)) d8 c3;exact G.r (.tuple #[]) ⟨rfl,ai,aj,fr,C,J.mono l9,h6.mono (l8.trans l9),bq⟩
section
variable {X:List (List Int)}{a:Option Addr}{c n:Nat}
section
variable [Cj] {P:Program} [A6 P] {fn:Func} {Post:Ca} {st:List KI×S} {u m:PH}
def G.appendZ (e:TypeId)(sz g:Nat)(z:Value)(xs:List Value)(a:Option Addr)(n c:Nat)(h:Ak P (adv P st)=.app (some (e,sz,g,z)) true [.slice none 0 0,.slice a n c])(O:z.cells.toList.all Be=true)(J:z.cells.size=sz)(I:0<sz)
 (K:Ab u (.slice a n c) sz xs) (N:Bm sz xs) (H:xs.length=n) (L:n*g<=140737488355328) (F:n<=9223372036854775807)
 (k:∀ d t E,Af m E (.slice d n t) e sz xs->G P fn Post (nx (adv P st) (.slice d n t)) u E):G P fn Post st u m:=by
 by_cases h0:n=0
 ·subst h0;obtain rfl:=A14 H;exact G.appendNil e sz g z a c h (k none 0 m (Af.nil _ _ _))
 obtain⟨b,o,rfl,_⟩:=K.at' (j:=0) (A0i oV);refine G.append e sz g z m [] xs (.slice none 0 0) b o n c h O J I (Af.nil _ _ _) K.els N H oV (by simpa using L) (by simpa using F) ?_;intro Q E C;rw[A41]at C;obtain⟨d,t,rfl⟩:=C.shape;rw[H]at C⊢;exact k d t E C
end
def AtP.ok2 {u:PH}{es:List Value}{zs:List Int}(h:AtP Br u es zs):Bm 2 es:=fun e C=>by
 obtain⟨j,t,rfl⟩:=A2b.1 C;have d:j<zs.length:=by rw[<-h.1];exact t
 obtain⟨E,g,z⟩:=h.2 j zs[j] (A0i d);rw[A0i t]at g;cases g;exact z.ok _ mV
def Aeg {m u:PH}{s p:Arr}{d:List (Value×List Value)}(g:Bag m (s::p::oN (.slice a n c) d::d.map Dy))(t:NAt u d X)(E:PH.le m u):K0 u (.slice a n c) X:=by
 have F:=g.list E 2 (x:=oN (.slice a n c) d) rfl;refine⟨d.map (fun r:Value×List Value=>r.1),F,by rw[A0k,t.1],fun j r C=>?_⟩;have z:j<d.length:=by rw[t.1];exact (A0o.1 C).1
 have h:d[j]?=some d[j]:=A0i z;refine⟨d[j].1,by rw[A0n,h];rfl,?_⟩;refine⟨d[j].2,g.list E (j+3) (x:=Dy d[j]) (Lx h),?_⟩;have:=t.2 j _ h;have e:gMZ X j=r:=by unfold gMZ;rw[A0j,C];rfl
 rwa[e]at this
def Asg {m:PH}{g:Nat}{l:List Arr}{j pv:Value}{f:N3}{e:Bool}(h:Bag m (I3 g (E6 j pv f e)::l))(z:j.cells = #[j])(C:pv.cells = #[pv]):ElP m g 0 (.agg #[j,pv,.bool f.b,.slice f.a f.n f.c,.bool e]):=by
 have E:=Eq h;have F:=Acp h;have t:=Ale h;have H:=Akw h;intro i x d
 match i,d with
 |0,d=>exact E 0 x (by rw[z];exact d)
 |1,d=>exact F 0 x (by rw[C];exact d)
 |2,d=>exact t 0 x d
 |3,d=>exact t 1 x d
 |4,d=>exact H 0 x d
def Apd (K : Nat) {k l : Nat} (h : k ≤ l) : zs K k ≤ zs K l := by
  induction l with
  | zero => have : k = 0 := by omega
            subst this; exact A0s _
  | succ l ih =>
    rcases A16 k (l + 1) with d | d
    · have := ih oV
      show zs K k ≤ 2 * zs K l + 2
      omega
    have : k = l + 1 := by omega
    subst this; exact A0s _
def Au2 {u:PH}{n w c d E:Nat}(hM:K0 u (.slice a n c) X)(hX:Gn n w X)(hn:n<=100)(hw:w<=100)(h0:0<n)(ao:d<=w)(ai:SzZ X E)(ab:1<=E)(hE:zs E d<=1000000000) :
 Fn0 prog 98 [.slice a n c,.int .i64 d] u fun r u'=>∃ a' c' pa pc f,r=.agg #[.slice a' n c',.slice pa (Ig n d 0 ⟨X,[],1,false⟩).P.length pc,.bool f.b,.slice f.a f.n f.c,.bool (Ig n d 0 ⟨X,[],1,false⟩).odd] /\
  K0 u' (.slice a' n c') (Ig n d 0 ⟨X,[],1,false⟩).X/\Br u' (nv f) (Ig n d 0 ⟨X,[],1,false⟩).v:=by
 have an:=hX.1;refine Fn0.o func98<|G.c call115 (N8 (z:=1) oV oV) ?_;intro v1 u1 l1 k1;obtain⟨Q,rfl⟩:=k1.opN;refine G.l (ι:=Nat×List (Value×List Value)×(Option Addr×Nat)) (fun i=>[(1,iV d),(4,.p 0 0),(5,.p 1002 0),(11,sV a n c),(12,iV n),(13,iV i.1)])
  (fun i=>[(0,⟨185,[sV none 0 0,sV none 0 0,bV false,sV none 0 0,bV false]⟩),(1002,⟨185,[sV i.2.2.1 i.1 i.2.2.2,sV none 0 0,bV Q.b,sV Q.a Q.n Q.c,bV false]⟩)])
  (fun i u' m'=>i.1<=n/\NAt u' i.2.1 (X.take i.1)/\Bag m' (oN (.slice i.2.2.1 i.1 i.2.2.2) i.2.1::i.2.1.map Dy)) (fun i=>n-i.1) (0,[],(none,0))
  ⟨A1c _,⟨rfl,fun i r h=>by simp at h⟩,PH.mt,Af.nil _ _ _,trivial⟩ ?_
 rintro J ⟨i,j,⟨ra,I⟩⟩ hJ u2 m2 l2 ⟨hi,L,t⟩;simp only at hi L t hJ;have H:j.length=i:=by rw[L.1,A0q];omega
 by_cases Y:i<n
 ·refine G.lT i n ?_;have a9:X[i]?=some X[i]:=A0i oV;have ak:X[i].length=w:=by have:=hX.2 i Y;rwa[Qb oV]at this
  obtain⟨b,o,e,rfl,h3,f3⟩:=LP.at (hM.mono (l1.trans l2)) a9;obtain⟨es,W,U⟩:=f3;obtain⟨a4,c4,rfl⟩:=W.opn;have a3:es.length=w:=by rw[U.1,ak]
  rw[a3]at W h3;refine G.a b o n c i 1 Y<|G.lU none b (o+i*1) (.slice a4 w c4) h3<|G.appendZ 124 2 32 (.agg #[.bool false,.slice none 0 0]) es a4 w c4 kV rfl rfl oV W U.ok2 a3 oV oV ?_;intro C F m5 aa;refine G.B 183 1 24 (.slice none 0 0) [.slice C w F] (B6 _ _ _) ?_;intro g6 u6 l6 e6;have ad:Bag m5 (Dy (.slice C w F,es)::oN (.slice ra i I) j::j.map Dy):=⟨m2,aa,t⟩;obtain⟨m0,a8,a6⟩:=ad.focus 1 rfl;rw[Aeq]at a8;refine G.k 183 1 24 (.slice none 0 0) m0 (j.map (·.1)) [.slice C w F] (.slice ra i I) g6 0 1 1 a8 e6 (B6 _ _ _) ?_;intro v7 m7 N;obtain⟨a7,c7,rfl⟩:=N.shape;have e7:j.map (·.1)++[Value.slice C w F]=(j++[(Value.slice C w F,es)]).map (·.1):=mV
  rw[e7]at N⊢;have el:((j++[(Value.slice C w F,es)]).map (·.1)).length=i+1:=by simp[H]
  rw[el]at N⊢;have ae:=a6 (oN (.slice a7 (i+1) c7) (j++[(Value.slice C w F,es)])) m7 N;have af:Bag m7 (oN (.slice a7 (i+1) c7) (j++[(Value.slice C w F,es)])::(j++[(Value.slice C w F,es)]).map Dy):=by
   refine Bag.perm ?_ ae;rw[A02];exact (List.Perm.swap _ _ _).trans (List.Perm.cons _ (A76 (l₁:=[Dy (Value.slice C w F,es)])))
  refine G.i i<|G.b (hJ (i+1,j++[(Value.slice C w F,es)],(a7,c7)) _ _ _ cV (l2.trans l6) ⟨dV,?_,af⟩ dV);dsimp only;rw[A0t,a9];exact (L.mono l6).snoc (q:=X[i]) (U.mono fun _ _ k=>k.mono l6)
 obtain rfl:i=n:=oV
 rw[A00 oV]at L;refine G.lF i i ?_;obtain⟨R,co,eo⟩:=t.ptr 0 rfl (by intro e;simp only[oN,A57]at e;rw[e]at H;simp at H;omega);simp only[oN,A0k,H,Value.slice.injEq,true_and]at eo;obtain⟨rfl,rfl⟩:=eo;clear hJ;refine G.pub 1002 185 (E6 (.slice (some ⟨R,0,none⟩) i I) (.slice none 0 0) Q false) kV kV ?_;intro g ap ag;have a2:Bag (m2.upd g (.cells (E6 (.slice (some ⟨R,0,none⟩) i I) (.slice none 0 0) Q false).toArray 185 (0,0))) (I3 g (E6 (.slice (some ⟨R,0,none⟩) i I) (.slice none 0 0) Q false)::My (.slice none 0 0) []::oN (.slice (some ⟨R,0,none⟩) i I) j::j.map Dy) :=
  ⟨m2,Adn ag,m2,Af.nil _ _ _,t⟩
 refine G.l (ι:=Nat×List (Value×List Value)×(Option Addr×Nat)×N3×BZ) (fun i=>[(1,iV d),(4,.p 0 0),(5,.v (.pointer (some ⟨g,0,none⟩))),(8,iV i.1)])
  (fun i=>[(0,⟨185,[sV none 0 0,sV none 0 0,bV false,sV none 0 0,bV false]⟩)])
  (fun k u' m'=>k.1<=d/\Ig i (d-k.1) k.1 k.2.2.2.2=Ig i d 0 ⟨X,[],1,false⟩/\Gn i w k.2.2.2.2.X/\SzZ k.2.2.2.2.X (zs E k.1)/\nl k.2.2.2.2.v.natAbs<=zs E k.1/\k.2.2.2.2.v≠0/\k.2.2.2.2.P.length<=i/\NAt u' k.2.1 k.2.2.2.2.X/\Br u' (nv k.2.2.2.1) k.2.2.2.2.v /\
   Bag m' (I3 g (E6 (.slice (some ⟨R,0,none⟩) i I) (.slice k.2.2.1.1 k.2.2.2.2.P.length k.2.2.1.2) k.2.2.2.1 k.2.2.2.2.odd)::My (.slice k.2.2.1.1 k.2.2.2.2.P.length k.2.2.1.2) k.2.2.2.2.P::oN (.slice (some ⟨R,0,none⟩) i I) k.2.1::k.2.1.map Dy)) (fun k=>d-k.1)
  (0,j,(none,0),Q,⟨X,[],1,false⟩) ⟨A1c _,rfl,hX,ai,A0l (nl1 (n:=1) oV) ab,Int.one_ne_zero,A1c _,L,k1.mono l2,a2⟩ ?_
 clear a2 t L H;rintro J ⟨k,j,⟨pa,pc⟩,f,s⟩ hJ u3 m3 l3 ⟨hk,O,hR,hS,a0,Z,T,L,hv,t⟩;simp only at hk O hR hS a0 Z T L hv t hJ;by_cases Y:k<d
 ·refine G.lT k d ?_;have hz:zs E (k+1)<=1000000000:=A0l (Apd E (show k+1<=d by omega)) hE;have aq:zs E (k+1)=2*zs E k+2:=rfl;obtain⟨q1,q2,q3,q4,q5⟩:=Akx (c:=k) hS a0 hR T;refine G.A call178 (Ayp (c:=k) (E:=zs E k) hR hn hw oV T h0 hS hv a0 Z oV L t) ?_;rintro v4 u4 m4 l4 ⟨rfl,al,am,f',a1,ac,aj,V⟩ _;rw[Cm];refine G.i k<|G.b (hJ (k+1,a1,(al,am),f',Ih i k s) _ _ _ cV (l3.trans l4) ⟨dV,?_,q3,q1.mono dV,A0l q2 dV,q5 Z,q4,ac,aj,V⟩ dV);dsimp only;obtain⟨K,hK⟩:∃ K,d-k=K+1:=⟨d-k-1,oV⟩;rw[<-O,hK,Ig,show d-(k+1)=K by omega]
 obtain rfl:k=d:=oV
 refine G.lF k k ?_;rw[A4r,Ig]at O;rw[<-O];refine G.lM (some 5) g 0 (.agg #[.slice (some ⟨R,0,none⟩) i I,.slice pa s.P.length pc,.bool f.b,.slice f.a f.n f.c,.bool s.odd]) (Asg t rfl rfl)<|G.giveP (ma:=m3) (sm:=PH.mt) kV (by funext g;unfold PH.or;cases m3 g<;>rfl) (fun g=>.inr rfl) (fun g=>.inl rfl) ?_
 intro u6 l6 ah;exact G.r (.agg #[.slice (some ⟨R,0,none⟩) i I,.slice pa s.P.length pc,.bool f.b,.slice f.a f.n f.c,.bool s.odd]) ⟨rfl,_,I,pa,pc,f,rfl,Aeg t (L.mono l6) ah,hv.mono l6⟩
end
def Atc {u:PH}{v:Value}{A:List (List Rat)}{L:Nat}(h:Fm u v (Dv A))(hT:∀ r∈A,∀ q∈r,Tx q)(hl:A.length<=1000000)(ag:∀ r∈A,r.length<=1000000)(hL:∀ r∈A,∀ q∈r,q.den ∣ L)(bd:0<L)(be:nl L<=1000000000) :
 Ah prog 97 [v] u PH.mt fun v' R m'=>∃ D f a5 c5 Q,0<D/\D ∣ L/\(∀ r∈A,∀ q∈r,q.den ∣ D)/\v'=.agg #[.bool f.b,.slice f.a f.n f.c,.slice a5 A.length c5]/\Br R (nv f) (D:Int)/\NAt R Q (A.map (Bl D))/\Bag m' (oN (.slice a5 A.length c5) Q::Q.map Dy):=by
 obtain⟨a,c,rfl⟩:=h.opn;rw[Bs]at h⊢;have ad:∀ D:Nat,D ∣ L->nl (D:Int).natAbs<=1000000000:=fun D T=>A0l (Cl (A4l bd T)) be;refine Ah.o func97<|G.c call115 (N8 (z:=1) oV oV) ?_;intro v1 u1 l1 k1;obtain⟨b1,a1,n1,c1,rfl⟩:=k1.opn;refine G.l (ι:=Nat×List Value×(Option Addr×Nat×Nat)×DI)
  (fun i=>[(2,.p 0 0),(3,.p 1002 0),(4,sV i.2.2.1.1 i.2.2.1.2.1 i.2.2.1.2.2),(19,sV a A.length c),(20,iV A.length),(21,iV i.1)])
  (fun i=>[(0,⟨181,[bV false,sV none 0 0,sV none 0 0]⟩),(1002,⟨181,[bV i.2.2.2.b,sV i.2.2.2.a i.2.2.2.n i.2.2.2.c,sV none 0 0]⟩)])
  (fun i R m'=>i.1<=A.length/\AtP Jx R i.2.1 (A.take i.1)/\Af PH.mt m' (.slice i.2.2.1.1 i.2.2.1.2.1 i.2.2.1.2.2) 187 1 i.2.1/\Vn R i.2.2.2 L/\∀ r∈A.take i.1,∀ q∈r,q.den ∣ i.2.2.2.D)
  (fun i=>A.length-i.1) (0,[],(none,0,0),⟨b1,a1,n1,c1,1⟩)
  ⟨A1c _,AtP.nil,Af.nil _ _ _,⟨k1,Nat.one_pos,Baq _⟩,fun r I=>by simp at I⟩ ?_
 rintro J ⟨k,J8,⟨a2,n2,c2⟩,⟨db,da,dn,dc,D⟩⟩ hJ u2 m2 l2 ⟨hk,hF,hA,T,W⟩;simp only at hk hF hA T W hJ;have bk:=hF.1;rw[A0q]at bk;by_cases O:k<A.length
 ·refine G.lT k A.length ?_;have C:A[k]?=some A[k]:=A0i O;have e:=A0y O;obtain⟨ba,oa,a3,c3,rfl,e3,s3⟩:=(h.mono (l1.trans l2)).row (Em C);rw[A0k]at e3 s3;refine G.a ba oa A.length c k 1 oV<|G.lU none ba (oa+k*1) _ e3<|G.c call173 (Z1 s3 (hT _ e) (ag _ e)) ?_;intro v4 u4 l4 k4;obtain⟨a4,c4,rfl⟩:=k4.lp.opn;refine G.l (ι:=Nat×DI)
   (fun i=>[(2,.p 0 0),(3,.p 1002 0),(4,sV a2 n2 c2),(19,sV (some ⟨ba,oa,none⟩) A.length c),(20,iV A.length),(21,iV k),(7,sV a4 A[k].length c4),(27,sV a4 A[k].length c4),(28,iV (A[k].length)),(29,iV i.1)])
   (fun i=>[(0,⟨181,[bV false,sV none 0 0,sV none 0 0]⟩),(1002,⟨181,[bV i.2.b,sV i.2.a i.2.n i.2.c,sV none 0 0]⟩)])
   (fun i R m'=>i.1<=A[k].length/\m'=m2/\Vn R i.2 L/\(∀ r∈A.take k,∀ q∈r,q.den ∣ i.2.D)/\∀ q∈A[k].take i.1,q.den ∣ i.2.D)
   (fun i=>A[k].length-i.1) (0,⟨db,da,dn,dc,D⟩)
   ⟨A1c _,rfl,T.mono l4,W,fun q H=>by simp at H⟩ ?_
  rintro J2 ⟨j,⟨eb,ea,en,ec,E⟩⟩ K u5 m5 U ⟨hj,rfl,hE,af,Y⟩;simp only at hj hE af Y K;by_cases d:j<A[k].length
  ·refine G.lT j (A[k].length:Int) ?_;have P:A[k][j]?=some A[k][j]:=A0i d;have X:=A0y d;have Z:=hT _ e _ X;obtain⟨b6,o6,e6,rfl,h6,f6⟩:=(k4.mono U).lp.at P;obtain⟨x1,x2,x3,x4,x5,x6,x7,x8,rfl⟩:=f6.opn;refine G.a b6 o6 A[k].length c4 j 4 d<|G.lU (some 4) b6 (o6+j*4) _ h6<|G.c call175 (Rn f6) ?_;intro v7 u7 l7 k7;obtain⟨b7,a7,n7,c7,rfl⟩:=k7.opn;refine G.c call174 (Akj ((hE.mono l7).1) k7 (A0l (ad _ hE.2.2) oV) (A0l (Bh Z.den) oV) (by have:=hE.2.1;dsimp only at this⊢;omega)) ?_;intro v8 u8 l8 k8;rw[Aph]at k8;obtain⟨b8,a8,n8,c8,rfl⟩:=k8.opn;refine G.add (j:Int) 1 ((j+1:Nat):Int) kV oV oV (by have:=ag _ e;omega)<|G.b (K (j+1,⟨b8,a8,n8,c8,Nat.lcm E A[k][j].den⟩) _ _ _ cV ((U.trans l7).trans l8) ⟨dV,rfl,⟨k8,?_,?_⟩,?_,?_⟩ dV)
   ·have:=hE.2.1;simp only at this⊢;exact Nat.lcm_pos this (A[k][j]).den_pos
   ·exact Bas hE.2.2 (hL _ e _ X)
   ·exact fun r I q H=>A7v (af r I q H) (A71 _ _)
   intro q H;dsimp only at H⊢;rw[A0t,P]at H;rcases A04.1 H with H|H
   ·exact A7v (Y q H) (A71 _ _)
   simp at H;subst H;exact Nat.dvd_lcm_right _ _
  have:j=A[k].length:=oV;subst this;rw[A05]at Y;refine G.lF (A[k].length:Int) (A[k].length:Int)<|G.B 187 1 24 (.slice none 0 0) [.slice a4 A[k].length c4] (B6 _ _ _) ?_;intro g6 u6 l6 e6;refine G.append 187 1 24 (.slice none 0 0) PH.mt J8 [.slice a4 A[k].length c4] (.slice a2 n2 c2) g6 0 1 1 kV rfl rfl oV hA e6 (B6 _ _ _) rfl oV oV oV ?_;intro v7 m7 ao;obtain⟨a7,c7,rfl⟩:=ao.shape;refine G.i k<|G.b (hJ (k+1,J8++[Value.slice a4 A[k].length c4],(a7,(J8++[Value.slice a4 A[k].length c4]).length,c7),⟨eb,ea,en,ec,E⟩) _ _ _ cV (((l2.trans l4).trans U).trans l6) ⟨dV,?_,ao,hE.mono l6,?_⟩ dV)
  ·dsimp only;rw[A0t,C];exact (hF.mono (fun _ _ h=>h.mono ((l4.trans U).trans l6))).snoc (k4.mono (U.trans l6))
  intro r I;dsimp only at I⊢;rw[A0t,C]at I;rcases A04.1 I with I|I
  ·exact af r I
  simp at I;subst I;exact Y
 have:k=A.length:=oV;subst this;rw[A05]at hF W;refine G.lF A.length A.length<|G.give PH.mt J8 _ kV hA (fun _=>.inl rfl) ?_;intro u3 l3 ae;have bn:J8.length=A.length:=by rw[hF.1]
 obtain⟨_,_,e0⟩:=ae.opn;simp only[Value.slice.injEq]at e0;obtain⟨rfl,rfl,rfl⟩:=e0;rw[bn]at ae⊢;have bb:Af1 u3 (.slice a2 A.length c2) A:=⟨J8,ae,hF.mono (fun _ _ h=>h.mono l3)⟩;refine G.l (ι:=Nat×List (Value×List Value)×(Option Addr×Nat))
  (fun i=>[(2,.p 0 0),(3,.p 1002 0),(45,sV a2 A.length c2),(46,iV A.length),(47,iV i.1)])
  (fun i=>[(0,⟨181,[bV false,sV none 0 0,sV none 0 0]⟩),(1002,⟨181,[bV db,sV da dn dc,sV i.2.2.1 i.1 i.2.2.2]⟩)])
  (fun i R m'=>i.1<=A.length/\NAt R i.2.1 ((A.take i.1).map (Bl D))/\Bag m' (oN (.slice i.2.2.1 i.1 i.2.2.2) i.2.1::i.2.1.map Dy))
  (fun i=>A.length-i.1) (0,[],(none,0))
  ⟨A1c _,⟨rfl,fun i r h=>by simp at h⟩,PH.mt,Af.nil _ _ _,trivial⟩ ?_
 rintro J2 ⟨k,F,⟨a5,c5⟩⟩ K u5 m5 U ⟨bm,hN,ac⟩;simp only at bm hN ac K;have a6:=hN.1;rw[A0k,A0q]at a6;by_cases O:k<A.length
 ·refine G.lT k A.length ?_;have C:A[k]?=some A[k]:=A0i O;have e:=A0y O;have ch:=ag _ e;obtain⟨b6,o6,e6,rfl,h6,f6⟩:=LP.at (bb.mono U) C;obtain⟨a7,c7,rfl⟩:=f6.lp.opn;refine G.a b6 o6 A.length c2 k 1 oV<|G.lU none b6 (o6+k*1) _ h6<|G.make 124 2 32 (.agg #[.bool false,.slice none 0 0]) A[k].length kV rfl rfl oV oV oV ?_;rintro v8 m8 ap ⟨a8,rfl⟩;obtain⟨m,rfl,ce⟩:=ap.some';refine G.l (ι:=Nat×List Value)
   (fun i=>[(2,.p 0 0),(3,.p 1002 0),(45,sV (some ⟨b6,o6,none⟩) A.length c2),(46,iV A.length),(47,iV k),(12,sV (some ⟨m,0,none⟩) A[k].length A[k].length),(54,sV a7 A[k].length c7),(55,iV (A[k].length)),(56,iV i.1)])
   (fun i=>[(0,⟨181,[bV false,sV none 0 0,sV none 0 0]⟩),(1002,⟨181,[bV db,sV da dn dc,sV a5 k c5]⟩)])
   (fun i R m'=>i.1<=A[k].length/\AtP Br R i.2 (Bl D (A[k].take i.1))/\Af m5 m' (.slice (some ⟨m,0,none⟩) A[k].length A[k].length) 124 2 (i.2++List.replicate (A[k].length-i.1) (.agg #[.bool false,.slice none 0 0])))
   (fun i=>A[k].length-i.1) (0,[])
   ⟨A1c _,AtP.nil,by simpa using ap⟩ ?_
  rintro J3 ⟨j,done⟩ aq u9 m9 l9 ⟨bl,N,V⟩;simp only at bl N V aq;have ar:=N.1;rw[Bl,A0k,A0q]at ar;by_cases d:j<A[k].length
  ·refine G.lT j (A[k].length:Int) ?_;have P:A[k][j]?=some A[k][j]:=A0i d;have X:=A0y d;have Z:=hT _ e _ X;have cg:=(A[k][j]).den_pos;obtain⟨al,b3,cc,rfl,b9,ab⟩:=(f6.mono l9).lp.at P;obtain⟨x1,x2,x3,x4,x5,x6,x7,x8,rfl⟩:=ab.opn;refine G.a al b3 A[k].length c7 j 4 d<|G.lU (some 4) al (b3+j*4) _ b9<|G.c call175 (Rn ab) ?_;intro cq bp g aw;obtain⟨bw,br,cj,c6,rfl⟩:=aw.opn;refine G.c call176 (Oi ((T.mono (((l3.trans U).trans l9).trans g)).1) aw (A0l (ad _ T.2.2) oV) (A0l (Bh Z.den) oV) oV) ?_;rintro bq cn ai ⟨cr,cs,rfl,ah,bo⟩;obtain⟨bx,bs,ck,c9,rfl⟩:=ah.opn;obtain⟨bz,bt,cl,ca,rfl⟩:=bo.opn;refine G.c call177 (Adz (ab.mono (g.trans ai))) ?_;intro ct co aj ax;obtain⟨c0,bu,cm,cb,rfl⟩:=ax.opn;have bj:((D:Int)/(A[k][j].den:Int))=((D/A[k][j].den:Nat):Int):=by push_cast;rfl
   rw[bj]at ah;refine G.c call100 (El ax (ah.mono aj) (A0l (Bh Z.1) oV) (by rw[A1e];exact A0l (S3 _ _) (A0l (ad _ T.2.2) oV))) ?_;intro cu cp az ay;obtain⟨am,ak,b2,an,rfl⟩:=ay.opn;refine G.a m 0 A[k].length A[k].length j 2 d<|G.storeA 2 m5 _ m A[k].length A[k].length j (.agg #[.bool am,.slice ak b2 an]) kV V gV rfl rfl ?_;intro ci a0;rw[Agl oV d]at a0;refine G.i j<|G.b (aq (j+1,done++[.agg #[.bool am,.slice ak b2 an]]) _ _ _ cV ((((l9.trans g).trans ai).trans aj).trans az) ⟨dV,?_,a0⟩ dV);dsimp only;rw[A0t,P,Bl,A02];exact (N.mono (fun _ _ h=>h.mono (((g.trans ai).trans aj).trans az))).snoc ay
  have:j=A[k].length:=oV;subst this;rw[A05]at N;rw[A4r,A62,A1i]at V;refine G.lF (A[k].length:Int) (A[k].length:Int) ?_;have cd:done.length=A[k].length:=oV;refine G.B 183 1 24 (.slice none 0 0) [.slice (some ⟨m,0,none⟩) A[k].length A[k].length] (B6 _ _ _) ?_;intro b5 bp g b4;have bh:Bag m9 (Dy (.slice (some ⟨m,0,none⟩) A[k].length A[k].length,done)::oN (.slice a5 k c5) F::F.map Dy):=⟨m5,V,ac⟩;obtain⟨m0,av,au⟩:=bh.focus 1 rfl;rw[Aeq]at av;have bi:(F.map (·.1)).length=k:=by rw[A0k,a6];omega
  refine G.append 183 1 24 (.slice none 0 0) m0 (F.map (·.1)) [.slice (some ⟨m,0,none⟩) A[k].length A[k].length] (.slice a5 k c5) b5 0 1 1 kV rfl rfl oV av b4 (B6 _ _ _) rfl oV oV oV ?_;intro bq b0 t;obtain⟨a9,aa,rfl⟩:=t.shape;have e7:F.map (·.1)++[Value.slice (some ⟨m,0,none⟩) A[k].length A[k].length]=(F++[(Value.slice (some ⟨m,0,none⟩) A[k].length A[k].length,done)]).map (·.1):=mV;rw[e7]at t⊢;have el:((F++[(Value.slice (some ⟨m,0,none⟩) A[k].length A[k].length,done)]).map (·.1)).length=k+1:=by rw[<-e7,A03,bi];rfl
  rw[el]at t⊢;have bf:=au (oN (.slice a9 (k+1) aa) (F++[(Value.slice (some ⟨m,0,none⟩) A[k].length A[k].length,done)])) b0 t;have bg:Bag b0 (oN (.slice a9 (k+1) aa) (F++[(Value.slice (some ⟨m,0,none⟩) A[k].length A[k].length,done)])::(F++[(Value.slice (some ⟨m,0,none⟩) A[k].length A[k].length,done)]).map Dy):=by
   refine Bag.perm ?_ bf;rw[A02];exact (List.Perm.swap _ _ _).trans (List.Perm.cons _ (A76 (l₁:=[Dy (Value.slice (some ⟨m,0,none⟩) A[k].length A[k].length,done)])))
  refine G.i k<|G.b (K (k+1,F++[(Value.slice (some ⟨m,0,none⟩) A[k].length A[k].length,done)],(a9,aa)) _ _ _ cV ((U.trans l9).trans g) ⟨dV,?_,bg⟩ dV);dsimp only;rw[A0t,C,A02];exact (hN.mono (l9.trans g)).snoc (q:=Bl D A[k]) (N.mono (fun _ _ h=>h.mono g))
 have:k=A.length:=oV;subst this;rw[A05]at hN;exact G.lF A.length A.length<|G.r (.agg #[.bool db,.slice da dn dc,.slice a5 A.length c5]) ⟨D,⟨db,da,dn,dc⟩,a5,c5,F,T.2.1,T.2.2,W,rfl,(T.mono (l3.trans U)).1,hN,ac⟩
section
variable {S:List (List Int)}{i j:Nat}{l:List Int}{q v:Int}
theorem Ad1 {q:Rat}{D:Nat}(h:q.den ∣ D):((q.num*((D/q.den:Nat):Int):Int):Rat)=q*(D:Rat):=by
 obtain⟨k,rfl⟩:=h;rw[Nat.mul_div_cancel_left _ q.den_pos,A1v,A4e,A1f];have d:q*(q.den:Rat)=(q.num:Rat):=by
  have d:q=(q.num:Rat)/(((q.den:Int)):Rat):=by rw[<-A3l,A6f]
  have e:=A7e _ (Jf q.den_pos);rw[A1f,A5v]at d;exact Ay6 d e
 rw[<-d];grind
def Afm {D:Nat}{r:List Rat}(d:j<r.length):gZ (Bl D r) j=(gR r j).num*((D/(gR r j).den:Nat):Int):=by
 unfold Bl;rw[Aah (by simpa using d),A3u,E7 d]
def Apb (h:j<l.length):gZ (l++[q]) j=gZ l j:=by
 unfold gZ;rw[A0j,A09 h,A0j]
def Akk (h:j=l.length):gZ (l++[q]) j=q:=by
 subst h;unfold gZ;simp[A0j]
def Jz (A:List (List Rat))(b:List Rat)(D D':Nat):List (List Int):=(List.range A.length).map fun i=>Bl D (gM A i)++[(gR b i).num*((D' / (gR b i).den:Nat):Int)]
def Rh {A:List (List Rat)}{b:List Rat}{D D' i:Nat}(h:i<A.length):gMZ (Jz A b D D') i=Bl D (gM A i)++[(gR b i).num*((D' / (gR b i).den:Nat):Int)]:=by
 unfold Jz;rw[Qb (by simpa using h)];simp
def Ao5 {A:List (List Rat)}{b:List Rat}{D D':Nat}(e:Sq A):Gn A.length (A.length+1) (Jz A b D D') :=
 ⟨by simp[Jz],fun i d=>by rw[Rh d,A03,Bl,A0k,Gx d,e.len d];rfl⟩
structure Ao4 (A:List (List Rat))(b:List Rat)(D D':Nat):Prop where
 d0:0<D
 d1:0<D'
 a:∀ r∈A,∀ q∈r,q.den ∣ D
 b:∀ q∈b,q.den ∣ D'
def Aim {A:List (List Rat)}(h:i<A.length):gM A i∈A:=by rw[Gx h];exact A0y h
section
variable {A:List (List Rat)} {b:List Rat} {D D':Nat}
def Aj2 (m:Sq A)(h:Ao4 A b D D')(d:i<A.length)(e:j<A.length):(enZ (Jz A b D D') i j:Rat)=en A i j*(D:Rat):=by
 have g:(gM A i).length=A.length:=by rw[Gx d];exact m.len d
 unfold enZ;rw[Rh d,Apb (by simp[Bl,g,e]),Afm oV];exact Ad1 (h.a _ (Aim d) _ (V4 oV))
def Aw6 (m:Sq A)(e:b.length=A.length)(h:Ao4 A b D D')(d:i<A.length):(enZ (Jz A b D D') i A.length:Rat)=gR b i*(D':Rat):=by
 have g:(gM A i).length=A.length:=by rw[Gx d];exact m.len d
 unfold enZ;rw[Rh d,Akk (by simp[Bl,g])];exact Ad1 (h.b _ (V4 oV))
def Xv (f:Nat->Int):∀ n:Nat,((Cg n f:Int):Rat)=Bx n (fun j=>(f j:Rat))
 |0=>by rw[Oz];rfl
 |n+1=>by rw[Cg,A44,Xv f n,Fg]
def qsZ (n:Nat)(S:List (List Int))(v:Int)(D D':Nat):List Rat:=(List.range n).map fun j=>Rat.divInt (enZ S j n*(D:Int)) (v*(D':Int))
def Aqp {n:Nat}(d:j<n):gR (qsZ n S v D D') j=Rat.divInt (enZ S j n*(D:Int)) (v*(D':Int)):=by
 unfold qsZ;exact Aob _ d
theorem Au3 (g:Sq A)(m:b.length=A.length)(h:Ao4 A b D D')(H:v≠0)(F:∀ i,i<A.length->∀ k,Cg A.length (fun j=>enZ S j k*enZ (Jz A b D D') i j)=v*enZ (Jz A b D D') i k) :
 Te A.length (Ie A b) (gR (qsZ A.length S v D D')):=by
 intro i d;have e:=congrArg (fun z:Int=>(z:Rat)) (F i d A.length);simp only[Xv,A1v]at e;rw[Aw6 g m h d]at e;rw[Aks g d];have u:(v:Rat)≠0:=fun e=>H (A89.1 (by rw[e];rfl));have n:(D':Rat)≠0:=Jf (by have:=h.d1;omega);have C:Bx A.length (fun j=>en (Ie A b) i j*gR (qsZ A.length S v D D') j)=Bx A.length (fun j=>(enZ S j A.length:Rat)*(enZ (Jz A b D D') i j:Rat))*((1/((v:Rat)*(D':Rat)))):=by
  rw[Rat.mul_comm,<-Dt];refine A3 fun j t=>?_;rw[Vm g d t,Aqp t,Aj2 g h d t,A3l,A1v,A1v,A1f,A1f,A5v,A5v];grind
 rw[C,e];have:(v:Rat)*(D':Rat)≠0:=fun e=>(A34.1 e).elim u n;rw[A5v,Rat.one_mul];generalize I:(v:Rat)*(D':Rat)=w at *
 have E:(v:Rat)*(gR b i*(D':Rat))=gR b i*w:=by rw[<-I];grind
 rw[E,Rat.mul_assoc,A7e _ this,Rat.mul_one]
theorem Azd (u:Sq A)(h:Ao4 A b D D')(t:∀ y:Nat->Rat,(∀ i,i<A.length->Bx A.length (fun j=>en A i j*y j)=0)->∀ j,j<A.length->y j=0):¬ Ker A.length (enZ (Jz A b D D')):=by
 rintro⟨y,⟨j,d,hy⟩,h0⟩;have n:(D:Rat)≠0:=Jf (by have:=h.d0;omega);refine hy ?_;have:=t (fun j=>(y j:Rat)) (fun i g=>?_) j d
 ·exact A89.1 (by rw[this];rfl)
 have e:=congrArg (fun z:Int=>(z:Rat)) (h0 i g);simp only[Xv,A1v]at e;have m:Bx A.length (fun j=>(y j:Rat)*(enZ (Jz A b D D') i j:Rat))=(D:Rat)*Bx A.length (fun j=>en A i j*(y j:Rat)):=by
  rw[<-Dt];exact A3 fun j d=>by rw[Aj2 u h g d];grind
 rw[m]at e;rcases A34.1 e with e|e
 ·exact absurd e n
 exact e
end
end
end Go.Proofs.YtdgncafgglafjaaGreatDoor
