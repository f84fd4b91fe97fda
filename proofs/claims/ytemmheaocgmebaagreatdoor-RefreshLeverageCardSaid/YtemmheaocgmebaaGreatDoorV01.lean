import Derived.Orders
import Derived.KernelRfl
import Derived.Laws.CopyRow
import Derived.Laws.World
import Derived.Laws.Entries
set_option linter.defProp false
set_option linter.unusedVariables false
set_option linter.unusedSimpArgs false
set_option linter.unusedSectionVars false
set_option maxHeartbeats 16000000
namespace Go.Proofs.YtemmheaocgmebaaGreatDoor
def A1g:=@List.mem_cons
def A4x:=@List.cons_append
def A3f:=@List.length_cons
def A2d:=@Nat.pow_succ
def A2o:=@Nat.mul_add
def A17:=@Nat.mul_assoc
def A19:=@Nat.mul_comm
def A3p:=@Nat.add_assoc
def A1h:=@List.mem_append
def A27:=@List.mem_of_mem_take
def A3x:=@List.mem_of_mem_drop
def A7g:=@List.eq_of_mem_replicate
def A02:=@List.getD_eq_getElem?_getD
def A01:=@List.getElem?_eq_getElem
def A09:=@List.getElem_mem
def A1v:=@List.getElem?_eq_none
def A2h:=@Nat.mul_le_mul_left
def A68:=@List.replicate_succ
def A1e:=@List.length_take
def A4a:=@Nat.min_eq_left
def A1j:=@List.take_of_length_le
def A2l:=@List.eq_nil_of_length_eq_zero
def A5p:=@Nat.add_sub_cancel
def A4f:=@List.length_pos_iff
def A15:=@List.take_length
def A3y:=@List.getElem?_take
def A3b:=@Nat.div_lt_iff_lt_mul
def A22:=@Nat.lt_of_le_of_lt
def A2e:=@Nat.lt_or_ge
def A10:=@Nat.pow_le_pow_right
def A4k:=@Nat.pow_add
def Ba8:=@Int.one_mul
def A85:=@Int.eq_of_mul_eq_mul_left
def A08:=@Nat.le_refl
def Ba2:=@Int.mul_add
def A04:=@Nat.le_trans
def A43:=@Array.getElem?_eq_none
def A2s:=@Nat.lt_of_lt_of_le
def A87:=@Bool.not_eq_true
def A1y:=@Nat.eq_of_beq_eq_true
def A7x:=@Array.getElem?_setIfInBounds_self
def A2m:=@Array.getElem?_setIfInBounds_ne
def A95:=@Array.getElem?_push
def A1f:=@Option.some.injEq
def A1k:=@List.mem_of_getElem?
def A6i:=@List.foldl_cons
def A1n:=@List.take_add_one
def A96:=@List.take_set_of_le
def A44:=@List.getElem?_set_self
def A67:=@List.drop_set_of_lt
def A6j:=@Array.ext'
def A3s:=@Nat.add_zero
def A3o:=@Array.length_toList
def A99:=@Array.foldl_toList
def A1m:=@Bool.and_eq_true
def A8a:=@Nat.le_of_ble_eq_true
def A9p:=@List.mapM_cons
def A39:=@List.getElem?_drop
def A1o:=@List.all_eq_true
def A3j:=@List.getElem?_toArray
def A5x:=@Array.toArray_toList
def A81:=@List.mapM_toArray
def A2k:=@List.append_assoc
def A5y:=@List.getElem?_append
def A2i:=@Prod.mk.injEq
def A7s:=@List.size_toArray
def A8f:=@Nat.blt_eq
def A3m:=@Classical.byContradiction
def A4b:=@Bool.or_eq_true
def A24:=@List.mem_append_left
def Baa:=@List.mem_filterMap
def A9j:=@Bool.eq_iff_iff
def A9y:=@Array.map_congr_left
def A41:=@List.map_congr_left
def A88:=@List.mem_toArray
def A1b:=@List.mem_map
def A28:=@Option.some.inj
def A12:=@List.mem_singleton
def A72:=@Bool.not_true
def A80:=@Bool.false_or
def A5h:=@List.any_eq_true
def A2f:=@List.mem_cons_of_mem
def A3w:=@Bool.not_eq_true'
def A8b:=@Bool.and_eq_false_iff
def A7a:=@List.mem_filter
def A6q:=@List.mem_range
def A2v:=@Array.getElem?_eq_getElem
def A4c:=@Option.map_some
def A4w:=@Option.getD_some
def Bab:=@Array.all_eq_true'
def A2t:=@Array.getD_eq_getD_getElem?
def A34:=@List.rel_of_pairwise_cons
def A6k:=@List.append_of_mem
def A35:=@List.pairwise_append
def A4p:=@List.nodup_append
def A4j:=@List.nodup_cons
section
theorem kV.{u} {α:Sort u}{a b:α}(h:a=b:=by kernel_rfl):a=b:=h
theorem oV {p:Prop}(h:p:=by omega):p:=h
theorem mV {p:Prop}(h:p:=by simp):p:=h
theorem dV {p:Prop}(h:p:=by dsimp only;omega):p:=h
theorem gV {p:Prop}(h:p:=by simp;omega):p:=h
theorem jV {p:Prop}(h:p:=by decide +kernel):p:=h
theorem fV {p:Prop}(h:p:=by decide):p:=h
end
abbrev zC:=List (List UInt8×Nat)
abbrev zM:=List (List Rat)
abbrev zW:=List (List UInt8)
abbrev zB:=List UInt8
abbrev zR:=List Rat
abbrev zV:=List Value
abbrev zP:=Option Addr
abbrev zK:=List Nat
section
variable {l:zK}{n:Nat}
def val:zK->Nat
 |[]=>0
 |d::l=>d+1000000000*val l
def Low (l:zK):Prop:=∀ d,d∈l->d<1000000000
def Aa (n:Nat):zK:=if h:n=0 then [] else n%1000000000::Aa (n/1000000000)
termination_by n
decreasing_by omega
def nl (n:Nat):Nat:=(Aa n).length
def A7:Aa 0 = []:=by unfold Aa;simp
def Dz (h:n≠0):Aa n=n%1000000000::Aa (n/1000000000):=by
 rw[Aa];simp[h]
def Am (n:Nat):val (Aa n)=n:=by
 induction n using Nat.strongRecOn with
 |_ n ih =>
  by_cases h:n=0
  ·subst h;simp[A7,val]
  rw[Dz h];simp only[val];rw[ih _ oV];omega
def Ao (n:Nat):Low (Aa n):=by
 induction n using Nat.strongRecOn with
 |_ n ih =>
  by_cases h:n=0
  ·subst h;simp[A7,Low]
  rw[Dz h];intro d a;rcases A1g.1 a with rfl|a
  ·omega
  exact ih _ oV d a
theorem Hj :Aa n = []↔n=0:=by
 constructor
 ·intro h;have:=Am n;rw[h]at this;simp[val]at this;omega
 ·rintro rfl;exact A7
def Qm (l m:zK):val (l++m)=val l+1000000000^l.length*val m:=by
 induction l with
 |nil=>simp[val]
 |cons d l ih =>
  simp only[A4x,val,ih,A3f,A2d];rw[A2o,<-A17,A19 1000000000 (1000000000^l.length),A3p]
def Ki (l:zK)(d:Nat):val (l++[d])=val l+1000000000^l.length*d:=by
 rw[Qm];simp[val]
def Low.nil:Low []:=by simp[Low]
def Low.cons {d:Nat}(h:d<1000000000)(b:Low l):Low (d::l):=by
 intro x a;rcases A1g.1 a with rfl|a
 ·exact h
 exact b x a
def Low.append {l m:zK}(h:Low l)(k:Low m):Low (l++m):=by
 intro x a;rcases A1h.1 a with a|a
 ·exact h x a
 exact k x a
def Low.take (h:Low l)(k:Nat):Low (l.take k):=fun x a=>h x (A27 a)
def Low.drop (h:Low l)(k:Nat):Low (l.drop k):=fun x a=>h x (A3x a)
def Low.zeros (k:Nat):Low (List.replicate k 0):=by intro x a;have:=A7g a;omega
def Low.getD (h:Low l)(k:Nat):l.getD k 0<1000000000:=by
 by_cases a:k<l.length
 ·rw[A02,A01 a];exact h _ (A09 a)
 rw[A02,A1v oV];simp
def K8 (h:Low l):val l<1000000000^l.length:=by
 induction l with
 |nil=>simp[val]
 |cons d l ih =>
  have c:=h d mV;have a:=ih (fun x b=>h x (by simp[b]));simp only[val,A3f,A2d];have:val l+1<=1000000000^l.length:=a;have:=A2h 1000000000 this;rw[A19 (1000000000^l.length)];omega
def Aa1 (k:Nat):val (List.replicate k 0)=0:=by
 induction k with
 |zero=>rfl
 |succ k ih=>simp[A68,val,ih]
def A5 (l:zK)(k:Nat):val (l.take (k+1))=val (l.take k)+1000000000^k*l.getD k 0:=by
 by_cases a:k<l.length
 ·rw[List.take_succ_eq_append_getElem a,Ki,A1e,A4a oV];simp[a]
 rw[A1j oV,A1j oV];have:l[k]?=none:=A1v oV;simp[this]
def Bz (l:zK):Nat->Nat
 |0=>0
 |n+1=>if l.getD n 0=0 then Bz l n else n+1
def Mi (l:zK)(n:Nat):Bz l n<=n:=by
 induction n with
 |zero=>simp[Bz]
 |succ n ih=>simp only[Bz];split<;>omega
def Pn (h:n≠0):(Aa n).getD ((Aa n).length-1) 0≠0:=by
 induction n using Nat.strongRecOn with
 |_ n ih =>
  rw[Dz h];by_cases a:n/1000000000=0
  ·rw[a,A7];simp;omega
  have b:=ih _ oV a;have c:(Aa (n/1000000000)).length≠0:=by
   intro e;exact a (Hj.1 (A2l e))
  simp only[A3f,A5p];obtain⟨m,f⟩:∃ m,(Aa (n/1000000000)).length=m+1:=⟨_,(Nat.succ_pred_eq_of_ne_zero c).symm⟩;rw[f]at b⊢;simpa using b
def Amt (h:Low l)(j:l≠[]->l.getD (l.length-1) 0≠0):Aa (val l)=l:=by
 induction l with
 |nil=>simp[val,A7]
 |cons d l ih =>
  have p:=h d mV;have g:Low l:=fun x o=>h x (by simp[o]);have c:l≠[]->l.getD (l.length-1) 0≠0:=by
   intro b;have:=j mV;obtain⟨m,k⟩:∃ m,l.length=m+1:=⟨l.length-1,by have:=A4f.2 b;omega⟩;simp only[A3f,A5p,k]at this⊢;simpa using this
  have b:val (d::l)≠0:=by
   by_cases a:l = []
   ·subst a;have:=j mV;simp at this;simp[val];omega
   intro e;have f:=ih g c;simp only[val]at e;have:val l=0:=oV;rw[this,A7]at f;exact a f.symm
  rw[Dz b];simp only[val];rw[show (d+1000000000*val l)%1000000000=d by omega,show (d+1000000000*val l)/1000000000=val l by omega,ih g c]
def Vh (l:zK)(n:Nat):val (l.take (Bz l n))=val (l.take n):=by
 induction n with
 |zero=>simp[Bz]
 |succ n ih =>
  simp only[Bz];split
  ·rename_i h;rw[ih,A5,h];simp
  rfl
def Uz (l:zK)(n:Nat)(h:Bz l n≠0):l.getD (Bz l n-1) 0≠0:=by
 induction n with
 |zero=>simp[Bz]at h
 |succ n ih =>
  simp only[Bz]at h⊢;split
  ·rename_i h0;rw[if_pos h0]at h;exact ih h
  rename_i h0;simpa using h0
def Ke (h:Low l):Aa (val l)=l.take (Bz l l.length):=by
 have e:val l=val (l.take (Bz l l.length)):=by rw[Vh,A15]
 rw[e];refine Amt (h.take _) (fun a=>?_);have b:=Mi l l.length;have h0:Bz l l.length≠0:=by intro c;rw[c]at a;simp at a
 have:=Uz l l.length h0;rw[A1e,A4a b];rw[A02,A3y,if_pos oV,<-A02];exact this
def Vr:nl 0=0:=by simp[nl,A7]
def Dd (n:Nat):n<1000000000^nl n:=by
 have:=K8 (Ao n);rwa[Am]at this
def A4 {n k:Nat}(h:n<1000000000^k):nl n<=k:=by
 induction k generalizing n with
 |zero =>
  have:n=0:=by simp at h;omega
  subst this;simp[Vr]
 |succ k ih =>
  by_cases h0:n=0
  ·subst h0;simp[Vr]
  have:n/1000000000<1000000000^k:=by
   rw[A3b oV];rwa[A2d]at h
  have:=ih this;simp only[nl]at this⊢;rw[Dz h0];simp;omega
def C4 {m n:Nat}(h:m<=n):nl m<=nl n:=A4 (A22 h (Dd n))
def Rw (h:n≠0):1000000000^(nl n-1)<=n:=by
 rcases A2e n (1000000000^(nl n-1)) with a|a
 ·have:=A4 a;have b:nl n≠0:=by
   intro e;exact h (Hj.1 (A2l e))
  omega
 exact a
def Asl (m n:Nat):nl (m+n)<=max (nl m) (nl n)+1:=by
 refine A4 ?_;have a:=Dd m;have b:=Dd n;have c:1000000000^nl m<=1000000000^max (nl m) (nl n):=A10 oV oV;have e:1000000000^nl n<=1000000000^max (nl m) (nl n):=A10 oV oV;rw[A2d];omega
def G7 (m n:Nat):nl (m*n)<=nl m+nl n:=by
 refine A4 ?_;rw[A4k];exact Nat.mul_lt_mul'' (Dd m) (Dd n)
end
section
variable {P:Nat->Nat}{R S:Nat->Nat->Int}{a b c j n r:Nat}{f:Nat->Int}{v:Int}
def Ca:Nat->(Nat->Int)->Int
 |0,_=>0
 |n+1,f=>Ca n f+f n
def Cr {f g:Nat->Int}:∀ {n:Nat},(∀ j,j<n->f j=g j)->Ca n f=Ca n g
 |0,_=>rfl
 |n+1,h=>by rw[Ca,Ca,Cr fun j e=>h j oV,h n oV]
def Aai (h:∀ j,j<n->f j=0):Ca n f=0:=by
 induction n with
 |zero=>rfl
 |succ n ih=>rw[Ca,ih fun j e=>h j oV,h n oV];rfl
theorem Ll {f g:Nat->Int}(a b:Int):∀ {n:Nat},Ca n (fun j=>a*f j+b*g j)=a*Ca n f+b*Ca n g
 |0=>by simp[Ca]
 |n+1=>by rw[Ca,Ca,Ca,Ll a b];grind
theorem X9 (g:j<n)(h:∀ t,t<n->t≠j->f t=0):Ca n f=f j:=by
 induction n with
 |zero=>omega
 |succ n ih =>
  rw[Ca];by_cases e:j=n
  ·subst e;rw[Aai fun t k=>h t oV oV];omega
  grind
theorem Ar3 (k:a+1<n)(h:∀ t,t<n->t≠a->t≠a+1->f t=0):Ca n f=f a+f (a+1):=by
 induction n with
 |zero=>omega
 |succ n ih =>
  rw[Ca];by_cases e:a+1=n
  ·subst e;rw[X9 (j:=a) oV fun t l g=>h t oV g oV]
  grind
def dsg:Nat->Int
 |0=>1
 |n+1=>- dsg n
def Akx:∀ r:Nat,dsg (r+r)=1
 |0=>rfl
 |r+1=>by rw[show r+1+(r+1)=r+r+1+1 by omega,dsg,dsg,Akx r];rfl
def Eu (j:Nat)(C:Nat->Nat->Int):Nat->Nat->Int:=fun t=>if t<j then C t else C (t+1)
def dt:Nat->(Nat->Nat->Int)->Int
 |0,_=>1
 |r+1,C=>Ca (r+1) fun j=>dsg (r+j)*C j r*dt r (Eu j C)
def Ih:∀ {r:Nat} {C D:Nat->Nat->Int},(∀ t,t<r->∀ i,i<r->C t i=D t i)->dt r C=dt r D
 |0,_,_,_=>rfl
 |r+1,C,D,h=>by
  rw[dt,dt];refine Cr fun j e=>?_;rw[h j e r oV,Ih (D:=Eu j D)];intro t g i hi;unfold Eu;split
  ·exact h t oV i oV
  exact h (t+1) oV i oV
def Dc (C:Nat->Nat->Int)(j:Nat)(x:Nat->Int):Nat->Nat->Int:=fun t=>if t=j then x else C t
theorem Od (C:Nat->Nat->Int)(j:Nat)(x:Nat->Int):Eu j (Dc C j x)=Eu j C:=by
 funext t
 unfold Eu Dc;split
 ·grind
 grind
theorem Nz (C:Nat->Nat->Int)(h:j<a)(x:Nat->Int):Eu a (Dc C j x)=Dc (Eu a C) j x:=by
 funext t
 unfold Eu Dc;by_cases e:t=j
 ·grind
 grind
theorem Kz (C:Nat->Nat->Int)(h:a<j)(x:Nat->Int):Eu a (Dc C j x)=Dc (Eu a C) (j-1) x:=by
 funext t
 unfold Eu Dc;by_cases e:t=j-1
 ·grind
 grind
def Ja (C:Nat->Nat->Int)(j:Nat)(x:Nat->Int):Dc C j x j=x:=by simp[Dc]
theorem Id (C:Nat->Nat->Int){j t:Nat}(h:t≠j)(x:Nat->Int):Dc C j x t=C t:=by simp[Dc,h]
theorem O2 (C:Nat->Nat->Int)(j:Nat):Dc C j (C j)=C:=by
 funext t
 unfold Dc;split
 ·grind
 rfl
theorem Mt (a b:Int)(x y:Nat->Int):∀ {r:Nat} (C:Nat->Nat->Int) {j:Nat},j<r->dt r (Dc C j fun i=>a*x i+b*y i)=a*dt r (Dc C j x)+b*dt r (Dc C j y)
 |0,_,_,h=>oV
 |r+1,C,j,h=>by
  rw[dt,dt,dt,<-Ll];refine Cr fun t k=>?_;by_cases e:t=j
  ·subst e;rw[Od,Od,Od,Ja,Ja,Ja];grind
  rw[Id C e,Id C e,Id C e];by_cases g:j<t
  ·rw[Nz C g,Nz C g,Nz C g,Mt a b x y (Eu t C) oV];grind
  have g:t<j:=oV;rw[Kz C g,Kz C g,Kz C g,Mt a b x y (Eu t C) oV];grind
def Akv (C:Nat->Nat->Int)(h:j<r):dt r (Dc C j fun _=>0)=0:=by
 have:=Mt 0 0 (fun _=>0) (fun _=>0) C h;simpa using this
theorem Ach:∀ {r:Nat} {C:Nat->Nat->Int} {a:Nat},a+1<r->C a=C (a+1)->dt r C=0
 |0,_,_,h,_=>oV
 |r+1,C,a,h,e=>by
  rw[dt,Ar3 (a:=a) h]
  ·have:Eu a C=Eu (a+1) C:=by
    funext t
    unfold Eu;by_cases h1:t=a
    ·grind
    ·grind
   rw[this,e,show r+(a+1)=(r+a)+1 by omega,dsg];grind
  ·intro t ht h1 h2;have:dt r (Eu t C)=0:=by
    by_cases hl:t<a
    ·refine Ach (a:=a-1) oV ?_;unfold Eu;rw[if_neg oV,if_neg oV,show a-1+1=a by omega];exact e
    ·refine Ach (a:=a) oV ?_;unfold Eu;rw[if_pos oV,if_pos oV];exact e
   rw[this];simp
def swp (C:Nat->Nat->Int)(a:Nat):Nat->Nat->Int:=Dc (Dc C a (C (a+1))) (a+1) (C a)
theorem Ti (C:Nat->Nat->Int)(h:a≠b)(x y:Nat->Int):Dc (Dc C a x) b y=Dc (Dc C b y) a x:=by
 funext t
 unfold Dc;by_cases e:t=a
 ·grind
 grind
def Ayl (C:Nat->Nat->Int)(h:a+1<r):dt r (swp C a) = - dt r C:=by
 have k:a<r:=oV
 let D:(Nat->Int)->(Nat->Int)->Int:=fun x y=>dt r (Dc (Dc C a x) (a+1) y)
 have l2:∀ x y z,D x (fun i=>1*y i+1*z i)=1*D x y+1*D x z:=fun x y z=>Mt 1 1 y z _ h;have l:∀ x y z,D (fun i=>1*y i+1*z i) x=1*D y x+1*D z x:=fun x y z=>by
  show dt r (Dc (Dc C a _) (a+1) x)=1*dt r (Dc (Dc C a y) (a+1) x)+1*dt r (Dc (Dc C a z) (a+1) x);rw[Ti C (show a≠a+1 by omega) (fun i=>1*y i+1*z i) x,Ti C (show a≠a+1 by omega) y x,Ti C (show a≠a+1 by omega) z x];exact Mt 1 1 y z _ k
 have e:∀ x,D x x=0:=fun x=>Ach h (by rw[Ja,Id _ oV,Ja]);have g:=e (fun i=>1*C a i+1*C (a+1) i);rw[l,l2,l2,e,e]at g;have m:D (C a) (C (a+1))=dt r C:=by
  show dt r (Dc (Dc C a (C a)) (a+1) (C (a+1)))=_;rw[O2,O2]
 have o:D (C (a+1)) (C a)=dt r (swp C a):=rfl;omega
def Ao4 {r:Nat}:∀ {d:Nat} {C:Nat->Nat->Int} {a:Nat},a+d+1<r->C a=C (a+d+1)->dt r C=0
 |0,_,_,h,e=>Ach h e
 |d+1,C,a,h,e=>by
  have:=Ayl C (a:=a+d+1) (r:=r) oV;rw[Ao4 (d:=d) (C:=swp C (a+d+1)) (a:=a) oV]at this
  ·omega
  unfold swp;rw[Id _ oV,Id _ oV,Id _ oV,Ja];exact e
def All {C:Nat->Nat->Int}(g:a<r)(k:b<r)(l:a≠b)(e:C a=C b):dt r C=0:=by
 by_cases h:a<b
 ·exact Ao4 (d:=b-a-1) (a:=a) oV (by rw[show a+(b-a-1)+1=b by omega];exact e)
 exact Ao4 (d:=a-b-1) (a:=b) oV (by rw[show b+(a-b-1)+1=a by omega];exact e.symm)
def Aiz {r:Nat}(C:Nat->Nat->Int){j:Nat}(h:j<r)(a:Nat->Int)(X:Nat->Nat->Int):∀ n:Nat,dt r (Dc C j fun i=>Ca n fun t=>a t*X t i)=Ca n fun t=>a t*dt r (Dc C j (X t))
 |0=>Akv C h
 |n+1=>by
  have:=Mt 1 (a n) (fun i=>Ca n fun t=>a t*X t i) (X n) C h;rw[Aiz C h a X n]at this;simp only[Ca];rw[Ba8]at this;rw[<-this]
  congr 2
  funext i
  rw[Ba8]
def Z3 (C:Nat->Nat->Int)(h:j<r)(a:Nat->Int):dt r (Dc C j fun i=>Ca r fun t=>a t*C t i)=a j*dt r C:=by
 rw[Aiz C h,X9 h,O2];intro t k g;rw[All (a:=j) (b:=t) h k (fun e=>g e.symm) (by rw[Ja,Id _ g]),Int.mul_zero]
theorem Au9 (C:Nat->Nat->Int)(e:Nat->Int)(h:∀ i,i<r->e i=0):dt (r+1) (Dc C r e)=e r*dt r C:=by
 rw[dt,X9 (j:=r) oV]
 ·rw[Akx,Ja,Ba8,Ih (C:=Eu r (Dc C r e)) (D:=C)];intro t g i hi;unfold Eu;rw[if_pos g,Id _ oV]
 intro t g k;rw[Kz C (by omega:t<r),Ih (D:=Dc (Eu t C) (r-1) fun _=>0)]
 ·rw[Akv _ oV];simp
 intro s l i hi;unfold Dc;split
 ·grind
 rfl
structure Bar (n:Nat)(R:Nat->Nat->Int)(P:Nat->Nat)(r:Nat)(v:Int)(S:Nat->Nat->Int):Prop where
 v0:v≠0
 d:dt r (fun j i=>R i (P j))=v
 lo:∀ i,i<r->∀ k,Ca r (fun j=>S j k*R i (P j))=v*R i k
 hi:∀ i,r<=i->i<n->∀ k,S i k=v*R i k-Ca r (fun j=>S j k*R i (P j))
def Bar.init (n:Nat)(R:Nat->Nat->Int)(P:Nat->Nat):Bar n R P 0 1 R:=⟨fV,rfl,fun i h=>oV,fun i _ _ k=>by simp[Ca]⟩
def Aq5 (a:Int)(f:Nat->Int)(n:Nat):Ca n (fun j=>a*f j)=a*Ca n f:=by
 have:=Ll (f:=f) (g:=f) a 0 (n:=n);simp only[Int.zero_mul,Int.add_zero]at this;exact this
def K4 {v a b:Int}(e:v≠0)(h:v*a=v*b):a=b:=A85 e h
theorem Bar.num (h:Bar n R P r v S)(l:r<n)(c:Nat)(i k:Nat)(hi:i<=r) :
 Ca r (fun j=>(S j k*S r c-S j c*S r k)*R i (P j))+v*S r k*R i c=v*(S r c*R i k):=by
 have e:Ca r (fun j=>(S j k*S r c-S j c*S r k)*R i (P j))=S r c*Ca r (fun j=>S j k*R i (P j))+(- S r k)*Ca r (fun j=>S j c*R i (P j)):=by
  rw[<-Ll];exact Cr fun j _=>by grind
 rw[e];by_cases g:i<r
 ·rw[h.lo i g,h.lo i g];grind
 obtain rfl:i=r:=oV;have m:=h.hi i (A08 _) l k;have o:=h.hi i (A08 _) l c;grind
def Kc (P:Nat->Nat)(r c:Nat):Nat->Nat:=fun j=>if j=r then c else P j
theorem Bar.det (h:Bar n R P r v S)(o:r<n)(c:Nat) :
 dt (r+1) (fun j i=>R i (Kc P r c j))=S r c:=by
 let C:Nat->Nat->Int:=fun j i=>R i (Kc P r c j)
 have g:C r=fun i=>R i c:=by funext i;simp[C,Kc]
 have e:∀ j,j<r->C j=fun i=>R i (P j):=fun j k=>by funext i;simp[C,Kc,show j≠r by omega]
 have m:dt (r+1) (Dc C r (fun i=>v*C r i+(-1)*Ca r (fun j=>S j c*C j i)))=v*dt (r+1) C:=by
  rw[Mt v (-1) (C r) _ C oV,O2,Aiz C oV];rw[Aai]
  ·grind
  intro t l;rw[All (a:=t) (b:=r) oV oV oV (by rw[Ja,Id _ oV]),Int.mul_zero]
 have es:∀ i,Ca r (fun j=>S j c*C j i)=Ca r (fun j=>S j c*R i (P j)):=fun i=>Cr fun j k=>by rw[e j k]
 rw[Au9 C _ (fun i hi=>by
  rw[es,h.lo i hi,g];grind)]at m
 have p:dt r C=v:=by
  rw[<-h.d];exact Ih fun t l i hi=>by rw[e t l]
 have q:v*C r r+(-1)*Ca r (fun j=>S j c*C j r)=S r c:=by
  rw[es,g];have:=h.hi r (A08 _) o c;grind
 refine K4 h.v0 ?_;grind
theorem Bar.dvd (h:Bar n R P r v S)(m:r<n)(s:S r c≠0)(j k:Nat)(x:j<r) :
 v ∣ S j k*S r c-S j c*S r k:=by
 let C:Nat->Nat->Int:=fun j i=>R i (Kc P r c j)
 have l:∀ i,C r i=R i c:=fun i=>by simp[C,Kc]
 have e:∀ j,j<r->∀ i,C j i=R i (P j):=fun j x i=>by simp[C,Kc,show j≠r by omega]
 have u:dt (r+1) C=S r c:=h.det m c;have p:=Z3 C (show j<r+1 by omega) (fun t=>if t=r then v*S r k else S t k*S r c-S t c*S r k);have q:dt (r+1) (Dc C j fun i=>Ca (r+1) fun t=>(if t=r then v*S r k else S t k*S r c-S t c*S r k)*C t i)=dt (r+1) (Dc C j fun i=>(v*S r c)*R i k+0*R i k):=by
  refine Ih fun t o i hi=>?_;unfold Dc;split
  ·simp only[Ca,if_true,l];have:=h.num m c i k oV;rw[Cr (g:=fun j=>(S j k*S r c-S j c*S r k)*R i (P j)) (fun t o=>by rw[if_neg oV,e t o])];grind
  rfl
 rw[q,Mt _ _ _ _ C oV,u,if_neg oV]at p;refine⟨dt (r+1) (Dc C j fun i=>R i k),K4 s ?_⟩;grind
def Af2 {v:Int}{f:Nat->Int}:∀ {n:Nat},(∀ j,j<n->v ∣ f j)->v ∣ Ca n f
 |0,_=>⟨0,by simp[Ca]⟩
 |n+1,h=>Int.dvd_add (Af2 fun j e=>h j oV) (h n oV)
theorem Bar.dvdAll (h:Bar n R P r v S)(l:r<n)(g:S r c≠0)(i k:Nat)(hi:i<n)(t:i≠r) :
 v ∣ S i k*S r c-S i c*S r k:=by
 by_cases o:i<r
 ·exact h.dvd l g i k o
 have p:=h.hi i oV hi k;have s:=h.hi i oV hi c;have e:Ca r (fun j=>(S j k*S r c-S j c*S r k)*R i (P j))=S r c*Ca r (fun j=>S j k*R i (P j))+(- S r k)*Ca r (fun j=>S j c*R i (P j)):=by
  rw[<-Ll];exact Cr fun j _=>by grind
 obtain⟨q,u⟩:v ∣ Ca r (fun j=>(S j k*S r c-S j c*S r k)*R i (P j)):=Af2 fun j m=>Int.dvd_mul_of_dvd_left (h.dvd l g j k m);exact⟨S r c*R i k-S r k*R i c-q,by grind⟩
theorem Bar.step {n:Nat}{R:Nat->Nat->Int}{P:Nat->Nat}{r:Nat}{v:Int}{S:Nat->Nat->Int}(h:Bar n R P r v S)(q:r<n){c:Nat}(x:S r c≠0){S':Nat->Nat->Int}
 (hp:∀ k,S' r k=S r k) (s:∀ i,i<n->i≠r->∀ k,v*S' i k=S i k*S r c-S i c*S r k):Bar n R (Kc P r c) (r+1) (S r c) S':=by
 have t:=h.v0;have u:∀ j,j<r->Kc P r c j=P j:=fun j o=>by simp[Kc,show j≠r by omega]
 have m:Kc P r c r=c:=by simp[Kc]
 have e:∀ i k,v*Ca r (fun j=>S' j k*R i (P j))=Ca r (fun j=>(S j k*S r c-S j c*S r k)*R i (P j)):=fun i k=>by
  rw[<-Aq5];exact Cr fun j o=>by rw[<-s j oV oV];grind
 have p:∀ i k,Ca (r+1) (fun j=>S' j k*R i (Kc P r c j))=Ca r (fun j=>S' j k*R i (P j))+S r k*R i c:=fun i k=>by
  rw[Ca,m,hp,Cr (g:=fun j=>S' j k*R i (P j)) fun j o=>by rw[u j o]]
 refine⟨x,h.det q c,fun i hi k=>?_,fun i z l k=>?_⟩
 ·refine K4 t ?_;rw[p,Ba2,e];have:=h.num q c i k oV;grind
 refine K4 t ?_;rw[p,s i l oV];have A:=e i k;have y:Ca r (fun j=>(S j k*S r c-S j c*S r k)*R i (P j))=S r c*Ca r (fun j=>S j k*R i (P j))+(- S r k)*Ca r (fun j=>S j c*R i (P j)):=by
  rw[<-Ll];exact Cr fun j _=>by grind
 have B:=h.hi i oV l k;have C:=h.hi i oV l c;grind
def rsw (F:Nat->Nat->Int)(p q:Nat):Nat->Nat->Int:=fun i=>if i=p then F q else if i=q then F p else F i
def Bar.swap (h:Bar n R P r v S){p:Nat}(u:r<=p)(x:p<n):Bar n (rsw R p r) P r v (rsw S p r):=by
 have m:∀ F:Nat->Nat->Int,∀ i,i<r->rsw F p r i=F i:=fun F i hi=>by simp[rsw,show i≠p by omega,show i≠r by omega]
 refine⟨h.v0,?_,fun i hi k=>?_,fun i hi y k=>?_⟩
 ·rw[<-h.d];exact Ih fun t _ i hi=>by rw[m R i hi]
 ·rw[m R i hi,<-h.lo i hi];exact Cr fun j q=>by rw[m S j q]
 have:∀ l,r<=l->l < n->rsw S p r i=S l->rsw R p r i=R l->rsw S p r i k=v*rsw R p r i k-Ca r (fun j=>rsw S p r j k*rsw R p r i (P j)):=fun l a b s g=>by
  rw[s,g,h.hi l a b]
  congr 1
  exact Cr fun j q=>by rw[m S j q]
 by_cases e:i=p
 ·exact this r (A08 _) oV (by simp[rsw,e]) (by simp[rsw,e])
 by_cases g:i=r
 ·exact this p u x (by simp[rsw,g];intro o;rw[o]) (by simp[rsw,g];intro o;rw[o])
 exact this i hi y (by simp[rsw,e,g]) (by simp[rsw,e,g])
end
section
variable {R:Nat->Nat->Int}{X:List (List Int)}{i j n p r w:Nat}{l:List Int}
def gZ (l:List Int)(j:Nat):Int:=l.getD j 0
def gMZ (X:List (List Int))(i:Nat):List Int:=X.getD i []
def enZ (X:List (List Int))(i j:Nat):Int:=gZ (gMZ X i) j
def E8 (n w:Nat)(X:List (List Int)):Prop:=X.length=n/\∀ i,i<n->(gMZ X i).length=w
def Ol (h:j<l.length):gZ l j=l[j]:=by unfold gZ;rw[A02,A01 h];rfl
def Ado (h:l.length<=j):gZ l j=0:=by unfold gZ;rw[A02,A1v h];rfl
def Xj (h:i<X.length):gMZ X i=X[i]:=by unfold gMZ;rw[A02,A01 h];rfl
theorem Kv {i k:Nat}{r:List Int}(h:i<X.length):gMZ (X.set i r) k=if i=k then r else gMZ X k:=by
 unfold gMZ;by_cases e:i=k
 ·grind
 grind
def Abr (f:Nat->Int)(h:j<n):gZ ((List.range n).map f) j=f j:=by
 rw[Ol (by simpa using h)];simp
def Iy (X:List (List Int))(c:Nat):Nat->Nat->Nat
 |0,p=>p
 |f+1,p=>if enZ X p c=0 then Iy X c f (p+1) else p
def Kw (X:List (List Int))(p r:Nat):List (List Int):=(X.set p (gMZ X r)).set r (gMZ X p)
def Qx (v a g:Int)(R row:List Int):List Int:=(List.range row.length).map fun k=>(gZ row k*a-g*gZ R k)/v
def Ov (r c:Nat)(v:Int):Nat->Nat->List (List Int)->List (List Int)
 |0,_,X=>X
 |f+1,i,X=>Ov r c v f (i+1) (if i=r then X else X.set i (Qx v (enZ X r c) (enZ X i c) (gMZ X r) (gMZ X i)))
structure BZ where
 X:List (List Int)
 P:zK
 v:Int
 odd:Bool
def I0 (n c:Nat)(s:BZ):BZ :=
 if Iy s.X c (n-s.P.length) s.P.length=n then s
 else ⟨Ov s.P.length c s.v n 0 (if Iy s.X c (n-s.P.length) s.P.length=s.P.length then s.X else Kw s.X (Iy s.X c (n-s.P.length) s.P.length) s.P.length),s.P++[c],
  enZ s.X (Iy s.X c (n-s.P.length) s.P.length) c,if Iy s.X c (n-s.P.length) s.P.length=s.P.length then s.odd else !s.odd⟩
def Fm (n:Nat):Nat->Nat->BZ->BZ
 |0,_,s=>s
 |f+1,c,s=>Fm n f (c+1) (I0 n c s)
def Ac3 (X:List (List Int))(c:Nat):∀ f p,p<=Iy X c f p/\Iy X c f p<=p+f
 |0,p=>by simp[Iy]
 |f+1,p=>by
  unfold Iy;split
  ·have:=Ac3 X c f (p+1);omega
  omega
def Abg (X:List (List Int))(c:Nat):∀ f p i,p<=i->i<Iy X c f p->enZ X i c=0
 |0,p,i,h1,h2=>by simp[Iy]at h2;omega
 |f+1,p,i,h1,h2=>by
  unfold Iy at h2;split at h2
  ·rename_i h;by_cases e:i=p
   ·subst e;exact h
   exact Abg X c f (p+1) i oV h2
  omega
def Ade (X:List (List Int))(c:Nat):∀ f p,Iy X c f p<p+f->enZ X (Iy X c f p) c≠0
 |0,p,h=>by simp[Iy]at h
 |f+1,p,h=>by
  unfold Iy at h⊢;split at h
  ·rename_i h0;rw[if_pos h0];exact Ade X c f (p+1) oV
  rename_i h0;rw[if_neg h0];exact h0
def Lt {r:List Int}(h:E8 n w X)(hi:i<n)(b:r.length=w):E8 n w (X.set i r):=by
 refine⟨by simp[h.1],fun j a=>?_⟩;rw[Kv (by rw[h.1];exact hi)];split
 ·exact b
 exact h.2 j a
def Uh (h:E8 n w X)(hp:p<n)(a:r<n):E8 n w (Kw X p r) :=
 Lt (Lt h hp (h.2 r a)) a (h.2 p hp)
theorem Wz (h:E8 n w X)(hp:p<n)(a:r<n)(i:Nat):gMZ (Kw X p r) i=if i=r then gMZ X p else if i=p then gMZ X r else gMZ X i:=by
 unfold Kw;rw[Kv (by simp[h.1];exact a),Kv (by rw[h.1];exact hp)];by_cases e:r=i
 ·grind
 grind
def S2 (v a g:Int)(R row:List Int):(Qx v a g R row).length=row.length:=by simp[Qx]
def Acv (v a g:Int)(R row:List Int)(h:R.length=row.length)(j:Nat):gZ (Qx v a g R row) j=(gZ row j*a-g*gZ R j)/v:=by
 by_cases b:j<row.length
 ·unfold Qx;exact Abr _ b
 rw[Ado (by rw[S2];omega),Ado (l:=row) oV,Ado (l:=R) oV];simp
def Wu {n w r c:Nat}{v:Int}(a:r<n):∀ f i X,i+f<=n->E8 n w X->E8 n w (Ov r c v f i X)
 |0,i,X,_,h=>h
 |f+1,i,X,hf,h=>by
  unfold Ov;refine Wu a f (i+1) _ oV ?_;split
  ·exact h
  exact Lt h oV (by rw[S2];exact h.2 i oV)
def Ry {n w r c:Nat}{v:Int}(m:r<n):∀ f i X,i+f<=n->E8 n w X->∀ k,gMZ (Ov r c v f i X) k=if i<=k/\k<i+f/\k≠r then Qx v (enZ X r c) (enZ X k c) (gMZ X r) (gMZ X k) else gMZ X k
 |0,i,X,_,h,k=>by rw[if_neg oV];rfl
 |f+1,i,X,hf,h,k=>by
  unfold Ov;by_cases e:i=r
  ·rw[if_pos e,Ry m f (i+1) X oV h k];by_cases a:i+1<=k/\k<i+1+f/\k≠r
   ·rw[if_pos a,if_pos ⟨oV,oV,a.2.2⟩]
   rw[if_neg a,if_neg oV]
  have o:E8 n w (X.set i (Qx v (enZ X r c) (enZ X i c) (gMZ X r) (gMZ X i))):=Lt h oV (by rw[S2];exact h.2 i oV);have g:i<X.length:=by rw[h.1];omega
  rw[if_neg e,Ry m f (i+1) _ oV o k];unfold enZ;rw[Kv g,Kv g,if_neg e];by_cases a:i=k
  ·subst a;rw[if_neg oV,if_pos rfl,if_pos ⟨oV,oV,e⟩]
  rw[if_neg a];by_cases b:i+1<=k/\k<i+1+f/\k≠r
  ·rw[if_pos b,if_pos ⟨oV,oV,b.2.2⟩]
  rw[if_neg b,if_neg oV]
def Ag4 (n:Nat)(A R:Nat->Nat->Int):Prop:=∀ i,i<n->∃ j,j<n/\A i=R j
def Ag4.swap {A R:Nat->Nat->Int}(h:Ag4 n A R)(hp:p<n)(f:r<n):Ag4 n A (rsw R p r):=fun i hi=>by
 obtain⟨j,c,e⟩:=h i hi;by_cases b:j=p
 ·subst b;refine⟨r,f,?_⟩;unfold rsw;by_cases a:r=j
  ·rw[if_pos a,e,a]
  rw[if_neg a,if_pos rfl,e]
 by_cases a:j=r
 ·subst a;exact⟨p,hp,by unfold rsw;rw[if_pos rfl,e]⟩
 exact⟨j,c,by unfold rsw;rw[if_neg b,if_neg a,e]⟩
structure Ajv (n w:Nat)(A:Nat->Nat->Int)(c:Nat)(s:BZ):Prop where
 rc:E8 n w s.X
 len:s.P.length=c
 bar:∃ R,Ag4 n A R/\Ag4 n R A/\Bar n R (fun j=>j) c s.v (enZ s.X)
def Ajp {P Q:Nat->Nat}{v:Int}{S:Nat->Nat->Int}(h:Bar n R P r v S)(e:∀ j,j<r->P j=Q j):Bar n R Q r v S:=by
 refine⟨h.v0,?_,fun i hi k=>?_,fun i b c k=>?_⟩
 ·rw[<-h.d];exact Ih fun t f i _=>by rw[e t f]
 ·rw[<-h.lo i hi];exact Cr fun j a=>by rw[e j a]
 rw[h.hi i b c];congr 1;exact Cr fun j a=>by rw[e j a]
def Ker (n:Nat)(A:Nat->Nat->Int):Prop:=∃ y:Nat->Int,(∃ j,j<n/\y j≠0)/\∀ i,i<n->Ca n (fun j=>y j*A i j)=0
theorem Ajv.step {n w:Nat}{A:Nat->Nat->Int}{c:Nat}{s:BZ}(h:Ajv n w A c s)(g:c<n):Ajv n w A (c+1) (I0 n c s)\/(Ker n A/\I0 n c s=s):=by
 obtain⟨t,q,R,o,b,f⟩:=h;unfold I0;obtain⟨I,L⟩:=Ac3 s.X c (n-s.P.length) s.P.length;have N:=Abg s.X c (n-s.P.length) s.P.length;have O:=Ade s.X c (n-s.P.length) s.P.length;generalize Iy s.X c (n-s.P.length) s.P.length=p at *
 rw[q]at I L N O⊢;by_cases e:p=n
 ·rw[if_pos e];refine .inr ⟨?_,rfl⟩;refine⟨fun j=>if j<c then enZ s.X j c else if j=c then-s.v else 0,⟨c,g,by simp;exact f.v0⟩,fun i hi=>?_⟩;obtain⟨y,F,D⟩:=o i hi;rw[D];have key:∀ m,m<=n->Ca m (fun j=>(if j<c then enZ s.X j c else if j=c then-s.v else 0)*R y j)=Ca (min m c) (fun j=>enZ s.X j c*R y j)+if c<m then-s.v*R y c else 0:=by
   intro m;induction m with
   |zero=>intro _;simp[Ca]
   |succ m ih =>
    intro U;rw[Ca,ih oV];by_cases E:m<c
    ·rw[if_pos E,if_neg oV,if_neg oV,show min m c=m by omega,show min (m+1) c=m+1 by omega,Ca];omega
    grind
  rw[key n (A08 _),show min n c=c by omega,if_pos g];by_cases E:y < c
  ·rw[f.lo y E];grind
  have:=f.hi y oV F c;grind
 rw[if_neg e];have hp:p<n:=oV;refine .inl ?_;have a:E8 n w (if p=c then s.X else Kw s.X p c):=by
  split
  ·grind
  exact Uh t hp g
 have x:∀ i,gMZ (if p=c then s.X else Kw s.X p c) i=if i=c then gMZ s.X p else if i=p then gMZ s.X c else gMZ s.X i:=fun i=>by
  by_cases D:p=c
  ·grind
  rw[if_neg D];exact Wz t hp g i
 have B:enZ (if p=c then s.X else Kw s.X p c)=rsw (enZ s.X) p c:=by
  funext i k
  unfold enZ rsw;by_cases Q:i=p
  ·grind
  grind
 have u:=f.swap I hp;rw[<-B]at u;have H:enZ (if p=c then s.X else Kw s.X p c) c c=enZ s.X p c:=by unfold enZ;rw[x,if_pos rfl]
 generalize (if p=c then s.X else Kw s.X p c)=X1 at *
 have z:enZ X1 c c≠0:=by grind
 refine⟨Wu g n 0 X1 oV a,by simp[q],_,o.swap hp g,fun i hi=>by
  unfold rsw;split
  ·exact b c g
  split
  ·exact b p hp
  exact b i hi,?_⟩
 rw[<-H];have J:=fun i k hi C=>u.dvdAll g z i k hi C;have K:=u.step g z (S':=enZ (Ov c c s.v n 0 X1)) (fun k=>by unfold enZ;rw[Ry g n 0 X1 oV a,if_neg oV]) (fun i hi C k=>by
  show s.v*gZ (gMZ (Ov c c s.v n 0 X1) i) k=_;rw[Ry g n 0 X1 oV a,if_pos ⟨oV,oV,C⟩,Acv _ _ _ _ _ (by rw[a.2 c g,a.2 i hi])];exact Int.mul_ediv_cancel' (J i k hi C))
 exact Ajp K fun j T=>by unfold Kc;dsimp only;split<;>omega
def Avz {n c:Nat}{s:BZ}:(I0 n c s).P.length<=s.P.length+1:=by
 unfold I0;split
 ·omega
 simp
def Ako {n:Nat}:∀ (f c:Nat) (s:BZ),(Fm n f c s).P.length<=s.P.length+f
 |0,c,s=>by simp[Fm]
 |f+1,c,s=>by
  unfold Fm;have:=Ako (n:=n) f (c+1) (I0 n c s);have:=Avz (n:=n) (c:=c) (s:=s);omega
def Aci {n w:Nat}{A:Nat->Nat->Int}:∀ (f c:Nat) (s:BZ),c+f=n->Ajv n w A c s->Ajv n w A n (Fm n f c s)\/(Ker n A/\(Fm n f c s).P.length<n)
 |0,c,s,h,hf=>.inl (by
  have:c=n:=oV;subst this;exact hf)
 |f+1,c,s,h,hf=>by
  unfold Fm;rcases hf.step oV with a|⟨a,b⟩
  ·exact Aci f (c+1) _ oV a
  refine .inr ⟨a,?_⟩;rw[b];have:=Ako (n:=n) f (c+1) s;have:=hf.len;omega
theorem Za (h:E8 n w X):((Fm n n 0 ⟨X,[],1,false⟩).P.length=n/\E8 n w (Fm n n 0 ⟨X,[],1,false⟩).X/\(Fm n n 0 ⟨X,[],1,false⟩).v≠0 /\
 ∀ i,i<n->∀ k,Ca n (fun j=>enZ (Fm n n 0 ⟨X,[],1,false⟩).X j k*enZ X i j)=(Fm n n 0 ⟨X,[],1,false⟩).v*enZ X i k) \/
 (Ker n (enZ X)/\(Fm n n 0 ⟨X,[],1,false⟩).P.length<n):=by
 have h0:Ajv n w (enZ X) 0 ⟨X,[],1,false⟩:=⟨h,rfl,enZ X,fun i hi=>⟨i,hi,rfl⟩,fun i hi=>⟨i,hi,rfl⟩,Bar.init n _ _⟩;rcases Aci n 0 _ oV h0 with ⟨b,f,R,g,_,c⟩|b
 ·refine .inl ⟨f,b,c.v0,fun i hi k=>?_⟩;obtain⟨m,a,e⟩:=g i hi;rw[e];exact c.lo m a k
 grind
def zs (K:Nat):Nat->Nat
 |0=>K
 |r+1=>2*zs K r+2
end
section
variable {e g:Nat}{o:Obj}{w:World}
abbrev PH:=Nat->Option Obj
def PH.mt:PH:=fun _=>none
def Fj (x:PH)(w:World):Prop:=∀ g o,x g=some o->w.heap[g]?=some o
def Hp (x y:PH):Prop:=∀ g,x g=none\/y g=none
def PH.le (x y:PH):Prop:=∀ g o,x g=some o->y g=some o
def Adw (u:PH)(w:World):Prop:=∀ (g:Nat) (cs:Array Value) (t:TypeId) (fr:Nat×Nat) (j:Nat) (z:Int),w.heap[g]?=some (.cells cs t fr)->cs[j]?=some (.int .u64 z)->u g=some (.cells cs t fr)
structure Bv (u m:PH)(w:World):Prop where
 pu:Fj u w
 pm:Fj m w
 ap:Hp u m
 cl:Adw u w
class Cl where
 on:Prop
instance (priority:=low) Cl.no:Cl:=⟨False⟩
structure Ok (w w':World):Prop where
 tape:w'.tape=w.tape
 dr:w.drawn<=w'.drawn
def Ok.refl (w:World):Ok w w:=⟨rfl,A08 _⟩
def Ok.trans {a b c:World}(h:Ok a b)(k:Ok b c):Ok a c:=⟨k.tape.trans h.tape,A04 h.dr k.dr⟩
variable [Fl:Cl]
structure B0 (u m:PH)(w:World)(u' m':PH)(w':World):Prop where
 sz:w.heap.size<=w'.heap.size
 old:∀ g,g<w.heap.size->m g=none->w'.heap[g]?=w.heap[g]?
 us:∀ g,g<w.heap.size->u' g=u g
 ms:∀ g,g<w.heap.size->m g=none->m' g=none
 io:w'.os=w.os/\w'.output=w.output
 dr:Fl.on->Ok w w'
def Aw (h:w.heap[g]?=some o):g<w.heap.size:=by
 rcases A2e g w.heap.size with a|a
 ·exact a
 simp[A43 a]at h
def Fj.lt {x:PH}(h:Fj x w)(a:x g=some o):g<w.heap.size:=Aw (h g o a)
def Fj.none {x:PH}{w:World}(h:Fj x w){g:Nat}(a:w.heap.size<=g):x g=none:=by
 cases hx:x g with
 |none=>rfl
 |some o=>have:=h.lt hx;omega
def B0.refl (u m:PH)(w:World):B0 u m w u m w:=⟨A08 _,fun _ _ _=>rfl,fun _ _=>rfl,fun _ _ h=>h,⟨rfl,rfl⟩,fun _=>Ok.refl w⟩
def B0.trans {u m l c n j:PH}{w p q:World}(h:B0 u m w l c p)(k:B0 l c p n j q):B0 u m w n j q :=
 ⟨A04 h.sz k.sz,fun g a b=>(k.old g (A2s a h.sz) (h.ms g a b)).trans (h.old g a b),
  fun g a=>(k.us g (A2s a h.sz)).trans (h.us g a),fun g a b=>k.ms g (A2s a h.sz) (h.ms g a b),⟨k.io.1.trans h.io.1,k.io.2.trans h.io.2⟩,fun f=>(h.dr f).trans (k.dr f)⟩
def B0.le {u m b c:PH}{w w':World}(h:B0 u m w b c w')(hp:Fj u w):PH.le u b :=
 fun g o a=>by rw[h.us g (hp.lt a)];exact a
def PH.le_refl (u:PH):PH.le u u:=fun _ _ h=>h
def PH.le.trans {u v x:PH}(h:PH.le u v)(k:PH.le v x):PH.le u x:=fun g o a=>k g o (h g o a)
inductive SV where
 |junk
 |v (x:Value)
 |p (k off:Nat)
def SV.den (ρ:Nat->Nat):SV->Value
 |.junk=>undef
 |.v x=>x
 |.p k off=>.pointer (some ⟨ρ k,off,none⟩)
structure Blk where
 t:TypeId
 cells:List SV
structure S where
 n:Nat
 tm:Nat->SV
 hp:Nat->Option Blk
def S.put (s:S)(d:Option Nat)(x:SV):S :=
 match d with
 |none=>s
 |some d=>{ s with tm:=fun e=>cond (Nat.beq e d) x (s.tm e) }
def S.setb (s:S)(w:Option (Nat×Blk)):S :=
 match w with
 |none=>s
 |some (k,b)=>{ s with hp:=fun j=>cond (Nat.beq j k) (some b) (s.hp j) }
def S.ev (s:S):Operand->SV
 |.tmp t=>s.tm t
 |.const v=>.v v
 |.global g=>.v (.pointer (some ⟨g,0,none⟩))
 |.func f=>.v (.func (.func f) #[] #[])
def Az (s:S)(d:Nat)(x:SV):(s.put (some d) x).tm d=x:=by simp[S.put]
def Ct (s:S)(d:Nat)(x:SV)(h:e≠d):(s.put (some d) x).tm e=s.tm e:=by
 have:Nat.beq e d=false:=by rw[<-A87];exact fun a=>h (A1y a)
 simp[S.put,this]
def Gi (s:S)(d:Option Nat)(x:SV)(h:d≠some e):(s.put d x).tm e=s.tm e:=by
 cases d with
 |none=>rfl
 |some d=>exact Ct s d x (fun a=>h (by rw[a]))
def Du (s:S)(d:Option Nat)(x:SV):(s.put d x).hp=s.hp:=by cases d<;>rfl
def Ft (s:S)(w:Option (Nat×Blk)):(s.setb w).tm=s.tm:=by rcases w with _|⟨k,b⟩<;>rfl
theorem Bo (s:S)(k:Nat)(b:Blk):(s.setb (some (k,b))).hp k=some b:=by simp[S.setb]
def Be (s:S)(k:Nat)(b:Blk){j:Nat}(h:j≠k):(s.setb (some (k,b))).hp j=s.hp j:=by
 have:Nat.beq j k=false:=by rw[<-A87];exact fun a=>h (A1y a)
 simp[S.setb,this]
def Abh (s:S)(d:Option Nat)(x:SV):(s.put d x).n=s.n:=by cases d<;>rfl
def Ul (s:S)(w:Option (Nat×Blk)):(s.setb w).n=s.n:=by rcases w with _|⟨k,b⟩<;>rfl
def S.ext' {s t:S}(a:s.n=t.n)(h:s.tm=t.tm)(k:s.hp=t.hp):s=t:=by cases s;cases t;simp_all
def Afo (s:S){d e:Option Nat}(x y:SV)(h:∀ k,d=some k->e≠some k):(s.put d x).put e y=(s.put e y).put d x:=by
 refine S.ext' (by simp only[Abh]) (funext fun i=>?_) (by simp only[Du]);by_cases b:d=some i
 ·have a:e≠some i:=h i b;subst b;rw[Gi _ _ _ a,Az,Az]
 rw[Gi _ d x b];by_cases a:e=some i
 ·subst a;rw[Az,Az]
 rw[Gi _ _ _ a,Gi _ _ _ a,Gi _ _ _ b]
def Rt (s:S)(d:Option Nat)(x:SV)(w:Option (Nat×Blk)):(s.setb w).put d x=(s.put d x).setb w:=by
 cases d<;>rcases w with _|⟨k,b⟩<;>rfl
def An6 (s:S)(w w':Option (Nat×Blk))(h:∀ k b a b',w=some (k,b)->w'=some (a,b')->k≠a):(s.setb w).setb w'=(s.setb w').setb w:=by
 rcases w with _|⟨k,b⟩
 ·rfl
 rcases w' with _|⟨a,b'⟩
 ·rfl
 have j:=h k b a b' rfl rfl;refine S.ext' rfl rfl (funext fun i=>?_);by_cases c:i=k
 ·subst c;rw[Be _ _ _ j,Bo,Bo]
 by_cases f:i=a
 ·subst f;rw[Bo,Be _ _ _ c,Bo]
 rw[Be _ _ _ f,Be _ _ _ c,Be _ _ _ c,Be _ _ _ f]
def Apk (ρ:Nat->Nat)(b:Blk)(o:Option Obj):Prop :=
 ∃ cs:Array Value,o=some (.cells cs b.t (0,0))/\cs.size=b.cells.length/\∀ (i:Nat) (x:SV),b.cells[i]?=some x->x≠.junk->cs[i]?=some (x.den ρ)
structure Cx where
 w0:World
 u0:PH
 m0:PH
def Xm (r:Nat):Deferred:={ target:=.collected r,args:=#[] }
class Co where
 dl:List Deferred
instance (priority:=low) Co.no:Co:=⟨[]⟩
class Pu where
 b:Bool
instance (priority:=low) Pu.no:Pu:=⟨false⟩
def U3 (d:Deferred):Bool:=match d.target with|.collected _=>true|_=>false
def Agv [Co](n0:Nat)(u m:PH)(w:World)(dl:List Deferred):Prop:=∃ ds:zK,ds.Nodup/\dl.filter U3=ds.map Xm/\dl.filter (fun d=>!U3 d)=Co.dl/\∀ r∈ds,w.heap[r]?=some (.deferred (some []))/\n0<=r/\u r=none/\m r=none
def Agv.nil (b:Nat)(u m:PH)(w:World):Agv b u m w []:=⟨[],.nil,rfl,rfl,fun r a=>by cases a⟩
def Agv.of [Co]{b:Nat}{u m j f:PH}{w w':World}{dl:List Deferred}(h:Agv b u m w dl)
 (y:∀ r,w.heap[r]?=some (.deferred (some []))->b<=r->u r=none->m r=none->w'.heap[r]?=some (.deferred (some []))/\j r=none/\f r=none):Agv b j f w' dl:=by
 obtain⟨k,s,t,a,x⟩:=h;refine⟨k,s,t,a,fun r z=>?_⟩;obtain⟨l,c,n,p⟩:=x r z;obtain⟨f1,f2,q⟩:=y r l c n p;exact⟨f1,c,f2,q⟩
def On (s:S):Prop:=(∀ d k off,s.tm d=.p k off->s.hp k≠none)/\(∀ j b k off,s.hp j=some b->SV.p k off∈b.cells->s.hp k≠none)
structure Rel [Co](c:Cx)(s:S)(u m:PH)(ρ:Nat->Nat)(a:Act)(w:World):Prop where
 sz:a.tmps.size=s.n
 tm:∀ d,s.tm d≠.junk->a.tmps[d]?=some ((s.tm d).den ρ)
 df:Agv c.w0.heap.size u m w a.defers
 box:∀ k b,s.hp k=some b->Apk ρ b (w.heap[ρ k]?)/\c.w0.heap.size<=ρ k/\u (ρ k)=none/\m (ρ k)=none
 inj:∀ k j,s.hp k≠none->s.hp j≠none->ρ k=ρ j->k=j
 lv:On s
 gd:Bv u m w
 gr:B0 c.u0 c.m0 c.w0 u m w
def Rel.eval [Co]{c:Cx}{s:S}{u m:PH}{ρ:Nat->Nat}{a:Act}{w:World}(h:Rel c s u m ρ a w)(x:Operand)(b:s.ev x≠.junk):a.eval x=(s.ev x).den ρ:=by
 cases x with
 |tmp t=>have:=h.tm t b;simp[Act.eval,S.ev,this]
 |const v=>rfl
 |global g=>rfl
 |func f=>rfl
end
section
variable {g:Nat}{v:Value}
variable [Cl] [Co]
def Ax:Value->Bool
 |.agg _|.tuple _=>false
 |.int .u64 _=>false
 |_=>true
def Gl (h:Ax v=true):v.oneCell'=true:=by
 unfold Ax at h;split at h<;>simp_all [Value.oneCell']
 all_goals (cases v<;>simp_all)
def Kr (h:Ax v=true)(z:Int):v≠.int .u64 z:=by rintro rfl;simp[Ax]at h
section rel
variable {c:Cx} {s:S} {u m:PH} {ρ:Nat->Nat} {a:Act} {w:World}
def Rel.put (h:Rel c s u m ρ a w){d:Option Nat}{x:SV}{y:Value}(D:x≠.junk->y=x.den ρ)(A:∀ k off,x=.p k off->s.hp k≠none)(t:∀ e,d=some e->e<s.n) :
 Rel c (s.put d x) u m ρ (a.put d y) w:=by
 cases d with
 |none=>exact h
 |some d =>
  have z:=t d rfl;have C:=h.sz;refine⟨by simpa[Act.put,S.put] using h.sz,fun e l=>?_,by simpa[Act.put] using h.df,fun k b q=>?_,fun k j r o=>?_,⟨fun e k off l=>?_,fun j b k off o B=>?_⟩,h.gd,h.gr⟩
  ·by_cases f:e=d
   ·subst f;rw[Az]at l⊢;simp only[Act.put];rw[A7x];simp[show e<a.tmps.size by omega,D l]
   rw[Ct _ _ _ f]at l⊢;simp only[Act.put];rw[A2m (fun h=>f h.symm)];exact h.tm e l
  ·rw[Du]at q;exact h.box k b q
  ·rw[Du]at r o;exact h.inj k j r o
  ·rw[Du];by_cases f:e=d
   ·subst f;rw[Az]at l;exact A k off l
   rw[Ct _ _ _ f]at l;exact h.lv.1 e k off l
  rw[Du]at o⊢;exact h.lv.2 j b k off o B
def Aq (w:World)(o:Obj)(h:g<w.heap.size):(w.alloc o).heap[g]?=w.heap[g]?:=by
 show (w.heap.push o)[g]?=_;rw[A95,if_neg (Nat.ne_of_lt h)]
def Cn (w:World)(o:Obj):(w.alloc o).heap[w.heap.size]?=some o:=by
 show (w.heap.push o)[w.heap.size]?=_;rw[A95,if_pos rfl]
def B6 (w:World)(o:Obj):(w.alloc o).heap.size=w.heap.size+1:=Array.size_push ..
def Bv.alloc (h:Bv u m w){cs:Array Value}{t:TypeId}{fr:Nat×Nat}(p:∀ (j:Nat) (z:Int),cs[j]?≠some (.int .u64 z)):Bv u m (w.alloc (.cells cs t fr)):=by
 refine⟨fun g o b=>?_,fun g o b=>?_,h.ap,fun g e q f j z b n=>?_⟩
 ·rw[Aq _ _ (h.pu.lt b)];exact h.pu g o b
 ·rw[Aq _ _ (h.pm.lt b)];exact h.pm g o b
 have l:=Aw b;rw[B6]at l;by_cases k:g=w.heap.size
 ·subst k;rw[Cn]at b;simp only[A1f,Obj.cells.injEq]at b;obtain⟨rfl,rfl,rfl⟩:=b;exact absurd n (p j z)
 rw[Aq _ _ oV]at b;exact h.cl g e q f j z b n
def B0.alloc {e m0:PH}{j:World}(h:B0 e m0 j u m w)(o:Obj):B0 e m0 j u m (w.alloc o) :=
 ⟨by rw[B6];have:=h.sz;omega,fun g b k=>by rw[Aq _ _ (A2s b h.sz)];exact h.old g b k,h.us,h.ms,h.io,fun f=>⟨(h.dr f).tape,(h.dr f).dr⟩⟩
def Acp {ρ:Nat->Nat}{k g:Nat}{x:SV}(b:∀ off,x≠.p k off):x.den (fun j=>if j=k then g else ρ j)=x.den ρ:=by
 cases x with
 |junk=>rfl
 |v x=>rfl
 |p j off =>
  have:j≠k:=fun e=>b off (by rw[e]);simp[SV.den,this]
def Rel.alloc (h:Rel c s u m ρ a w){k:Nat}(A:s.hp k=none){b:Blk}{cs:Array Value}(B:cs.size=b.cells.length)(H:∀ (i:Nat) (x:SV),b.cells[i]?=some x->x≠.junk->cs[i]?=some (x.den ρ))
 (K:∀ j off,SV.p j off∈b.cells->s.hp j≠none) (Q:∀ (j:Nat) (z:Int),cs[j]?≠some (.int .u64 z)) :
 Rel c (s.setb (some (k,b))) u m (fun j=>if j=k then w.heap.size else ρ j) a (w.alloc (.cells cs b.t)):=by
 have O:∀ j b',s.hp j=some b'->j≠k:=fun j b' n e=>by rw[e,A]at n;cases n
 have D:∀ j,s.hp j≠none->j≠k:=fun j n e=>n (by rw[e,A]);have C:∀ j,s.hp j≠none->ρ j<w.heap.size:=fun j n=>by
  cases o:s.hp j with
  |none=>exact absurd o n
  |some b'=>obtain⟨⟨q,e,_⟩,_⟩:=h.box j b' o;exact Aw e
 refine⟨by rw[Ul];exact h.sz,fun d y=>?_,h.df.of fun r e _ P F=>⟨by rw[Aq _ _ (Aw e)];exact e,P,F⟩,fun j b' o=>?_,fun i j hi n E=>?_,⟨fun d j off y=>?_,fun i b' j off hi F=>?_⟩,h.gd.alloc Q,h.gr.alloc _⟩
 ·rw[Ft]at y⊢;rw[h.tm d y,Acp (fun off e=>h.lv.1 d k off e A)]
 ·by_cases f:j=k
  ·subst f;rw[Bo]at o;simp only[A1f]at o;subst o;simp only[if_true];refine⟨⟨cs,by rw[Cn],B,fun i x hi I=>?_⟩,h.gr.sz,?_,?_⟩
   ·rw[H i x hi I,Acp (fun off e=>?_)];exact K j off (e▸A1k hi) A
   ·exact h.gd.pu.none (A08 _)
   exact h.gd.pm.none (A08 _)
  rw[Be _ _ _ f]at o;simp only[if_neg f];obtain⟨⟨q,J,L,N⟩,r⟩:=h.box j b' o;refine⟨⟨q,by rw[Aq _ _ (Aw J)];exact J,L,fun i x hi I=>?_⟩,r⟩;rw[N i x hi I,Acp (fun off e=>h.lv.2 j b' k off o (e▸A1k hi) A)]
 ·by_cases l:i=k
  ·by_cases f:j=k
   ·rw[l,f]
   rw[Be _ _ _ f]at n;simp only[l,if_true,if_neg f]at E;have:=C j n;omega
  rw[Be _ _ _ l]at hi;by_cases f:j=k
  ·simp only[f,if_true,if_neg l]at E;have:=C i hi;omega
  rw[Be _ _ _ f]at n;simp only[if_neg l,if_neg f]at E;exact h.inj i j hi n E
 ·rw[Ft]at y;have:=h.lv.1 d j off y;rw[Be _ _ _ (D j this)];exact this
 by_cases f:j=k
 ·rw[f,Bo];simp
 rw[Be _ _ _ f];by_cases l:i=k
 ·subst l;rw[Bo]at hi;simp only[A1f]at hi;subst hi;exact K j off F
 rw[Be _ _ _ l]at hi;exact h.lv.2 i b' j off hi F
def Rel.store (h:Rel c s u m ρ a w){k:Nat}{b b':Blk}(O:s.hp k=some b)(Y:b'.t=b.t){cs:Array Value}(F:cs.size=b'.cells.length)(N:∀ (i:Nat) (x:SV),b'.cells[i]?=some x->x≠.junk->cs[i]?=some (x.den ρ))
 (X:∀ j off,SV.p j off∈b'.cells->s.hp j≠none) (hw:∀ (j:Nat) (z:Int),cs[j]?≠some (.int .u64 z)) :
 Rel c (s.setb (some (k,b'))) u m ρ a (w.setRow (ρ k) cs):=by
 obtain⟨⟨K,Q,_,_⟩,r0,T,U⟩:=h.box k b O;have l:∀ g,g≠ρ k->(w.setRow (ρ k) cs).heap[g]?=w.heap[g]?:=fun g q=>setRow_other w (ρ k) g cs q;have A:(w.setRow (ρ k) cs).heap[ρ k]?=some (.cells cs b.t (0,0)):=setRow_heap w (ρ k) K cs _ _ Q;refine⟨by rw[Ul];exact h.sz,fun d D=>by rw[Ft]at D⊢;exact h.tm d D,h.df.of fun r e _ Z C=>⟨by rw[l _ (fun V=>by rw[V,Q]at e;cases e)];exact e,Z,C⟩,fun j I B=>?_,fun i j hi H W=>?_,⟨fun d j off D=>?_,fun i I j off hi C=>?_⟩,⟨?_,?_,h.gd.ap,?_⟩,⟨?_,?_,h.gr.us,h.gr.ms,h.gr.io,fun f=>⟨(h.gr.dr f).tape,(h.gr.dr f).dr⟩⟩⟩
 ·by_cases n:j=k
  ·subst n;rw[Bo]at B;simp only[A1f]at B;subst B;exact⟨⟨cs,by rw[A,Y],F,N⟩,r0,T,U⟩
  rw[Be _ _ _ n]at B;have P:ρ j≠ρ k:=fun e=>n (h.inj j k (by rw[B];simp) (by rw[O];simp) e);rw[l _ P];exact h.box j I B
 ·have R:∀ i,(s.setb (some (k,b'))).hp i≠none->s.hp i≠none:=fun i hi=>by
   by_cases y:i=k
   ·rw[y,O];simp
   rw[Be _ _ _ y]at hi;exact hi
  exact h.inj i j (R i hi) (R j H) W
 ·rw[Ft]at D;by_cases n:j=k
  ·rw[n,Bo];simp
  rw[Be _ _ _ n];exact h.lv.1 d j off D
 ·by_cases n:j=k
  ·rw[n,Bo];simp
  rw[Be _ _ _ n];by_cases y:i=k
  ·subst y;rw[Bo]at hi;simp only[A1f]at hi;subst hi;exact X j off C
  rw[Be _ _ _ y]at hi;exact h.lv.2 i I j off hi C
 ·intro g o q;rw[l g (fun e=>by rw[e,T]at q;cases q)];exact h.gd.pu g o q
 ·intro g o q;rw[l g (fun e=>by rw[e,U]at q;cases q)];exact h.gd.pm g o q
 ·intro g J t' L j z q H;by_cases E:g=ρ k
  ·rw[E,A]at q;simp only[A1f,Obj.cells.injEq]at q;obtain⟨rfl,_,_⟩:=q;exact absurd H (hw j z)
  rw[l g E]at q;exact h.gd.cl g J t' L j z q H
 ·rw[setRow_size];exact h.gr.sz
 intro g q C;rw[l g oV];exact h.gr.old g q C
end rel
end
section
abbrev zI (x:Int):Value:=.int .i64 x
abbrev zO:Value:=.int .i64 0
abbrev zT:Value:=.bool true
abbrev zL:Value:=.bool false
abbrev zN:Value:=.slice none 0 0
abbrev zA (g:Nat):Option Addr:=some ⟨g,0,none⟩
abbrev zG (g n c:Nat):Value:=.slice (some ⟨g,0,none⟩) n c
def sN:SV:=.v (.slice none 0 0)
def bT:SV:=.v (.bool true)
def bF:SV:=.v (.bool false)
end
section
def iV (x:Int):SV:=.v (.int .i64 x)
def sV (a:Option Addr)(n c:Nat):SV:=.v (.slice a n c)
def bV (b:Bool):SV:=.v (.bool b)
end
section fill
def Abd (off:Nat):∀ (l:zV) (k:Nat) (cells:Array Value),off+k+l.length<=cells.size ->
 (((l.zipIdx k).foldl (fun (cs:Array Value) (p:Value×Nat)=>cs.setIfInBounds (off+p.2) p.1) cells).toList)=cells.toList.take (off+k)++l++cells.toList.drop (off+k+l.length)
 |[],k,cells,h=>mV
 |v::l,k,cells,h=>by
  have e:=Abd off l (k+1) (cells.setIfInBounds (off+k) v) (by simp at h⊢;omega);simp only[List.zipIdx_cons,A6i];rw[e];simp only[Array.toList_setIfInBounds,A3f];have a:off+k<cells.toList.length:=by simp at h⊢;omega
  have b:(cells.toList.set (off+k) v).take (off+(k+1))=cells.toList.take (off+k)++[v]:=by
   rw[show off+(k+1)=off+k+1 by omega,A1n,A96 (A08 _),A44 a];rfl
  have c:(cells.toList.set (off+k) v).drop (off+(k+1)+l.length)=cells.toList.drop (off+k+(l.length+1)):=by
   rw[A67 oV];congr 1;omega
  rw[b,c];simp
def Aau (a:Nat->Option (Nat×Nat))(cells:Array Value)(i off size:Nat)(v:Value)(rest:List (Nat×Value))(hp:a i=some (off,size))(b:v.cells.size=size)(c:off+size<=cells.size) :
 Instr.fill a cells ((i,v)::rest)=Instr.fill a (cells.toList.take off++v.cells.toList++cells.toList.drop (off+size)).toArray rest:=by
 have e:v.cells.zipIdx.foldl (fun (cs:Array Value) (p:Value×Nat)=>cs.setIfInBounds (off+p.2) p.1) cells=(cells.toList.take off++v.cells.toList++cells.toList.drop (off+size)).toArray:=by
  apply A6j;have:=Abd off v.cells.toList 0 cells gV;simp only[A3s,A3o,b]at this;rw[<-this,<-A99,Array.toList_zipIdx]
 rw[Instr.fill.eq_2];simp only[hp];rw[if_neg (by simp[b];omega),<-e]
def Sx (P:Program):List Field->Option (List (Nat×Nat))
 |[]=>some []
 |f::l=>match P.info? f.type with
  |some i=>match Sx P l with|some r=>some ((f.offset,i.size)::r)|none=>none
  |none=>none
def Aeb (pl:List (Nat×Nat)):zV->List (Nat×Value)->Option zV
 |cells,[]=>some cells
 |cells,(i,v)::r=>match pl[i]? with
  |some (off,size)=>cond (Nat.beq v.cells.size size&&Nat.ble (off+size) cells.length) (Aeb pl (cells.take off++v.cells.toList++cells.drop (off+size)) r) none
  |none=>none
def Wb (b:List (Nat×Nat)):∀ (a:List (Nat×Value)) (cells:zV) (r:zV),Aeb b cells a=some r->Instr.fill (fun i=>b[i]?) cells.toArray a=some r.toArray
 |[],cells,r,h=>by simp[Aeb]at h;simp[Instr.fill,h]
 |(i,v)::a,cells,r,h=>by
  unfold Aeb at h;split at h
  ·rename_i off size hp;cases hc:(Nat.beq v.cells.size size&&Nat.ble (off+size) cells.length) with
   |false=>simp[hc]at h
   |true =>
    simp only[hc,cond_true]at h;simp only[A1m]at hc;rw[Aau _ _ i off size v a hp (A1y hc.1) (by simpa using A8a hc.2)];exact Wb b a _ r h
  cases h
def X6 {P:Program}{w:World}:∀ (l:List Field) (r:List (Nat×Nat)),Sx P l=some r->(l.mapM (fun f=>do pure (f.offset,<-sizeOf f.type)):Sem (List (Nat×Nat))).run P w=.ok r w
 |[],r,h=>by simp[Sx]at h;subst h;simp
 |f::l,r,h=>by
  unfold Sx at h;split at h
  ·rename_i i hi;split at h
   ·rename_i r' hr;simp at h;subst h;rw[A9p];have a:=X6 (P:=P) (w:=w) l r' hr;simp only[Sem.run_bind,sizeOf,typeInfo,run_program,Result.andThen_ok,hi,Sem.run_pure]at a⊢;rw[a];rfl
   cases h
  cases h
end fill
section
variable {b:Blk}{g i:Nat}{l:List SV}{o:Oper}{t:TypeId}{x:SV}
variable [Cl] [Co]
def Kp:List SV->Option zV
 |[]=>some []
 |.v x::l=>match Kp l with|some r=>some (x::r)|none=>none
 |_=>none
def Qj (P:Program)(t:TypeId):Option Bool :=
 match P.underlying t with
 |some (.struct _)|some (.array _ _)=>some true
 |some _=>some false
 |none=>none
def szB (P:Program)(t:TypeId):Option Nat:=match P.info? t with|some i=>some i.size|none=>none
def ldv (P:Program)(t:TypeId)(cells:List SV)(off:Nat):Option SV :=
 match Qj P t with
 |some true =>
  match szB P t with
  |some n=>match Kp ((cells.drop off).take n) with
   |some l=>cond (Nat.beq l.length n) (some (.v (.agg l.toArray))) none
   |none=>none
  |none=>none
 |some false=>match cells[off]? with
  |some (.v x)=>some (.v x)
  |some (.p k o)=>some (.p k o)
  |_=>none
 |none=>none
def Ky:SV->Option (List SV)
 |.v x=>cond (x.cells.toList.all Ax) (some (x.cells.toList.map .v)) none
 |.p k off=>some [.p k off]
 |.junk=>none
def Nv (l:List SV)(off:Nat)(r:List SV):List SV:=l.take off++r++l.drop (off+r.length)
def Nw (P:Program)(t:TypeId)(f:Nat):Option Nat :=
 match P.underlying t with
 |some (.struct fs)=>match fs[f]? with
  |some fd=>match szB P fd.type with
   |some (_+1)=>some fd.offset
   |_=>none
  |none=>none
 |_=>none
def C2 (s:S)(x:Operand):Value:=match s.ev x with|.v y=>y|_=>undef
def isV:SV->Bool|.v _=>true|_=>false
def Kl (s:S)(o:Op):Bool:=o.operands.toList.all fun x=>isV (s.ev x)
def pv (P:Program)(env:Operand->Value)(o:Op):Option Value :=
 match o with
 |.extract x i=>match env x with|.tuple vs=>vs[i]?|_=>none
 |.pick c a b=>match env c with|.bool true=>some (env a)|.bool false=>some (env b)|_=>none
 |.makeFunc fn first captured=>some (.func fn (first.map env) (captured.map env))
 |.unOp .not _ x=>match env x with|.bool b=>some (.bool !b)|_=>none
 |.convert src dst x=>match P.underlying src with
  |some .string=>match P.underlying dst with
   |some .string=>match env x with|.string y=>some (.string y)|_=>none
   |_=>none
  |_=>none
 |.call { callee:=.builtin .len,args:=args,argTypes:=ts } =>
  match args[0]?,ts[0]? with
  |some x,some t=>match P.underlying t with
   |some (.slice _)=>match env x with|.slice _ n _=>some (.int .i64 n)|_=>none
   |some .string=>match env x with|.string y=>some (.int .i64 y.size)|_=>none
   |_=>none
  |_,_=>none
 |.nilCheck x=>match env x with|.pointer (some a)=>some (.pointer (some a))|_=>none
 |.build t ps=>match P.info? t with
  |some i=>match i.zero with
   |some z=>match P.underlying t with
    |some (.struct fs)=>match Sx P fs.toList with
     |some pl=>match Aeb pl z.cells.toList (ps.toList.map fun (i,x)=>(i,env x)) with|some l=>some (.agg l.toArray)|none=>none
     |none=>none
    |_=>none
   |none=>none
  |none=>none
 |.field t x f=>match P.underlying t with
  |some (.struct fs)=>match fs[f]? with
   |some fd=>match Qj P fd.type with
    |some false=>match env x with|.agg cs=>cs[fd.offset]?|_=>none
    |some true=>match szB P fd.type with
     |some n=>match env x with|.agg cs=>some (.agg (cs.extract fd.offset (fd.offset+n)))|_=>none
     |none=>none
    |none=>none
   |none=>none
  |_=>none
 |_=>none
def eff (P:Program)(name:Nat)(s:S)(o:Op):Option (SV×Option (Nat×Blk)) :=
 match o with
 |.move x=>some (s.ev x,none)
 |.assign x=>some (s.ev x,none)
 |.alloc t=>match P.info? t with
  |some i=>match i.zero with
   |some z=>match s.hp name with
    |none=>match Ky (.v z) with
     |some l=>some (.p name 0,some (name,⟨t,l⟩))
     |none=>none
    |some _=>none
   |none=>none
  |none=>none
 |.box t x=>match s.hp name with
  |none=>match Ky (s.ev x) with
   |some l=>some (.p name 0,some (name,⟨t,l⟩))
   |none=>none
  |some _=>none
 |.load t x=>match s.ev x with
  |.p k off=>match s.hp k with
   |some b=>match ldv P t b.cells off with|some y=>some (y,none)|none=>none
   |none=>none
  |_=>none
 |.store t x y=>match s.ev x with
  |.p k off=>match s.hp k with
   |some b=>match Ky (s.ev y) with
    |some l=>match szB P t with
     |some n=>cond (Nat.beq l.length n&&Nat.ble (off+n) b.cells.length) (some (.v undef,some (k,⟨b.t,Nv b.cells off l⟩))) none
     |none=>none
    |none=>none
   |none=>none
  |_=>none
 |.fieldAddr t x f=>match s.ev x with
  |.p k off=>match Nw P t f with|some fo=>some (.p k (off+fo),none)|none=>none
  |_=>none
 |o=>match Kl s o with
  |true=>match pv P (C2 s) o with|some y=>some (.v y,none)|none=>none
  |false=>none
section sound
variable {P:Program} {c:Cx} {s:S} {u m:PH} {ρ:Nat->Nat} {a:Act} {w:World}
def Aaw:∀ {l:List SV} {r:zV},Kp l=some r->l=r.map .v
 |[],r,h=>by simp[Kp]at h;simp[h]
 |.v x::l,r,h=>by
  unfold Kp at h;cases hl:Kp l with
  |none=>simp[hl]at h
  |some r'=>simp[hl]at h;subst h;simp[<-Aaw hl]
 |.junk::l,r,h=>by simp[Kp]at h
 |.p k off::l,r,h=>by simp[Kp]at h
theorem Eo {b:Bool}(h:Qj P t=some b)(w:World):(isAgg t).run P w=.ok b w:=by
 unfold Qj at h;unfold isAgg;cases hd:P.underlying t with
 |none=>grind
 |some d=>simp only[Sem.run_bind,run_underlying hd];cases d<;>simp_all
theorem Bf {n:Nat}(h:szB P t=some n)(w:World):(sizeOf t).run P w=.ok n w:=by
 unfold szB at h;unfold sizeOf typeInfo;cases hi:P.info? t with
 |none=>grind
 |some i=>simp_all
def Ed (g off j:Nat):(⟨g,off,none⟩:Addr).add j=⟨g,off+j,none⟩:=by unfold Addr.add;split<;>simp_all
def W1 {o:Option Obj}(h:Apk ρ b o)(j:w.heap[g]?=o)(hi:b.cells[i]?=some x)(k:x≠.junk):w.cell? ⟨g,i,none⟩=some (x.den ρ):=by
 obtain⟨cs,e,_,f⟩:=h;simp[World.cell?,j,e,f i x hi k]
theorem Ali {g off:Nat}{y:SV}(h:Apk ρ b (w.heap[g]?))(f:ldv P t b.cells off=some y) :
 (loadVar t ⟨g,off,none⟩).run P w=.ok (y.den ρ) w/\y≠.junk/\(∀ k o,y=.p k o->SV.p k o∈b.cells):=by
 unfold ldv at f;unfold loadVar;split at f
 ·rename_i ha;split at f
  ·rename_i n hn;split at f
   ·rename_i l hl;cases hlen:Nat.beq l.length n with
    |false=>grind
    |true =>
     simp[hlen]at f;subst f;have z:l.length=n:=A1y hlen;have B:=Aaw hl;have q:∀ j v,l[j]?=some v->w.cell? ((⟨g,off,none⟩:Addr).add j)=some v:=by
      intro j v A;rw[Ed];have r:((b.cells.drop off).take n)[j]?=some (.v v):=by grind
      rw[A3y]at r;split at r
      ·rw[A39]at r;exact W1 h rfl r mV
      cases r
     have:=run_loadCells_list (P:=P) w ⟨g,off,none⟩ l q;refine⟨?_,mV,mV⟩;simp only[Sem.run_bind,Eo ha,Result.andThen_ok,if_true,Bf hn];rw[<-z,this];rfl
   cases f
  cases f
 ·rename_i ha;split at f
  ·rename_i x hx;simp at f;subst f;have:=W1 h rfl hx mV;exact⟨by simp[Eo ha,this],mV,mV⟩
  ·rename_i k o hx;simp at f;subst f;have:=W1 h rfl hx mV;exact⟨by simp[Eo ha,this],mV,fun C o' e=>by simp at e;obtain⟨rfl,rfl⟩:=e;exact A1k hx⟩
  cases f
 grind
theorem Fw (h:Ky x=some l)(ρ:Nat->Nat) :
 l.map (·.den ρ)=(x.den ρ).cells.toList/\(∀ y∈l,y≠.junk)/\(∀ v∈l.map (SV.den ρ),Ax v=true)/\(∀ k o,SV.p k o∈l->x=.p k o)/\x≠.junk:=by
 cases x with
 |junk=>simp[Ky]at h
 |v x =>
  unfold Ky at h;cases hc:x.cells.toList.all Ax with
  |false=>grind
  |true =>
   simp only[hc,cond_true,A1f]at h;subst h;refine⟨by simp[SV.den,Function.comp_def],mV,?_,mV,mV⟩;intro v f;simp[SV.den]at f;rw[A1o]at hc;exact hc v (by simpa using f)
 |p k off =>
  simp[Ky]at h;subst h;refine⟨by simp[SV.den,Value.cells],mV,by simp[SV.den,Ax],?_,mV⟩;intro j o' e;simp at e;rw[e.1,e.2]
theorem An8 {v:zV}(ρ:Nat->Nat)(h:l.map (·.den ρ)=v)(hi:l[i]?=some x):v.toArray[i]?=some (x.den ρ):=by grind
def Avu {l:zV}(h:∀ v∈l,Ax v=true)(j:Nat)(z:Int):l.toArray[j]?≠some (.int .u64 z):=by
 intro e;rw[A3j]at e;exact Kr (h _ (A1k e)) z rfl
def Ya (t:TypeId)(v:Value):(newVar t v).run P w=.ok ⟨w.heap.size,0,none⟩ (w.alloc (.cells v.cells t)):=by
 simp[newVar,newRow]
def Rel.box_new (h:Rel c s u m ρ a w){k:Nat}(C:s.hp k=none)(D:Ky x=some l)(F:∀ j off,x=.p j off->s.hp j≠none)(t:TypeId){d:Option Nat}(B:∀ e,d=some e->e<s.n) :
 ∃ H,Rel c ((s.put d (.p k 0)).setb (some (k,⟨t,l⟩))) u m H (a.put d (.pointer (some ⟨w.heap.size,0,none⟩))) (w.alloc (.cells (x.den ρ).cells t)):=by
 obtain⟨f,I,q,r,_⟩:=Fw D ρ;have A:=h.alloc (k:=k) (b:=⟨t,l⟩) (cs:=(x.den ρ).cells) C (by rw[<-A3o,<-f];simp)
  (fun i y hi _=>by have:=An8 ρ f hi;simpa using this) (fun j off E=>F j off (r j off E))
  (fun j z=>by have:=Avu q j z;rw[f]at this;simpa using this)
 refine⟨fun j=>if j=k then w.heap.size else ρ j,?_⟩;rw[<-Rt];refine A.put (fun _=>by simp[SV.den]) (fun j off e=>?_) (by rw[Ul];exact B);simp only[SV.p.injEq]at e;rw[<-e.1,Bo];simp
theorem Hw (h:Rel c s u m ρ a w)(f:∀ cs b,o.op≠.select cs b)(e:Kl s o.op=true):execOp a.eval o=execOp (C2 s) o:=by
 refine execOp_congr o f fun x j=>?_;unfold Kl at e;rw[A1o]at e;have:=e x (by simpa using j);unfold isV at this;split at this
 ·rename_i y hy;rw[h.eval x (by rw[hy];simp),hy];simp[SV.den,C2,hy]
 grind
def Agc {j:Operand->Value}{y:Value}(h:pv P j o.op=some y)(w:World):(execOp j o).run P w=.ok (.value y) w:=by
 obtain⟨C,D,B,pos,after,r⟩:=o;unfold pv at h;simp only at h;split at h
 ·rename_i x i;split at h
  ·rename_i vs hvs;simp[execOp,Instr.extract,hvs,h]
  cases h
 ·rename_i c x y';split at h
  ·rename_i hc;simp at h;subst h;simp[execOp,hc,asBool]
  ·rename_i hc;simp at h;subst h;simp[execOp,hc,asBool]
  cases h
 ·simp at h;subst h;simp[execOp,Instr.makeFunc]
 ·rename_i t x;split at h
  ·rename_i b hb;simp at h;subst h;simp[execOp,Op.unary,hb]
  cases h
 ·rename_i src dst' x;split at h
  ·rename_i q;split at h
   ·rename_i A;split at h
    ·rename_i z hz;simp at h;subst h;simp[execOp,convert,run_underlying q,run_underlying A,hz]
    cases h
   cases h
  cases h
 ·rename_i args ts;split at h
  ·rename_i x t hx ht;have k:(args.map j)[0]?=some (j x):=by simp[hx]
   split at h
   ·rename_i e hu;split at h
    ·rename_i hz;simp at h;subst h;simp[execOp,resolve,invoke,builtin,Builtin.len_,k,ht,run_underlying hu,hz,goInt]
    cases h
   ·rename_i hu;split at h
    ·rename_i hz;simp at h;subst h;simp[execOp,resolve,invoke,builtin,Builtin.len_,k,ht,run_underlying hu,hz,goInt]
    cases h
   cases h
  cases h
 ·rename_i x;split at h
  ·rename_i z hz;simp at h;subst h;simp[execOp,hz]
  cases h
 ·rename_i t ps;split at h
  ·rename_i i hi;split at h
   ·rename_i z hz;split at h
    ·rename_i fs hu;split at h
     ·rename_i pl hpl;split at h
      ·rename_i l hl;simp at h;subst h;have q:=Wb pl _ _ _ hl;have A:=X6 (w:=w) fs.toList pl hpl;have e:(ps.map fun (p:Nat×Operand)=>(p.1,j p.2)).toList=ps.toList.map fun (p:Nat×Operand)=>(p.1,j p.2):=mV;simp only[execOp,Instr.build,zeroValue,typeInfo,Sem.run_bind,Sem.run_map,run_program,Result.andThen_ok,hi,hz,Sem.run_pure,run_underlying hu];rw[<-A5x (xs:=fs),A81];simp only[Sem.run_map,A,Result.andThen_ok,A3j];simp only[A5x]at q;rw[e,q];rfl
      cases h
     cases h
    cases h
   cases h
  cases h
 ·rename_i t x f;split at h
  ·rename_i fs hu;split at h
   ·rename_i fd hf;split at h
    ·rename_i ha;split at h
     ·rename_i cs hx;simp[execOp,Instr.field,run_underlying hu,hf,asAgg,hx,part,Eo ha,h]
     cases h
    ·rename_i ha;split at h
     ·rename_i n hn;split at h
      ·rename_i cs hx;simp at h;subst h;simp[execOp,Instr.field,run_underlying hu,hf,asAgg,hx,part,Eo ha,Bf hn]
      cases h
     cases h
    cases h
   cases h
  cases h
 cases h
end sound
end
section
variable {l r:List SV}{off:Nat}{x:SV}
variable [Cl] [Co]
section sound
variable {P:Program} {c:Cx} {s:S} {u m:PH} {ρ:Nat->Nat} {a:Act} {w:World}
def Ay2 (P:Program)(a:Act)(o:Oper)(w:World)(y:Value)(w':World):Prop :=
 (execOp a.eval o).run P w=.ok (.value y) w'\/((execOp a.eval o).run P w=.ok .skip w'/\y=undef)
def Ai4 (l r:List SV)(off:Nat)(h:off+r.length<=l.length):(Nv l off r).length=l.length:=by
 unfold Nv;simp;omega
def Yh (h:x∈Nv l off r):x∈l\/x∈r:=by
 unfold Nv at h;rcases A1h.1 h with h|h
 ·rcases A1h.1 h with h|h
  ·exact .inl (A27 h)
  exact .inr h
 exact .inl (A3x h)
def Aim (h:off+r.length<=l.length)(i:Nat):(Nv l off r)[i]?=if i<off then l[i]? else if i<off+r.length then r[i-off]? else l[i]?:=by
 unfold Nv;rw[A2k,A5y];simp only[A1e,A4a (show off<=l.length by omega)];split
 ·rw[A3y,if_pos (by assumption)]
 rw[A5y];by_cases b:i<off+r.length
 ·rw[if_pos oV,if_pos b]
 rw[if_neg oV,if_neg b,A39];congr 1;omega
def Akb {cs:zV}{r:zV}(h:off+r.length<=cs.length)(i:Nat):(cs.take off++r++cs.drop (off+r.length))[i]?=if i<off then cs[i]? else if i<off+r.length then r[i-off]? else cs[i]?:=by
 rw[A2k,A5y];simp only[A1e,A4a (show off<=cs.length by omega)];split
 ·rw[A3y,if_pos (by assumption)]
 rw[A5y];by_cases b:i<off+r.length
 ·rw[if_pos oV,if_pos b]
 rw[if_neg oV,if_neg b,A39];congr 1;omega
def Aav (h:Rel c s u m ρ a w){U:Nat}{o:Oper}{hw:Option (Nat×Blk)}(q:eff P U s o.op=some (x,hw))(I:∀ e,o.dst=some e->e<s.n) :
 ∃ E w' y,Ay2 P a o w y w'/\Rel c ((s.put o.dst x).setb hw) u m E (a.put o.dst y) w':=by
 obtain⟨F,op,L,pos,after,C⟩:=o;simp only at q I⊢;have mv:∀ z:Operand,∃ E w' y,(Result.ok (Next.value (a.eval z)) w=Result.ok (Next.value y) w')/\Rel c (s.put F (s.ev z)) u m E (a.put F y) w':=by
  intro z;refine⟨ρ,w,a.eval z,rfl,h.put (fun A=>h.eval z A) (fun k off A=>?_) I⟩;cases z with
  |tmp t=>exact h.lv.1 t k off A
  |const v=>cases A
  |global g=>cases A
  |func f=>cases A
 have D:∀ (z:Operand) (k off:Nat),s.ev z=.p k off->s.hp k≠none:=by
  intro z k off A;cases z with
  |tmp t=>exact h.lv.1 t k off A
  |const v=>cases A
  |global g=>cases A
  |func f=>cases A
 unfold eff at q;split at q
 ·rename_i z;simp only[A1f,A2i]at q;obtain⟨rfl,rfl⟩:=q;obtain⟨E,w',y,e,r⟩:=mv z;exact⟨E,w',y,.inl (by simpa[execOp] using e),r⟩
 ·rename_i z;simp only[A1f,A2i]at q;obtain⟨rfl,rfl⟩:=q;obtain⟨E,w',y,e,r⟩:=mv z;exact⟨E,w',y,.inl (by simpa[execOp] using e),r⟩
 ·rename_i t;split at q
  ·rename_i i hi;split at q
   ·rename_i z A;split at q
    ·rename_i hn;split at q
     ·rename_i l hl;simp only[A1f,A2i]at q;obtain⟨rfl,rfl⟩:=q;obtain⟨E,r⟩:=h.box_new hn hl mV t I;refine⟨E,_,_,.inl ?_,r⟩;simp[execOp,Instr.alloc,zeroValue,typeInfo,hi,A,Ya,SV.den]
     cases q
    cases q
   cases q
  cases q
 ·rename_i t z;split at q
  ·rename_i hn;split at q
   ·rename_i l hl;simp only[A1f,A2i]at q;obtain⟨rfl,rfl⟩:=q;obtain⟨E,r⟩:=h.box_new hn hl (fun j off A=>D z j off A) t I;refine⟨E,_,_,.inl ?_,r⟩;have A:=h.eval z (Fw hl ρ).2.2.2.2;simp[execOp,Instr.box,Ya,A]
   cases q
  cases q
 ·rename_i t z;split at q
  ·rename_i k off A;split at q
   ·rename_i b hb;split at q
    ·rename_i y hy;simp only[A1f,A2i]at q;obtain⟨rfl,rfl⟩:=q;obtain⟨h1,h2,h3⟩:=Ali (P:=P) (w:=w) (h.box k b hb).1 hy;have B:=h.eval z (by rw[A];simp);rw[A]at B;refine⟨ρ,w,y.den ρ,.inl ?_,h.put (fun _=>rfl) (fun Y o' e=>h.lv.2 k b Y o' hb (h3 Y o' e)) I⟩;simp[execOp,Instr.loadAt,Instr.sureAddr,B,SV.den,h1]
    cases q
   cases q
  cases q
 ·rename_i t z y;split at q
  ·rename_i k off A;split at q
   ·rename_i b hb;split at q
    ·rename_i l hl;split at q
     ·rename_i n hn;cases hc:(Nat.beq l.length n&&Nat.ble (off+n) b.cells.length) with
      |false=>simp[hc]at q
      |true =>
       simp only[hc,cond_true,A1f,A2i]at q;obtain⟨rfl,rfl⟩:=q;simp only[A1m]at hc;have N:l.length=n:=A1y hc.1;have a0:off+n<=b.cells.length:=A8a hc.2;obtain⟨V,e2,e3,e4,e5⟩:=Fw hl ρ;have B:=h.eval z (by rw[A];simp);rw[A]at B;have X:=h.eval y e5;obtain⟨⟨cs,c1,c2,c3⟩,r0,r1,r2⟩:=h.box k b hb;have H:((s.ev y).den ρ).cells.toList.length=n:=by rw[<-V];simpa using N
       have R:=run_storeCells_at P (ρ k) off b.t ((s.ev y).den ρ).cells.toList 0 cs w c1 oV (fun v hv=>Gl (e3 v (by rw[V];exact hv)));have J:off+((s.ev y).den ρ).cells.toList.length<=cs.toList.length:=by simp at H⊢;omega
       refine⟨ρ,w.setRow (ρ k) (cs.toList.take off++((s.ev y).den ρ).cells.toList++cs.toList.drop (off+((s.ev y).den ρ).cells.toList.length)).toArray,undef,.inr ⟨?_,rfl⟩,?_⟩
       ·have W:((s.ev y).den ρ).cells.size=n:=by simpa using H
        have T:a.eval z=.pointer (some ⟨ρ k,off,none⟩):=B;simp only[execOp,Instr.storeAt,Instr.sureAddr,T,X,storeVar,Sem.run_bind,Sem.run_pure,Result.andThen_ok,Bf hn,W,ne_eq,not_true_eq_false,if_false];simp only[A3s]at R;simp[R]
       rw[<-Rt];refine Rel.put (x:=.v undef) ?_ (fun _=>rfl) mV (by rw[Ul];exact I);refine h.store (b':=⟨b.t,Nv b.cells off l⟩) hb rfl ?_ (fun i x hi hx=>?_) (fun j o O=>?_) (fun j Z=>?_)
       ·simp only[A7s];rw[Ai4 _ _ _ oV];simp at H⊢;omega
       ·rw[A3j,Akb J];rw[Aim oV]at hi;rw[H];rw[N]at hi;split
        ·rename_i hlt;rw[if_pos hlt]at hi;have:=c3 i x hi hx;simpa using this
        rename_i hlt;rw[if_neg hlt]at hi;split
        ·rename_i hlt2;rw[if_pos hlt2]at hi;rw[<-V];simp[hi]
        rename_i hlt2;rw[if_neg hlt2]at hi;have:=c3 i x hi hx;simpa using this
       ·rcases Yh O with O|O
        ·exact h.lv.2 k b j o hb O
        exact D y j o (e4 j o O)
       intro e;rw[A3j,Akb J]at e;have Q:∀ (i:Nat),cs.toList[i]?≠some (Value.int .u64 Z):=fun i hi=>by
        have:=h.gd.cl (ρ k) cs b.t (0,0) i Z c1 (by simpa using hi);rw[r1]at this;cases this
       split at e
       ·exact Q _ e
       split at e
       ·exact Kr (e3 _ (by rw[V];exact A1k e)) Z rfl
       exact Q _ e
     cases q
    cases q
   cases q
  cases q
 ·rename_i t z f;split at q
  ·rename_i k off A;split at q
   ·rename_i fo hf;simp only[A1f,A2i]at q;obtain⟨rfl,rfl⟩:=q;have B:=h.eval z (by rw[A];simp);rw[A]at B;refine⟨ρ,w,_,.inl ?_,h.put (y:=.pointer (some ⟨ρ k,off+fo,none⟩)) (fun _=>rfl) (fun Y o' e=>?_) I⟩
    ·unfold Nw at hf;split at hf
     ·rename_i fs hfs;split at hf
      ·rename_i fd hfd;split at hf
       ·rename_i n hn;simp only[A1f]at hf;subst hf;simp[execOp,Instr.fieldAt,run_underlying hfs,hfd,Instr.sureAddr,B,SV.den,fieldPlace,Bf hn,Ed]
       cases hf
      cases hf
     cases hf
    simp only[SV.p.injEq]at e;rw[<-e.1];exact D z k off A
   cases q
  cases q
 rename_i hn1 hn2 hn3 hn4 hn5 hn6 hn7;split at q
 ·rename_i hall;split at q
  ·rename_i y hy;simp only[A1f,A2i]at q;obtain⟨rfl,rfl⟩:=q;refine⟨ρ,w,y,.inl ?_,h.put (fun _=>rfl) mV I⟩;rw[Hw (o:=⟨F,op,L,pos,after,C⟩) h (fun cs b K=>?_) hall]
   ·exact Agc (o:=⟨F,op,L,pos,after,C⟩) hy w
   simp only at K;subst K;simp[pv]at hy
  cases q
 cases q
end sound
end
section
variable {a:Act}{d:Option Nat}{hw:Option (Nat×Blk)}{i name y:Nat}{m u:PH}{o:Oper}{s s':S}{w:World}{x:SV}{z:Operand}{ρ:Nat->Nat}
variable [Cl] [Co] [Pu]
def gv (s:S)(ops:Array Oper)(o:Oper):Option Bool :=
 match o.guard with
 |none=>some true
 |some (j,want)=>match ops[j]? with
  |some oj=>match oj.dst with
   |some d=>match s.tm d with
    |.v (.bool b)=>some (b==want)
    |.v (.tuple _)=>some false
    |_=>none
   |none=>none
  |none=>none
def Fb (s:S)(o:Oper):Bool:=match o.dst with|none=>true|some d=>Nat.blt d s.n
def Auk (d:TypeId):Bool:=Nat.beq d 3
def Fa:Op->Bool
 |.convert _ d _=>Auk d
 |.move _|.assign _|.pick ..|.alloc _|.box ..|.build ..|.load ..|.nilCheck _|.binOp ..|.unOp ..|.fieldAddr ..|.field ..|.indexAddr ..|.index ..|.slice ..|.extract ..|.makeFunc ..|.makeInterface ..=>true
 |.lookup ..=>true
 |.call { callee:=.builtin .len,.. }|.call { callee:=.builtin .cap,.. }|.call { callee:=.builtin .max,.. }|.call { callee:=.builtin .min,.. }=>true
 |_=>false
def Hr:Op->Bool
 |.convert _ d _=>!Auk d
 |.load ..|.lookup ..=>true
 |_=>false
def Nk:Op->Bool
 |.store ..=>true
 |.call { callee:=.builtin .append,.. }|.call { callee:=.builtin .copy,.. }=>true
 |_=>false
def bef (ops:Array Oper):Nat->Nat->Nat->Bool
 |0,_,_=>false
 |f+1,i,x=>match ops[i]? with
  |some o=>o.after.toList.any fun e=>Region.binds .any e&&(Nat.beq e.on x||bef ops f e.on x)
  |none=>false
def A0e:Op->Bool
 |.call { callee:=.value _,.. }=>true
 |.mapUpdate ..|.insert ..=>true
 |_=>false
def Azx (ops:Array Oper)(y:Nat):Bool:=(List.range ops.size).all fun x=>Nat.beq x y||bef ops ops.size y x
def L6 (ops:Array Oper)(y:Nat)(o:Op):Bool:=Nk o||(A0e o&&Azx ops y)
def Aol {ops:Array Oper}{o:Op}(h:Nk o=true):L6 ops y o=true:=by unfold L6;rw[h];rfl
theorem Ar5 {ops:Array Oper}{o:Op}(h:L6 ops y o=false):Nk o=false:=by
 unfold L6 at h;cases hm:Nk o with
 |true=>grind
 |false=>rfl
def Qz (ops:Array Oper)(t:Nat):Bool:=ops.toList.all fun o=>match o.dst with|some d=>!Nat.beq d t|none=>true
def isP:SV->Bool
 |.p _ _=>true
 |_=>false
def faB (ops:Array Oper)(s:S)(o:Oper):Bool:=o.guard.isNone&&match o.op with
 |.fieldAddr _ (.tmp b) _=>Qz ops b&&isP (s.tm b)
 |_=>false
def wrB (t:Nat)(o:Oper):Bool:=match o.dst with|some d=>Nat.beq d t|none=>false
def Zh (ops:Array Oper)(s:S)(t:Nat):Bool:=ops.toList.any (wrB t)&&ops.toList.all fun o=>!wrB t o||faB ops s o
def Ad5 (ops:Array Oper)(s:S)(o:Oper):Bool:=match o.op with
 |.load _ (.tmp t)=>(Qz ops t&&isP (s.tm t))||Zh ops s t
 |_=>false
def La (ops:Array Oper)(s:S):Bool:=ops.toList.all fun o=>!Hr o.op||Ad5 ops s o
def Fr:Op->Bool
 |.alloc _|.box ..=>true
 |_=>false
def Ix:Op->Bool
 |.select ..=>false
 |_=>true
def Gv {o:Op}(h:Ix o=true)(cs:Array SelectCase)(b:Bool):o≠.select cs b:=by rintro rfl;simp[Ix]at h
def Eg (P:Program)(env:Operand->Value)(o:Oper)(w:World)(K:Value->World->Prop):Prop :=
 match (execOp env o).run P w with
 |.ok (.value v) w'=>K v w'
 |.ok .skip w'=>K undef w'
 |.ok (.enter f args) w'=>Calls P f args w' fun e w''=>∃ v,e=.returned v/\K v w''
 |_=>False
inductive Ob (P:Program)(id:Nat)(ops:Array Oper)(dr:Bool)(Fin:S->PH->PH->Prop):zK->S->PH->PH->Prop
 |nil {s:S} {u m:PH}:Fin s u m->Ob P id ops dr Fin [] s u m
 |auto {i:Nat} {l:zK} {s:S} {u m:PH} {o:Oper} {x:SV} {hw:Option (Nat×Blk)}:ops[i]?=some o->gv s ops o=some true->Fb s o=true->eff P (id*1000+i) s o.op=some (x,hw) ->
  Ob P id ops dr Fin l ((s.put o.dst x).setb hw) u m->Ob P id ops dr Fin (i::l) s u m
 |skip {i:Nat} {l:zK} {s:S} {u m:PH} {o:Oper}:ops[i]?=some o->gv s ops o=some false->Fb s o=true ->
  Ob P id ops dr Fin l (s.put o.dst (.v undef)) u m->Ob P id ops dr Fin (i::l) s u m
 |ask {i:Nat} {l:zK} {s:S} {u m:PH} {o:Oper} {v:Value}:ops[i]?=some o->gv s ops o=some true->Fb s o=true->Kl s o.op=true->Ix o.op=true->Fr o.op=false ->
  (∀ w,(Hr o.op=true\/dr=false->Fj u w/\(Pu.b=false\/dr=false->Fj m w))->(execOp (C2 s) o).run P w=.ok (.value v) w) ->
  Ob P id ops dr Fin l (s.put o.dst (.v v)) u m->Ob P id ops dr Fin (i::l) s u m
 |big {i:Nat} {l:zK} {s:S} {u m:PH} {o:Oper} {K:Value->PH->PH->Prop}:ops[i]?=some o->gv s ops o=some true->Fb s o=true->Kl s o.op=true->Ix o.op=true->Fa o.op=false ->
  (∀ v u' m',K v u' m'->PH.le m m'\/dr=false\/L6 ops i o.op=true\/La ops s=true\/Pu.b=true) ->
  (∀ w,Bv u m w->Eg P (C2 s) o w fun v w'=>∃ u' m',Bv u' m' w'/\B0 u m w u' m' w'/\K v u' m') ->
  (∀ v u' m',PH.le u u'->K v u' m'->Ob P id ops dr Fin l (s.put o.dst (.v v)) u' m')->Ob P id ops dr Fin (i::l) s u m
section sound
variable {P:Program} {id:Nat} {ops:Array Oper} {dr:Bool} {Fin:S->PH->PH->Prop} {c:Cx} {Q:Exit->Act->World->Prop}
theorem Ey (h:Rel c s u m ρ a w){b:Bool}(f:gv s ops o=some b):Region.wanted o (yielded ops a.tmps)=b:=by
 unfold gv at f;unfold Region.wanted;split at f
 ·grind
 rename_i j want e;rw[e];split at f
 ·rename_i oj hj;split at f
  ·rename_i d hd;split at f
   ·rename_i b' hb;have:=h.tm d (by rw[hb];simp);rw[hb]at this;simp[yielded,hj,hd,this]at f⊢;exact f
   ·rename_i vs hb;have:=h.tm d (by rw[hb];simp);rw[hb]at this;simp only[A1f]at f;subst f;simp[yielded,hj,hd,this,SV.den]
   cases f
  cases f
 grind
def Lg (h:Fb s o=true):∀ e,o.dst=some e->e<s.n:=by
 intro e b;unfold Fb at h;rw[b]at h;exact A8f▸h
def Aar {w w':World}{y:Value}{K:Act->World->Prop}(h:Ay2 P a o w y w')(b:K (a.put o.dst y) w'):o.wp P a w K Q:=by
 unfold Oper.wp;rcases h with h|⟨h,rfl⟩<;>rw[h]<;>exact b
theorem Zy {ops:Array Oper}(h:∀ t,Qz ops t=true->s'.tm t=s.tm t)(o:Oper):faB ops s' o=faB ops s o:=by
 unfold faB;split
 ·grind
 rfl
def Mp {ops:Array Oper}(h:∀ t,Qz ops t=true->s'.tm t=s.tm t)(t:Nat):Zh ops s' t=Zh ops s t:=by
 unfold Zh;simp only[Zy h]
def Ah8 {ops:Array Oper}(h:∀ t,Qz ops t=true->s'.tm t=s.tm t)(o:Oper):Ad5 ops s' o=Ad5 ops s o:=by
 unfold Ad5;split
 ·rename_i t' t hop;rw[Mp h];cases hn:Qz ops t with
  |false=>rfl
  |true=>rw[h t hn]
 rfl
def Ab9 {ops:Array Oper}(h:∀ t,Qz ops t=true->s'.tm t=s.tm t):La ops s'=La ops s:=by
 unfold La;simp only[Ah8 h]
def ixB (o:Oper):Bool:=match o.op with
 |.indexAddr ..=>true
 |_=>false
def alB (ops:Array Oper)(t:Nat):Bool:=ops.toList.all fun o=>!wrB t o||(Fr o.op&&o.guard.isNone)
def Anv (ops:Array Oper)(s:S)(t:Nat):Bool:=ops.toList.all fun o=>!wrB t o||ixB o||faB ops s o
def Ahg {ops:Array Oper}(h:∀ t,Qz ops t=true->s'.tm t=s.tm t)(t:Nat):Anv ops s' t=Anv ops s t:=by
 unfold Anv;simp only[Zy h]
structure Gb (ops:Array Oper)(s s':S):Prop where
 eq:∀ t,Qz ops t=true->s'.tm t=s.tm t
 pt:∀ t,Zh ops s t=true->isV (s.tm t)=false->isV (s'.tm t)=false
 nw:∀ t,alB ops t=true->isV (s.tm t)=false->isV (s'.tm t)=false
 ol:∀ t k off,Anv ops s t=true->s'.tm t=.p k off->s.tm t=.p k off\/∃ b off',Qz ops b=true/\s.tm b=.p k off'
 fr:∀ t k off,alB ops t=true->s'.tm t=.p k off->s.tm t=.p k off\/s.hp k=none
 hm:∀ k,s.hp k≠none->s'.hp k≠none
def Gb.refl (ops:Array Oper)(s:S):Gb ops s s:=⟨fun _ _=>rfl,fun _ _ h=>h,fun _ _ h=>h,fun _ _ _ _ h=>.inl h,fun _ _ _ _ h=>.inl h,fun _ h=>h⟩
def Gb.trans {ops:Array Oper}{s s' j:S}(h:Gb ops s s')(g:Gb ops s' j):Gb ops s j :=
 ⟨fun t f=>(g.eq t f).trans (h.eq t f),fun t f l=>g.pt t (by rw[Mp h.eq];exact f) (h.pt t f l),fun t f l=>g.nw t f (h.nw t f l),
  fun t k off f hp=>by
   rcases g.ol t k off (by rw[Ahg h.eq];exact f) hp with e|⟨b,o2,e1,e2⟩
   ·exact h.ol t k off f e
   exact .inr ⟨b,o2,e1,by rw[<-h.eq b e1];exact e2⟩,
  fun t k off f hp=>by
   rcases g.fr t k off f hp with e|e
   ·exact h.fr t k off f e
   refine .inr (A3m fun p=>h.hm k p e),fun k n=>g.hm k (h.hm k n)⟩
structure Fit (ops:Array Oper)(s:S)(o:Oper)(x:SV):Prop where
 fa:faB ops s o=true->isV x=false
 al:Fr o.op=true->o.guard.isNone=true->isV x=false
 ol:ixB o=true\/faB ops s o=true->∀ k off,x=.p k off->∃ b off',Qz ops b=true/\s.tm b=.p k off'
 fr:Fr o.op=true->∀ k off,x=.p k off->s.hp k=none
theorem Acj {ops:Array Oper}(b:ops[i]?=some o):o∈ops.toList:=by grind
def Gx (B:ops[i]?=some o)(x:SV)(hw:Option (Nat×Blk))(h:Fit ops s o x):Gb ops s ((s.put o.dst x).setb hw):=by
 have l:∀ {t:Nat} {q:Oper->Bool},(ops.toList.all fun o=>!wrB t o||q o)=true->o.dst=some t->q o=true:=fun {t q} g f=>by
  rw[A1o]at g;have:=g o (Acj B);have r:wrB t o=true:=by unfold wrB;rw[f];simp
  rw[r]at this;simpa using this
 refine⟨fun t g=>?_,fun t g p=>?_,fun t g p=>?_,fun t k off g hp=>?_,fun t k off g hp=>?_,fun k A=>?_⟩
 ·rw[Ft,Gi];intro f;unfold Qz at g;rw[A1o]at g;have:=g o (Acj B);rw[f]at this;simp at this
 ·rw[Ft];by_cases f:o.dst=some t
  ·rw[f,Az];unfold Zh at g;rw[A1m]at g;exact h.fa (l g.2 f)
  rw[Gi s _ _ f];exact p
 ·rw[Ft];by_cases f:o.dst=some t
  ·rw[f,Az];have:=l g f;rw[A1m]at this;exact h.al this.1 this.2
  rw[Gi s _ _ f];exact p
 ·rw[Ft]at hp;by_cases f:o.dst=some t
  ·rw[f,Az]at hp;have n:(ops.toList.all fun o=>!wrB t o||(ixB o||faB ops s o))=true:=by unfold Anv at g;simpa only[Bool.or_assoc] using g
   have:=l n f;rw[A4b]at this;exact .inr (h.ol this k off hp)
  rw[Gi s _ _ f]at hp;exact .inl hp
 ·rw[Ft]at hp;by_cases f:o.dst=some t
  ·rw[f,Az]at hp;have:=l g f;rw[A1m]at this;exact .inr (h.fr this.1 k off hp)
  rw[Gi s _ _ f]at hp;exact .inl hp
 rcases hw with _|⟨j,b⟩
 ·show (s.put o.dst x).hp k≠none;rw[Du];exact A
 by_cases e:k=j
 ·subst e;rw[Bo];simp
 rw[Be _ _ _ e,Du];exact A
theorem Acz (h:faB ops s o=true):o.guard=none/\∃ T b f,o.op=.fieldAddr T (.tmp b) f/\isP (s.tm b)=true:=by
 unfold faB at h;rw[A1m]at h;obtain⟨g,e⟩:=h;refine⟨by simpa using g,?_⟩;split at e
 ·grind
 cases e
theorem Aui (e:eff P name s o.op=some (x,hw))(h:faB ops s o=true):isV x=false:=by
 obtain⟨_,T,b,f,g,hp⟩:=Acz h;rw[g]at e;unfold eff at e;simp only[show s.ev (.tmp b)=s.tm b from rfl]at e;cases hb:s.tm b with
 |junk=>grind
 |v y=>grind
 |p k off =>
  rw[hb]at e;simp only at e;split at e
  ·simp only[A1f,A2i]at e;rw[<-e.1];rfl
  cases e
def Atk (b:gv s ops o=some false)(h:faB ops s o=true):False:=by
 obtain⟨e,_⟩:=Acz h;unfold gv at b;rw[e]at b;simp at b
def Avt (g:Kl s o.op=true)(h:faB ops s o=true):False:=by
 obtain⟨_,T,b,f,e,hp⟩:=Acz h;unfold Kl at g;rw[A1o]at g;have:=g (.tmp b) (by rw[e];simp[Op.operands]);rw[show s.ev (.tmp b)=s.tm b from rfl]at this;cases hb:s.tm b with
 |junk=>rw[hb]at hp;cases hp
 |v y=>rw[hb]at hp;cases hp
 |p k off=>rw[hb]at this;cases this
theorem Asf {o:Op}(b:eff P name s o=some (x,hw))(e:Fr o=true):x=.p name 0/\s.hp name=none:=by
 unfold Fr at e;split at e
 ·unfold eff at b;simp only at b;split at b
  ·grind
  cases b
 ·unfold eff at b;simp only at b;split at b
  ·grind
  cases b
 cases e
theorem Fit.auto (e:eff P name s o.op=some (x,hw)):Fit ops s o x:=by
 refine⟨Aui e,fun g _=>by rw[(Asf e g).1];rfl,fun h k off j=>?_,fun g k off j=>?_⟩
 ·rcases h with h|h
  ·unfold ixB at h;split at h
   ·rename_i t a b hop;rw[hop]at e;unfold eff at e;simp only at e;split at e
    ·grind
    cases e
   cases h
  unfold faB at h;rw[A1m]at h;obtain⟨_,h⟩:=h;split at h
  ·rename_i T b f hop;rw[hop]at e;unfold eff at e;simp only[show s.ev (.tmp b)=s.tm b from rfl]at e;cases hb:s.tm b with
   |junk=>grind
   |v y=>grind
   |p k' off'=>grind
  cases h
 obtain⟨l,n⟩:=Asf e g;rw[l]at j;cases j;exact n
def Fit.skip (b:gv s ops o=some false):Fit ops s o (.v undef) :=
 ⟨fun h=>(Atk b h).elim,fun _ h=>by
  unfold gv at b;rw[show o.guard=none by simpa using h]at b;simp at b,fun _ k off e=>(by cases e),fun _ k off e=>(by cases e)⟩
def Fit.val (f:Kl s o.op=true)(b:Fr o.op=false)(y:Value):Fit ops s o (.v y) :=
 ⟨fun h=>(Avt f h).elim,fun h=>(by rw[b]at h;cases h),fun _ k off e=>(by cases e),fun _ k off e=>(by cases e)⟩
def Aki {o:Op}(h:Fa o=false):Fr o=false:=by
 cases o<;>first|rfl|(simp[Fa]at h)
theorem Ob.step {l:zK}(h:Ob P id ops dr Fin (i::l) s u m)(g:Rel c s u m ρ a w) :
 wpOp P ops Q i (fun F w'=>∃ s' n j A,Rel c s' n j A F w'/\Gb ops s s'/\Ob P id ops dr Fin l s' n j) a w:=by
 cases h with
 |auto ho hg hd t hl =>
  simp only[wpOp,ho,Ey g hg];obtain⟨A,w',y,p,B⟩:=Aav (P:=P) g t (Lg hd);exact .inl (Aar p ⟨_,_,_,_,B,Gx ho _ _ (Fit.auto t),hl⟩)
 |skip ho hg hd hl =>
  simp only[wpOp,ho,Ey g hg];exact⟨_,_,_,_,g.put (x:=.v undef) (fun _=>rfl) mV (Lg hd),Gx ho _ none (Fit.skip hg),hl⟩
 |ask ho hg hd hv hs hal hw hl =>
  simp only[wpOp,ho,Ey g hg];refine .inl (Aar (.inl ?_) ⟨_,_,_,_,g.put (fun _=>rfl) mV (Lg hd),Gx ho _ none (Fit.val hv hal _),hl⟩);rw[Hw g (Gv hs) hv];exact hw w (fun _=>⟨g.gd.pu,fun _=>g.gd.pm⟩)
 |big ho hg hd hv hs hf hk hw hl =>
  rename_i o K;simp only[wpOp,ho,Ey g hg];refine .inl ?_;have p:=hw w g.gd;have fin:∀ v w',(∃ n j,Bv n j w'/\B0 u m w n j w'/\K v n j)->∃ s' n j A,Rel c s' n j A (a.put o.dst v) w'/\Gb ops s s'/\Ob P id ops dr Fin l s' n j:=by
   rintro v w' ⟨n,j,g1,g2,J⟩;refine⟨_,n,j,ρ,?_,Gx ho _ none (Fit.val hv (Aki hf) _),hl v n j (g2.le g.gd.pu) J⟩;refine Rel.put (x:=.v v) ?_ (fun _=>rfl) mV (Lg hd);refine⟨g.sz,g.tm,g.df.of fun r e _ N E=>⟨by rw[g2.old _ (Aw e) E];exact e,by rw[g2.us _ (Aw e)];exact N,g2.ms _ (Aw e) E⟩,fun k b L=>?_,g.inj,g.lv,g1,g.gr.trans g2⟩;obtain⟨C,H,I,D⟩:=g.box k b L;have q:ρ k<w.heap.size:=by obtain⟨cs,e,_⟩:=C;exact Aw e
   refine⟨?_,H,?_,?_⟩
   ·rw[g2.old _ q D];exact C
   ·rw[g2.us _ q];exact I
   exact g2.ms _ q D
  unfold Eg at p;unfold Oper.wp;rw[Hw g (Gv hs) hv];split at p
  ·rename_i v w' e;rw[e];exact fin _ _ p
  ·rename_i w' e;rw[e];exact fin _ _ p
  ·rename_i f args w' e;rw[e];refine Calls.mono p fun R O t=>?_;obtain⟨v,rfl,B⟩:=t;exact fin _ _ B
  grind
def Ob.wpOps (b:∀ s u m ρ a w,Fin s u m->Rel c s u m ρ a w->Q .normal a w):∀ {l:zK} {s:S} {u m:PH} {ρ:Nat->Nat} {a:Act} {w:World},Ob P id ops dr Fin l s u m->Rel c s u m ρ a w->Go.wpOps P ops Q l a w
 |[],s,u,m,ρ,a,w,h,hr=>by
  cases h with
  |nil h=>exact b _ _ _ _ _ _ h hr
 |i::l,s,u,m,ρ,a,w,h,hr=>by
  rw[wpOps_cons];refine wpOp_mono (fun g w' ⟨s',k,j,n,e,_,f⟩=>?_) (h.step (Q:=Q) hr);exact Ob.wpOps b f e
def Ayi (h:∀ e,d=some e->z≠.tmp e):(s.put d x).ev z=s.ev z:=by
 cases z with
 |tmp t=>exact Gi s d x (fun e=>h t e rfl)
 |_=>rfl
def Awj {w:Option (Nat×Blk)}:(s.setb w).ev z=s.ev z:=by
 cases z with
 |tmp t=>show (s.setb w).tm t=s.tm t;rw[Ft]
 |_=>rfl
def Xb {w:Option (Nat×Blk)}(h:∀ e,d=some e->e∉o.looksAt ops)(g:z∈o.op.operands):((s.put d x).setb w).ev z=s.ev z:=by
 rw[Awj];refine Ayi fun e f b=>h e f ?_;subst b;exact A24 _ (Baa.2 ⟨.tmp e,by simpa using g,rfl⟩)
def Yj {w:Option (Nat×Blk)}(h:∀ e,d=some e->e∉o.looksAt ops):gv ((s.put d x).setb w) ops o=gv s ops o:=by
 unfold gv;cases hg:o.guard with
 |none=>rfl
 |some p =>
  obtain⟨j,b⟩:=p;simp only;cases hj:ops[j]? with
  |none=>rfl
  |some oj =>
   simp only;cases hd:oj.dst with
   |none=>rfl
   |some e =>
    simp only;rw[Ft,Gi s d x (fun f=>h e f (by simp[Oper.looksAt,hg,hj,hd]))]
def K0 {o:Op}(h:∀ z∈o.operands,s'.ev z=s.ev z):∀ z∈o.operands,C2 s' z=C2 s z:=fun z b=>by unfold C2;rw[h z b]
theorem Hy {o:Op}(h:∀ z∈o.operands,s'.ev z=s.ev z):Kl s' o=Kl s o:=by
 unfold Kl;rw[A9j,A1o,A1o];constructor
 ·grind
 grind
theorem Aqo {e g:Operand->Value}{o:Op}(h:∀ z∈o.operands,g z=e z):pv P g o=pv P e o:=by
 unfold pv;split
 ·rename_i x i;rw[h x (by simp[Op.operands])]
 ·rename_i c x y;rw[h c (by simp[Op.operands]),h x (by simp[Op.operands]),h y (by simp[Op.operands])]
 ·rename_i fn first captured
  rw[A9y (xs:=first) fun x b=>h x (by simp[Op.operands,b]),A9y (xs:=captured) fun x b=>h x (by simp[Op.operands,b])]
 ·rename_i t x;rw[h x (by simp[Op.operands])]
 ·rename_i src dst x;rw[h x (by simp[Op.operands])]
 ·rename_i args ts;cases b:args[0]? with
  |none=>rfl
  |some x =>
   have:x∈args:=by grind
   cases ht:ts[0]? with
   |none=>rfl
   |some t=>simp only;rw[h x (by simp[Op.operands,Call.operands,this])]
 ·rename_i x;rw[h x (by simp[Op.operands])]
 ·rename_i t ps;have:(ps.toList.map fun (p:Nat×Operand)=>(p.1,g p.2))=ps.toList.map fun (p:Nat×Operand)=>(p.1,e p.2):=A41 fun p hp=>by
   rw[h p.2 (by simp only[Op.operands,A88,A1b];exact⟨p,hp,rfl⟩)]
  rw[this]
 ·rename_i t x f;rw[h x (by simp[Op.operands])]
 rfl
def Abb {s s':S}{name:Nat}{o:Op}(h:∀ z∈o.operands,s'.ev z=s.ev z)(b:Fr o=true->s'.hp name=s.hp name)
 (hp:(Hr o=true\/Nk o=true)->∀ z∈o.operands,∀ k off,s.ev z=.p k off->s'.hp k=s.hp k):eff P name s' o=eff P name s o:=by
 unfold eff;split
 ·rename_i x;rw[h x (by simp[Op.operands])]
 ·rename_i x;rw[h x (by simp[Op.operands])]
 ·rw[b rfl]
 ·rename_i t x;rw[b rfl,h x (by simp[Op.operands])]
 ·rename_i t x;rw[h x (by simp[Op.operands])];split
  ·rename_i k off hk;rw[hp (.inl rfl) x (by simp[Op.operands]) k off hk]
  rfl
 ·rename_i t x y;rw[h x (by simp[Op.operands]),h y (by simp[Op.operands])];split
  ·rename_i k off hk;rw[hp (.inr rfl) x (by simp[Op.operands]) k off hk]
  rfl
 ·rename_i t x f;rw[h x (by simp[Op.operands])]
 rw[Hy h,Aqo (K0 h)]
end sound
end
section
variable {hw:Option (Nat×Blk)}{name:Nat}{o:Op}{s:S}{x:SV}
variable [Cl] [Co] [Pu]
section swap
variable {P:Program} {id:Nat} {ops:Array Oper} {dr:Bool} {Fin:S->PH->PH->Prop}
theorem Sr {k:Nat}{b:Blk}(h:eff P name s o=some (x,some (k,b))) :
 (k=name/\s.hp name=none/\Nk o=false/\Hr o=false)\/(Nk o=true/\s.hp k≠none/\∃ z∈o.operands,∃ off,s.ev z=.p k off):=by
 unfold eff at h;split at h
 ·grind
 ·grind
 ·split at h
  ·split at h
   ·split at h
    ·split at h
     ·simp at h;exact .inl ⟨h.2.1.symm,by assumption,rfl,rfl⟩
     cases h
    cases h
   cases h
  cases h
 ·split at h
  ·split at h
   ·simp at h;exact .inl ⟨h.2.1.symm,by assumption,rfl,rfl⟩
   cases h
  cases h
 ·grind
 ·rename_i t z y;split at h
  ·rename_i k' off hz;split at h
   ·rename_i b' hb;split at h
    ·split at h
     ·rename_i l _ _ n _;cases hc:(Nat.beq l.length n&&Nat.ble (off+n) b'.cells.length) with
      |false=>grind
      |true =>
       simp[hc]at h;obtain⟨_,rfl,_⟩:=h;exact .inr ⟨rfl,by rw[hb];simp,z,by simp[Op.operands],off,hz⟩
     cases h
    cases h
   cases h
  cases h
 ·grind
 grind
theorem An7 (h:eff P name s o=some (x,hw))(a:Fr o=true):hw≠none:=by
 unfold eff at h;unfold Fr at a;split at a
 ·grind
 ·grind
 cases a
def Q8 (h:Fa o=true):Nk o=false:=by
 unfold Nk;split
 ·simp[Fa]at h
 ·simp[Fa]at h
 ·simp[Fa]at h
 rfl
theorem Ob.redo {x:Nat}{l:zK}{u m:PH}{j:Oper}(h:Ob P id ops true Fin (x::l) s u m)(A:ops[x]?=some j)(Q:Fa j.op=true) :
 ∃ R y,Ob P id ops true Fin l ((s.put j.dst R).setb y) u m/\(∀ k b,y=some (k,b)->k=id*1000+x/\s.hp k=none/\Hr j.op=false) /\
  ∀ (a:S) (C B:PH) (L:zK),(∀ z∈j.op.operands,a.ev z=s.ev z)->gv a ops j=gv s ops j->a.n=s.n->(y≠none->a.hp (id*1000+x)=s.hp (id*1000+x)) ->
   (Hr j.op=true->∀ z∈j.op.operands,∀ k off,s.ev z=.p k off->a.hp k=s.hp k)->PH.le u C->(Hr j.op=true->PH.le m B\/Pu.b=true\/∃ t tx,j.op=.load t (.tmp tx)/\isV (s.tm tx)=false) ->
   Ob P id ops true Fin L ((a.put j.dst R).setb y) C B->Ob P id ops true Fin (x::L) a C B:=by
 have K:∀ (a:S),a.n=s.n->Fb s j=true->Fb a j=true:=fun a Y r=>by unfold Fb at r⊢;rw[Y];exact r
 cases h with
 |auto ho q r he hl =>
  rw[A]at ho;obtain rfl:=A28 ho;refine⟨_,_,hl,fun k b X=>?_,fun a C B L D E F N O _ _ I=>?_⟩
  ·subst X;rcases Sr he with ⟨rfl,e,_,Z⟩|⟨e,_⟩
   ·grind
   rw[Q8 Q]at e;cases e
  refine .auto A (E.trans q) (K a F r) ?_ I;rw[Abb D (fun W=>N (An7 he W)) (fun J=>?_),he];rcases J with J|J
  ·grind
  rw[Q8 Q]at J;cases J
 |skip ho q r hl =>
  rw[A]at ho;obtain rfl:=A28 ho;refine⟨.v undef,none,hl,mV,fun a C B L D E F N O _ _ I=>.skip A (E.trans q) (K a F r) I⟩
 |ask ho q r hv hs hal hw hl =>
  rw[A]at ho;obtain rfl:=A28 ho;rename_i v;refine⟨.v v,none,hl,mV,fun a C B L D E F N O V H I=>.ask A (E.trans q) (K a F r) (by rw[Hy D];exact hv) hs hal (fun w hp=>?_) I⟩;rw[execOp_congr _ (Gv hs) (K0 D)];refine hw w fun c=>⟨fun g o q=>(hp c).1 g o (V g o q),fun f g o q=>?_⟩;rcases H (c.resolve_right fV) with H|H|⟨t,tx,T,U⟩
  ·exact (hp c).2 f g o (H g o q)
  ·rcases f with f|f
   ·rw[H]at f;cases f
   cases f
  unfold Kl at hv;rw[A1o]at hv;have:=hv (.tmp tx) (by rw[T];simp[Op.operands]);rw[show s.ev (.tmp tx)=s.tm tx from rfl,U]at this;cases this
 |big ho q r hv hs hf' hk hw hl=>grind
def Two (s:S)(ox oy:Oper):Prop:=∃ t tx t' ty v kx ox' ky oy',ox.op=.load t (.tmp tx)/\oy.op=.store t' (.tmp ty) v/\s.tm tx=.p kx ox'/\s.tm ty=.p ky oy'/\kx≠ky
def New (s:S)(ox oy:Oper):Prop:=∃ t tx t' ty v,ox.op=.load t (.tmp tx)/\oy.op=.store t' (.tmp ty) v/\isV (s.tm ty)=false/\∀ k off k' off',s.tm tx=.p k off->s.tm ty=.p k' off'->k≠k'
def Aku:Op->Bool
 |.call { callee:=.builtin .append,.. }|.call { callee:=.builtin .copy,.. }=>true
 |_=>false
def Own (s:S)(ox oy:Oper):Prop:=Aku oy.op=true/\∃ t tx,ox.op=.load t (.tmp tx)/\isV (s.tm tx)=false
theorem Avw (a:eff P name s o=some (x,hw))(h:Aku o=true):hw=none:=by
 unfold Aku at h;split at h
 ·unfold eff at a;simp only at a;split at a
  ·grind
  cases a
 ·unfold eff at a;simp only at a;split at a
  ·grind
  cases a
 cases h
theorem Ob.swap {x y:Nat}{l:zK}{s:S}{u m:PH}{C B:Oper}(hL:On s)(h:Ob P id ops true Fin (x::y::l) s u m)(hx:ops[x]?=some C)(R:ops[y]?=some B)(a4:x≠y)
 (hf:Fa C.op=true) (a8:Oper.apart ops C B=true) (a0:Hr C.op=true->L6 ops y B.op=false\/Own s C B\/Two s C B\/New s C B) (a9:∀ t tx,C.op=.load t (.tmp tx)->Zh ops s tx=true->isV (s.tm tx)=false):Ob P id ops true Fin (y::x::l) s u m:=by
 obtain⟨N,c,h1,hn,redo⟩:=h.redo hx hf;obtain⟨a1,a2,a3⟩:=Oper.apart_spec a8;have U:id*1000+x≠id*1000+y:=oV;have E:∀ z∈B.op.operands,((s.put C.dst N).setb c).ev z=s.ev z:=fun z A=>Xb a1 A;have J:gv ((s.put C.dst N).setb c) ops B=gv s ops B:=Yj a1;have a7:∀ z:Operand,∀ k off,s.ev z=.p k off->s.hp k≠none:=by
  intro z k off A;cases z with
  |tmp t=>exact hL.1 t k off A
  |const v=>cases A
  |global g=>cases A
  |func f=>cases A
 have a5:∀ k,(∀ b,c≠some (k,b))->((s.put C.dst N).setb c).hp k=s.hp k:=by
  intro k r;rcases c with _|⟨j,b⟩
  ·show (s.put C.dst N).hp k=s.hp k;rw[Du]
  rw[Be _ _ _ (fun e=>r b (by rw[e])),Du]
 have ac:∀ k,s.hp k≠none->∀ b,c≠some (k,b):=fun k r b e=>r (hn k b e).2.1;have I:Fb ((s.put C.dst N).setb c) B=Fb s B:=by unfold Fb;rw[Ul,Abh]
 have F:∀ (O:SV) (q:Option (Nat×Blk)),(∀ k b,q=some (k,b)->∀ b',c≠some (k,b')) ->
  ((((s.put C.dst N).setb c).put B.dst O).setb q)=(((s.put B.dst O).setb q).put C.dst N).setb c:=by
  intro O q r;rw[Rt,Rt,Afo s N O a2,An6];rintro k b k' b' e1 e2 rfl;exact r k b' e2 b e1
 cases h1 with
 |auto ho hg hd he hl =>
  rw[R]at ho;obtain rfl:=A28 ho;rename_i O q;have a:eff P (id*1000+y) s B.op=some (O,q):=by
   rw[<-he];refine (Abb E (fun _=>a5 _ (fun b e=>U.symm ((hn _ b e).1))) (fun _ z A k off r=>a5 k (ac k (a7 z k off r)))).symm
  have T:∀ k b,q=some (k,b)->∀ b',c≠some (k,b'):=by
   intro k b e b' e';subst e;rcases Sr a with ⟨rfl,_⟩|⟨_,r,_⟩
   ·exact U.symm (hn _ b' e').1
   exact r (hn k b' e').2.1
  refine .auto R (by rw[<-J];exact hg) (by rw[<-I];exact hd) a ?_;have a6:∀ k,(∀ b,q≠some (k,b))->((s.put B.dst O).setb q).hp k=s.hp k:=by
   intro k r;rcases q with _|⟨j,b⟩
   ·show (s.put B.dst O).hp k=s.hp k;rw[Du]
   rw[Be _ _ _ (fun e=>r b (by rw[e])),Du]
  refine redo _ u m l (fun z A=>Xb a3 A) (Yj a3) (by rw[Ul,Abh]) ?_ ?_ (PH.le_refl _) (fun _=>.inl (PH.le_refl _)) ?_
  ·intro V;by_cases r:∃ b,q=some (id*1000+x,b)
   ·obtain⟨b,hb⟩:=r;subst hb;rcases Sr a with ⟨e,_⟩|⟨em,r,z,A,off,ae⟩
    ·exact absurd e U
    rcases c with _|⟨j,b'⟩
    ·exact absurd rfl V
    obtain⟨rfl,e,_⟩:=hn j b' rfl;exact absurd e r
   exact a6 _ (fun b e=>r ⟨b,e⟩)
  ·intro L z A k off r;refine a6 k (fun b e=>?_);subst e;rcases Sr a with ⟨rfl,e,_⟩|⟨em,_⟩
   ·exact a7 z _ off r e
   rcases a0 L with h|⟨q0,_⟩|⟨t,tx,t',D,v,kx,o1,ky,o2,q1,W,X,Y,q5⟩|⟨t,tx,t',D,v,q1,W,X,Y⟩
   ·rw[Ar5 h]at em;cases em
   ·cases Avw a q0
   case inr.inr.inr =>
    rw[q1]at A;simp only[Op.operands,A88,A12]at A;subst A;rw[W]at a;cases hty:s.tm D with
    |junk=>simp only[eff,show s.ev (.tmp D)=s.tm D from rfl,hty]at a;cases a
    |v y=>simp only[eff,show s.ev (.tmp D)=s.tm D from rfl,hty]at a;cases a
    |p ky o2 =>
     have a4:=Y k off ky o2 r hty;simp only[eff,show s.ev (.tmp D)=s.tm D from rfl,hty]at a;split at a
     ·split at a
      ·split at a
       ·rename_i n _
        revert a
        cases (Nat.beq _ _&&Nat.ble _ _) with
        |false=>simp
        |true=>simp;intro _ e _;exact absurd e.symm a4
       cases a
      cases a
     cases a
   rw[q1]at A;simp only[Op.operands,A88,A12]at A;subst A;have:SV.p k off=.p kx o1:=r.symm.trans X;simp only[SV.p.injEq]at this;rw[W]at a;have ad:s.ev (.tmp D)=.p ky o2:=Y;simp only[eff,ad]at a;split at a
   ·split at a
    ·split at a
     ·rename_i n _
      revert a
      cases (Nat.beq _ _&&Nat.ble _ _) with
      |false=>simp
      |true=>simp;intro _ e _;exact absurd (this.1.symm.trans e.symm) q5
     cases a
    cases a
   cases a
  rw[<-F O q T];exact hl
 |skip ho hg hd hl =>
  rw[R]at ho;obtain rfl:=A28 ho;refine .skip R (by rw[<-J];exact hg) (by rw[<-I];exact hd) ?_;refine redo _ u m l (fun z A=>Xb (w:=none) a3 A) (Yj (w:=none) a3) (by rw[Abh]) (fun _=>by rw[Du]) (fun _ _ _ _ _ _=>by rw[Du]) (PH.le_refl _) (fun _=>.inl (PH.le_refl _)) ?_;have:=F (.v undef) none mV;rw[show (s.put B.dst (.v undef))=(s.put B.dst (.v undef)).setb none from rfl,<-this];exact hl
 |ask ho hg hd hv hs hal hw hl =>
  rw[R]at ho;obtain rfl:=A28 ho;rename_i v;refine .ask (v:=v) R (by rw[<-J];exact hg) (by rw[<-I];exact hd) (by rw[<-Hy E];exact hv) hs hal (fun w hp=>?_) ?_
  ·rw[<-execOp_congr _ (Gv hs) (K0 E)];exact hw w hp
  refine redo _ u m l (fun z A=>Xb (w:=none) a3 A) (Yj (w:=none) a3) (by rw[Abh]) (fun _=>by rw[Du]) (fun _ _ _ _ _ _=>by rw[Du]) (PH.le_refl _) (fun _=>.inl (PH.le_refl _)) ?_;have:=F (.v v) none mV;rw[show (s.put B.dst (.v v))=(s.put B.dst (.v v)).setb none from rfl,<-this];exact hl
 |big ho hg hd hv hs hf' r hw hl =>
  rw[R]at ho;obtain rfl:=A28 ho;rename_i K;have Q:La ops ((s.put C.dst N).setb c)=La ops s:=Ab9 fun t ht=>by
   rw[Ft,Gi];intro aa;unfold Qz at ht;rw[A1o]at ht;have:=ht C (Acj hx);rw[aa]at this;simp at this
  refine .big (K:=K) R (by rw[<-J];exact hg) (by rw[<-I];exact hd) (by rw[<-Hy E];exact hv) hs hf' (by rw[<-Q];exact r) (fun w ab=>?_) (fun v u' m' Z hK=>?_)
  ·have:=hw w ab;unfold Eg at this⊢;rw[<-execOp_congr _ (Gv hs) (K0 E)];exact this
  refine redo _ u' m' l (fun z A=>Xb (w:=none) a3 A) (Yj (w:=none) a3) (by rw[Abh]) (fun _=>by rw[Du]) (fun _ _ _ _ _ _=>by rw[Du]) Z (fun L=>?_) ?_
  ·rcases r v u' m' hK with h|h|h|h|h
   ·exact .inl h
   ·cases h
   ·rcases a0 L with h'|⟨_,q0⟩|⟨t,tx,t',D,v,kx,o1,ky,o2,q1,W,X,Y,q5⟩|⟨t,tx,t',D,v,q1,W,X,Y⟩
    ·rw[h']at h;cases h
    ·exact .inr (.inr q0)
    case inr.inr.inr =>
     exfalso;rw[Hy E]at hv;unfold Kl at hv;rw[A1o]at hv;have:=hv (.tmp D) (by rw[W];simp[Op.operands]);rw[show s.ev (.tmp D)=s.tm D from rfl]at this;cases hty:s.tm D with
     |junk=>rw[hty]at this;cases this
     |v y=>rw[hty]at X;cases X
     |p k off=>rw[hty]at this;cases this
    exfalso;rw[Hy E]at hv;unfold Kl at hv;rw[A1o]at hv;have:=hv (.tmp D) (by rw[W];simp[Op.operands]);rw[show s.ev (.tmp D)=.p ky o2 from Y]at this;cases this
   rotate_left
   ·exact .inr (.inl h)
   right;right;rw[Q]at h;unfold La at h;rw[A1o]at h;have H:=h C (Acj hx);rw[L]at H;simp only[A72,A80]at H;unfold Ad5 at H;split at H
   ·rename_i t tx hop;refine⟨t,tx,hop,?_⟩;rw[A4b,A1m]at H;rcases H with ⟨_,H⟩|H
    ·cases hb:s.tm tx with
     |junk=>rfl
     |v y=>rw[hb]at H;cases H
     |p k off=>rfl
    grind
   cases H
  have:=F (.v v) none mV;rw[show (s.put B.dst (.v v))=(s.put B.dst (.v v)).setb none from rfl,<-this];exact hl v u' m' Z hK
end swap
end
section
variable {ox oy:Oper}{s s':S}{x:Nat}
variable [Cl] [Co] [Pu]
section live
variable {P:Program}
theorem Ar7 {F:Nat}{o:Op}{x:SV}{q:Option (Nat×Blk)}(h:eff P F s o=some (x,q))(A:On s)(d:Option Nat):On ((s.put d x).setb q):=by
 have m:∀ (z:Operand) (k off:Nat),s.ev z=.p k off->s.hp k≠none:=by
  intro z k off B;cases z with
  |tmp t=>exact A.1 t k off B
  |const v=>cases B
  |global g=>cases B
  |func f=>cases B
 have key:∀ (x:SV) (q:Option (Nat×Blk)),(∀ k off,x=.p k off->s.hp k≠none\/∃ b,q=some (k,b))->(∀ j b,q=some (j,b)->∀ k off,SV.p k off∈b.cells->s.hp k≠none)->On ((s.put d x).setb q):=by
  intro x q J K;have hp:∀ k,s.hp k≠none->((s.put d x).setb q).hp k≠none:=by
   intro k I;rcases q with _|⟨j,b⟩
   ·show (s.put d x).hp k≠none;rw[Du];exact I
   by_cases e:k=j
   ·rw[e,Bo];simp
   rw[Be _ _ _ e,Du];exact I
  refine⟨fun e k off D=>?_,fun j b k off r a=>?_⟩
  ·rw[Ft]at D;by_cases C:d=some e
   ·subst C;rw[Az]at D;rcases J k off D with h|⟨b,rfl⟩
    ·exact hp k h
    rw[Bo];simp
   rw[Gi _ _ _ C]at D;exact hp k (A.1 e k off D)
  rcases q with _|⟨i,b'⟩
  ·change (s.put d x).hp j=some b at r;rw[Du]at r;exact hp k (A.2 j b k off r a)
  by_cases e:j=i
  ·subst e;rw[Bo]at r;obtain rfl:=A28 r;exact hp k (K j b' rfl k off a)
  rw[Be _ _ _ e,Du]at r;exact hp k (A.2 j b k off r a)
 unfold eff at h;split at h
 ·rename_i z;simp at h;obtain⟨rfl,rfl⟩:=h;exact key _ _ (fun k off e=>.inl (m z k off e)) mV
 ·rename_i z;simp at h;obtain⟨rfl,rfl⟩:=h;exact key _ _ (fun k off e=>.inl (m z k off e)) mV
 ·split at h
  ·split at h
   ·split at h
    ·split at h
     ·rename_i l hl;simp at h;obtain⟨rfl,rfl⟩:=h;obtain⟨_,_,_,H,_⟩:=Fw hl (fun _=>0);exact key _ _ (fun k off e=>.inr (by simp at e;exact⟨_,by rw[e.1]⟩)) (fun j b e k off a=>by simp at e;obtain⟨_,rfl⟩:=e;cases H k off a)
     cases h
    cases h
   cases h
  cases h
 ·rename_i t z;split at h
  ·split at h
   ·rename_i l hl;simp at h;obtain⟨rfl,rfl⟩:=h;obtain⟨_,_,_,H,_⟩:=Fw hl (fun _=>0);exact key _ _ (fun k off e=>.inr (by simp at e;exact⟨_,by rw[e.1]⟩)) (fun j b e k off a=>by simp at e;obtain⟨_,rfl⟩:=e;exact m z k off (H k off a))
   cases h
  cases h
 ·split at h
  ·split at h
   ·rename_i k off B b hb;split at h
    ·rename_i y hy;simp at h;obtain⟨rfl,rfl⟩:=h;have E:∀ u o',y=.p u o'->SV.p u o'∈b.cells:=by
      unfold ldv at hy;split at hy
      ·grind
      ·grind
      cases hy
     exact key _ _ (fun u o' e=>.inl (A.2 _ b u o' hb (E u o' e))) mV
    cases h
   cases h
  cases h
 ·split at h
  ·rename_i u off B;split at h
   ·rename_i b' hb;split at h
    ·rename_i l hl;split at h
     ·rename_i n _;cases hc:(Nat.beq l.length n&&Nat.ble (off+n) b'.cells.length) with
      |false=>grind
      |true =>
       simp[hc]at h;obtain⟨rfl,rfl⟩:=h;obtain⟨_,_,_,H,_⟩:=Fw hl (fun _=>0);refine key _ _ mV (fun j b e k off a=>?_);obtain⟨rfl,rfl⟩:=e;rcases Yh a with a|a
       ·exact A.2 u b' k off hb a
       grind
     cases h
    cases h
   cases h
  cases h
 ·grind
 grind
def Wx (g:On s)(d:Option Nat)(v:Value):On (s.put d (.v v)):=by
 refine⟨fun e k off f=>?_,fun j b k off h l=>?_⟩
 ·rw[Du];by_cases a:d=some e
  ·subst a;rw[Az]at f;cases f
  rw[Gi _ _ _ a]at f;exact g.1 e k off f
 rw[Du]at h⊢;exact g.2 j b k off h l
end live
section drawn
variable {P:Program} {id:Nat} {ops:Array Oper} {Fin:S->PH->PH->Prop} {c:Cx} {Q:Exit->Act->World->Prop}
def Ob.mapTail {a:Bool}{L e:zK}{u m:PH}(b:On s)(h:Ob P id ops a Fin (x::L) s u m)(f:∀ s' u m,On s'->Gb ops s s'->Ob P id ops a Fin L s' u m->Ob P id ops a Fin e s' u m):Ob P id ops a Fin (x::e) s u m:=by
 cases h with
 |auto ho hg hd he hl=>exact .auto ho hg hd he (f _ _ _ (Ar7 he b _) (Gx ho _ _ (Fit.auto he)) hl)
 |skip ho hg hd hl=>exact .skip ho hg hd (f _ _ _ (Wx b _ _) (Gx ho _ none (Fit.skip hg)) hl)
 |ask ho hg hd hv hs hal hw hl=>exact .ask ho hg hd hv hs hal hw (f _ _ _ (Wx b _ _) (Gx ho _ none (Fit.val hv hal _)) hl)
 |big ho hg hd hv hs hf hk hw hl=>exact .big ho hg hd hv hs hf hk hw (fun v l k g j=>f _ _ _ (Wx b _ _) (Gx ho _ none (Fit.val hv (Aki hf) _)) (hl v l k g j))
def Ax9 (ops:Array Oper)(s:S)(ox oy:Oper):Bool :=
 match ox.op with
 |.load _ (.tmp tx)=>match oy.op with
  |.store _ (.tmp ty) _=>Qz ops tx&&Qz ops ty&&(match s.tm tx with
   |.p kx _=>match s.tm ty with|.p ky _=>!Nat.beq kx ky|_=>false
   |_=>false)
  |_=>false
 |_=>false
def Aw7 {ops:Array Oper}(h:Ax9 ops s ox oy=true)(b:Gb ops s s'):Two s' ox oy:=by
 unfold Ax9 at h;split at h
 ·rename_i t tx e1;split at h
  ·rename_i t' ty v e2;simp only[A1m]at h;obtain⟨⟨f,g⟩,a⟩:=h;split at a
   ·rename_i kx o1 e3;split at a
    ·rename_i ky o2 e4;refine⟨t,tx,t',ty,v,kx,o1,ky,o2,e1,e2,by rw[b.eq tx f];exact e3,by rw[b.eq ty g];exact e4,fun e=>?_⟩;rw[e]at a;simp at a
    cases a
   cases a
  cases h
 cases h
def Aw8 (ops:Array Oper)(s:S)(ox oy:Oper):Bool :=
 match ox.op with
 |.load _ (.tmp tx)=>match oy.op with
  |.store _ (.tmp ty) _=>Anv ops s tx&&alB ops ty&&(match s.tm ty with|.junk=>true|_=>false)
  |_=>false
 |_=>false
theorem Ayg {ops:Array Oper}(h:Aw8 ops s ox oy=true)(f:Gb ops s s')(j:On s):New s' ox oy:=by
 unfold Aw8 at h;split at h
 ·rename_i t tx e1;split at h
  ·rename_i t' ty v e2;simp only[A1m]at h;obtain⟨⟨l,g⟩,p⟩:=h;have m:s.tm ty=.junk:=by grind
   refine⟨t,tx,t',ty,v,e1,e2,f.nw ty g (by rw[m];rfl),fun k off r a n o e=>?_⟩;subst e;have u:s.hp k≠none:=by
    rcases f.ol tx k off l n with q|⟨b,y,_,q⟩
    ·exact j.1 _ _ _ q
    exact j.1 _ _ _ q
   rcases f.fr ty k a g o with q|q
   ·grind
   grind
  cases h
 cases h
def Ay4 {ops:Array Oper}(h:Ad5 ops s ox=true)(b:Gb ops s s')(f:∀ t tx,ox.op=.load t (.tmp tx)->Zh ops s' tx=true->isV (s'.tm tx)=false):∃ t tx,ox.op=.load t (.tmp tx)/\isV (s'.tm tx)=false:=by
 unfold Ad5 at h;split at h
 ·rename_i t tx hop;refine⟨t,tx,hop,?_⟩;rw[A4b,A1m]at h;rcases h with ⟨e,a⟩|h
  ·rw[b.eq tx e];cases hb:s.tm tx with
   |junk=>rfl
   |v y=>rw[hb]at a;cases a
   |p k off=>rfl
  exact f t tx hop (by rw[Mp b.eq];exact h)
 cases h
def Awz (ops:Array Oper)(s:S)(o:Oper):Bool:=match o.op with
 |.load _ (.tmp t)=>!(isV (s.tm t)&&Zh ops s t)
 |_=>true
def Aga (ops:Array Oper)(s:S)(x y:Nat):Bool :=
 match ops[x]? with
 |some ox=>match ops[y]? with
  |some oy=>Fa ox.op&&Oper.apart ops ox oy&&(!(Hr ox.op&&L6 ops y oy.op)||Ax9 ops s ox oy||Aw8 ops s ox oy||(Ad5 ops s ox&&Aku oy.op)) && !Nat.beq x y&&Awz ops s ox
  |none=>false
 |none=>false
def dir (ops:Array Oper)(i x:Nat):Bool:=match ops[i]? with
 |some o=>o.after.toList.any fun e=>Region.binds .any e&&Nat.beq e.on x
 |none=>false
def Ge (ops:Array Oper)(s:S)(x y:Nat):Bool:=!(dir ops x y) && !(Nat.beq x y)&&(dir ops y x||Aga ops s x y||bef ops ops.size y x)
def Qp (ops:Array Oper)(s:S):zK->Bool
 |[]=>true
 |x::l=>l.all (Ge ops s x)&&Qp ops s l
def Kd (ops:Array Oper)(i:Nat):Bool:=match ops[i]? with
 |some o=>o.after.toList.all fun e=>!Region.binds .any e||(Nat.blt e.on ops.size && !Nat.beq e.on i)
 |none=>false
def Ark (ops:Array Oper)(s:S)(T:zK):Bool :=
 Nat.beq T.length ops.size&&(List.range ops.size).all (fun i=>T.contains i)&&T.all (fun i=>Nat.blt i ops.size)&&Qp ops s T&&(List.range ops.size).all (Kd ops)
def G0 {ops:Array Oper}{s:S}:∀ {T:zK},Qp ops s T=true->T.Pairwise (fun x y=>Ge ops s x y=true)
 |[],_=>List.Pairwise.nil
 |x::l,h=>by
  simp only[Qp,A1m,A1o]at h;exact List.Pairwise.cons h.1 (G0 h.2)
def Ag7 (ops:Array Oper)(listed:Array Bool):Prop:=∀ i,listed.getD i false=true->∀ o,ops[i]?=some o->∀ e∈o.after,Region.binds .any e=true->listed.getD e.on false=true
def Ib {a:Array Bool}(b:Ag7 ops a){x:Nat}:∀ (f i:Nat),(∀ o,ops[i]?=some o->∀ e∈o.after,Region.binds .any e=true->a.getD e.on false=true)->bef ops f i x=true->a.getD x false=true
 |0,i,_,h=>by simp[bef]at h
 |f+1,i,hi,h=>by
  unfold bef at h;cases ho:ops[i]? with
  |none=>simp[ho]at h
  |some o =>
   simp only[ho,A5h,A1m,A4b]at h;obtain⟨e,k,j,h⟩:=h;have g:=hi o ho e (by simpa using k) j;rcases h with h|h
   ·rw[<-A1y h];exact g
   exact Ib b f e.on (b e.on g) h
theorem Xi {a:Array Bool}{i x:Nat}(hi:∀ o,ops[i]?=some o->∀ e∈o.after,Region.binds .any e=true->a.getD e.on false=true)(h:dir ops i x=true):a.getD x false=true:=by
 unfold dir at h;cases ho:ops[i]? with
 |none=>grind
 |some o =>
  simp only[ho,A5h,A1m]at h;obtain⟨e,f,b,h⟩:=h;rw[<-A1y h];exact hi o ho e (by simpa using f) b
def Ob.bubble {s0:S}(f:On s0){i:Nat}{B:zK}:∀ (A:zK),(∀ x∈A,Aga ops s0 x i=true)->∀ {s:S} {u m:PH},On s->Gb ops s0 s->Ob P id ops true Fin (A++i::B) s u m->Ob P id ops true Fin (i::(A++B)) s u m
 |[],_,s,u,m,_,_,h=>h
 |x::A,hx,s,u,m,hL,hag,h=>by
  have r:Ob P id ops true Fin (x::i::(A++B)) s u m:=h.mapTail hL fun s' u m l z C=>Ob.bubble f A (fun y D=>hx y (A2f _ D)) l (hag.trans z) C;have j:=hx x mV;unfold Aga at j;cases hox:ops[x]? with
  |none=>simp[hox]at j
  |some ox =>
   cases hoy:ops[i]? with
   |none=>simp[hox,hoy]at j
   |some oy =>
    simp only[hox,hoy,A1m,A4b,A3w,A8b]at j;obtain⟨⟨⟨⟨p,q⟩,a⟩,o⟩,k⟩:=j;have g:∀ t tx,ox.op=.load t (.tmp tx)->Zh ops s tx=true->isV (s.tm tx)=false:=fun t tx n b=>by
     rw[Mp hag.eq]at b;unfold Awz at k;rw[n]at k;simp only[b,Bool.and_true,A3w]at k;exact hag.pt tx b k
    refine r.swap hL hox hoy (fun e=>?_) p q (fun l=>?_) g
    ·rw[e]at o;simp at o
    rcases a with (((a|a)|a)|a)|a
    ·rw[l]at a;cases a
    ·exact .inl a
    ·exact .inr (.inr (.inl (Aw7 a hag)))
    ·exact .inr (.inr (.inr (Ayg a hag f)))
    exact .inr (.inl ⟨a.2,Ay4 a.1 hag g⟩)
theorem Ob.wpAny {s0:S}(a2:On s0)(hE:(List.range ops.size).all (Kd ops)=true)(hF:∀ s u m ρ a w,Fin s u m->Rel c s u m ρ a w->Q .normal a w) :
 ∀ (n:Nat) (T:zK) (b:Array Bool) {s:S} {u m:PH} {ρ:Nat->Nat} {a:Act} {w:World},T.length=n->b.size=ops.size->(∀ i,i<ops.size->(b.getD i true=false↔i∈T))->(∀ i∈T,i<ops.size)->T.Nodup->Ag7 ops b ->
  T.Pairwise (fun x y=>Ge ops s0 x y=true)->Gb ops s0 s->Ob P id ops true Fin T s u m->Rel c s u m ρ a w->Go.wpAny P .any ops Q n b a w:=by
 have f:∀ (b:Array Bool) (i:Nat),i∈Region.ready .any ops b↔i<ops.size/\b.getD i true=false/\∃ o,ops[i]?=some o/\∀ e∈o.after,Region.binds .any e=true->b.getD e.on false=true:=by
  intro b i;simp only[Region.ready,A7a,A6q,A1m,A3w];refine and_congr_right fun hi=>and_congr_right fun _=>?_;have ho:ops[i]?=some ops[i]:=A2v hi;rw[ho];simp only[A4c,A4w,Bab,A1f,exists_eq_left',A4b,A3w];constructor
  ·intro h e D C;rcases h e D with h|h
   ·rw[C]at h;cases h
   exact h
  intro h e D;cases C:Region.binds .any e with
  |false=>exact .inl rfl
  |true=>exact .inr (h e D C)
 intro n;induction n with
 |zero =>
  intro T b s u m ρ a w g Y F p r I hP H hO hr;have:T = []:=A2l g;subst this;refine⟨?_,?_⟩
  ·rw[List.eq_nil_iff_forall_not_mem];intro i hi;obtain⟨R,h2,_⟩:=(f b i).1 hi;exact absurd ((F i R).1 h2) mV
  cases hO with
  |nil h=>exact hF _ _ _ _ _ _ h hr
 |succ n ih =>
  intro T b s u m ρ a w g Y F p r I hP H hO hr;refine⟨fun U=>?_,fun i hi=>?_⟩
  ·cases T with
   |nil=>simp at g
   |cons t T' =>
    exfalso;have O:=p t mV;have:t∈Region.ready .any ops b:=by
     refine (f b t).2 ⟨O,(F t O).2 mV,ops[t],A2v O,fun e D C=>?_⟩;rw[A1o]at hE;have q:=hE t (by simpa using O);unfold Kd at q;rw[A2v O]at q;simp only[A1o]at q;have:=q e (by simpa using D);simp only[C,A72,A80,A1m,A3w]at this;have L:e.on<ops.size:=A8f▸this.1;have a6:e.on≠t:=fun h=>by rw[h]at this;simp at this
     cases K:b.getD e.on true with
     |true =>
      have R:e.on<b.size:=oV;simp only[A2t,A2v R,A4w]at K⊢;exact K
     |false =>
      have N:=(F e.on L).1 K;rcases A1g.1 N with N|N
      ·exact absurd N a6
      have:=A34 hP N;unfold Ge at this;simp only[A1m,A3w]at this;have a4:dir ops t e.on=true:=by
       unfold dir;rw[A2v O];simp only[A5h,A1m];exact⟨e,by simpa using D,C,mV⟩
      rw[a4]at this;exact absurd this.1.1 mV
    rw[U]at this;cases this
  obtain⟨R,h2,o,ho,X⟩:=(f b i).1 hi;have N:=(F i R).1 h2;obtain⟨A,B,rfl⟩:=A6k N;have a1:(A++B).length=n:=by simp at g⊢;omega
  have L:i<b.size:=oV;have a7:∀ x∈A,Aga ops s0 x i=true:=by
   intro x Z;have hp:=(A35.1 hP).2.2 x Z i mV;unfold Ge at hp;simp only[A1m,A4b]at hp;have W:∀ o',ops[i]?=some o'->∀ e∈o'.after,Region.binds .any e=true->b.getD e.on false=true:=fun o' z=>by rw[ho]at z;obtain rfl:=A28 z;exact X
   have V:b.getD x false=true->False:=by
    intro K;have a8:=p x (by simp[Z]);have:=(F x a8).2 (by simp[Z]);have h3:x<b.size:=oV;simp only[A2t,A2v h3,A4w]at K this;rw[this]at K;cases K
   rcases hp.2 with (h|h)|h
   ·exact (V (Xi W h)).elim
   ·exact h
   exact (V (Ib I ops.size i W h)).elim
  have a3:=Ob.bubble a2 A a7 hr.lv H hO;refine wpOp_mono (fun a' w' ⟨s',u',m',ρ',r1,ra,r2⟩=>?_) (a3.step (Q:=Q) hr);have E:(A++B).Nodup/\i∉A++B:=by
   rw[A4p]at r⊢;simp only[A4j,A1g,A1h]at r⊢;obtain⟨n1,⟨n2,n3⟩,n4⟩:=r;exact⟨⟨n1,n3,fun x Z y hy=>n4 x Z y (.inr hy)⟩,fun h=>h.elim (fun h=>n4 i h i (.inl rfl) rfl) n2⟩
  refine ih (A++B) _ a1 (by simpa using Y) (fun j J=>?_) (fun j J=>p j ?_) E.1 ?_ ?_ (H.trans ra) r2 r1
  ·by_cases l:j=i
   ·subst l;simp only[A2t,Array.getElem?_setIfInBounds_self_of_lt L,A4w];exact⟨fun h=>absurd h mV,fun h=>absurd h E.2⟩
   have:=F j J;simp only[A2t,A2m (fun h=>l h.symm)]at this⊢;rw[this];simp[l]
  ·simp only[A1h,A1g]at J⊢;rcases J with h|h
   ·exact .inl h
   grind
  ·intro j J o' z e D C;have a0:∀ k,b.getD k false=true->(b.setIfInBounds i true).getD k false=true:=by
    intro k hk;by_cases a5:k=i
    ·grind
    simp only[A2t,A2m (fun h=>a5 h.symm)]at hk⊢;exact hk
   by_cases l:j=i
   ·grind
   refine a0 _ (I j ?_ o' z e D C);simp only[A2t,A2m (fun h=>l h.symm)]at J⊢;exact J
  grind
end drawn
end
end Go.Proofs.YtemmheaocgmebaaGreatDoor
