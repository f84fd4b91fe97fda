/- Parts of one proof, joined by a program. -/
import Derived.Orders
import Derived.KernelRfl
import Derived.Laws.CopyRow
import Derived.Laws.World
import Derived.Laws.Entries
set_option linter.defProp false
set_option linter.unusedVariables false
set_option linter.unusedSimpArgs false
set_option linter.unusedSectionVars false
set_option maxHeartbeats 16000000
namespace Go.Proofs.YtijchbjkdllolaaGreatDoor
def Ay7:=@List.mem_cons
def A11:=@List.cons_append
def A0q:=@List.length_cons
def A0d:=@Nat.pow_succ
def A0g:=@Nat.mul_add
def Az4:=@Nat.mul_assoc
def Az5:=@Nat.mul_comm
def A1l:=@Nat.add_assoc
def Ay5:=@List.mem_append
def A0o:=@List.mem_of_mem_take
def A1v:=@List.mem_of_mem_drop
def A5k:=@List.eq_of_mem_replicate
def Ays:=@List.getD_eq_getElem?_getD
def Ayr:=@List.getElem?_eq_getElem
def Ay8:=@List.getElem_mem
def Azo:=@List.getElem?_eq_none
def A0n:=@Nat.mul_le_mul_left
def A61:=@List.replicate_succ
def Ay1:=@List.length_take
def A2b:=@Nat.min_eq_left
def Ay6:=@List.take_of_length_le
def A0a:=@List.eq_nil_of_length_eq_zero
def A3y:=@Nat.add_sub_cancel
def A29:=@List.length_pos_iff
def Azj:=@List.take_length
def A1x:=@List.getElem?_take
def A05:=@Nat.div_lt_iff_lt_mul
def A0r:=@Nat.lt_of_le_of_lt
def Az8:=@Nat.lt_or_ge
def Azr:=@Nat.pow_le_pow_right
def A3a:=@Nat.pow_add
def A9g:=@Int.one_mul
def A7j:=@Int.eq_of_mul_eq_mul_left
def Ay2:=@Nat.le_refl
def A9h:=@Int.mul_add
def A1g:=@List.getElem?_set
def Ayv:=@Nat.le_trans
def A1w:=@Array.getElem?_eq_none
def A0k:=@Nat.lt_of_lt_of_le
def A7l:=@Bool.not_eq_true
def Azp:=@Nat.eq_of_beq_eq_true
def A55:=@Array.getElem?_setIfInBounds_self
def A0s:=@Array.getElem?_setIfInBounds_ne
def A8o:=@Array.getElem?_push
def Ayz:=@Option.some.injEq
def Ay9:=@List.mem_of_getElem?
def A30:=@List.foldl_cons
def Aze:=@List.take_add_one
def A8p:=@List.take_set_of_le
def A12:=@List.getElem?_set_self
def A5e:=@List.drop_set_of_lt
def A2u:=@Array.ext'
def A1r:=@Nat.add_zero
def A1m:=@Array.length_toList
def A69:=@Array.foldl_toList
def Azb:=@Bool.and_eq_true
def A6i:=@Nat.le_of_ble_eq_true
def A78:=@List.mapM_cons
def A2z:=@List.getElem?_drop
def Azg:=@List.all_eq_true
def A06:=@List.getElem?_toArray
def A35:=@Array.toArray_toList
def A7h:=@List.mapM_toArray
def Azm:=@List.append_assoc
def A36:=@List.getElem?_append
def Az0:=@Prod.mk.injEq
def A5z:=@List.size_toArray
def A5t:=@Nat.blt_eq
def A2e:=@Classical.byContradiction
def A2m:=@Array.getElem?_eq_some_iff
def A1z:=@Bool.or_eq_true
def A1q:=@Bool.false_eq_true
def A0x:=@List.mem_append_left
def A8t:=@List.mem_filterMap
def A5h:=@Bool.eq_iff_iff
def A8j:=@Array.map_congr_left
def A5f:=@List.map_congr_left
def A7m:=@List.mem_toArray
def Ayx:=@List.mem_map
def A0j:=@Option.some.inj
def Azs:=@List.mem_singleton
def A4k:=@Bool.not_true
def A7f:=@Bool.false_or
def A4c:=@List.any_eq_true
def Azq:=@List.mem_cons_of_mem
def A1b:=@Bool.not_eq_true'
def A6j:=@Bool.and_eq_false_iff
def A2v:=@List.mem_filter
def A64:=@List.mem_range
def A0l:=@Array.getElem?_eq_getElem
def A1n:=@Option.map_some
def A07:=@Option.getD_some
def A8u:=@Array.all_eq_true'
def Azn:=@Array.getD_eq_getD_getElem?
def A0m:=@List.rel_of_pairwise_cons
def A3i:=@List.append_of_mem
def A1e:=@List.pairwise_append
def A1h:=@List.nodup_append
def A1i:=@List.nodup_cons
def A2n:=@Array.getElem?_setIfInBounds_self_of_lt
def A2h:=@List.Sublist.append_left
def A2p:=@List.sublist_cons_self
section
theorem kV.{u} {α:Sort u}{a b:α}(h:a=b:=by kernel_rfl):a=b:=h
theorem oV {p:Prop}(h:p:=by omega):p:=h
theorem mV {p:Prop}(h:p:=by simp):p:=h
theorem dV {p:Prop}(h:p:=by dsimp only;omega):p:=h
theorem gV {p:Prop}(h:p:=by simp;omega):p:=h
theorem jV {p:Prop}(h:p:=by decide +kernel):p:=h
theorem fV {p:Prop}(h:p:=by decide):p:=h
end
section
variable {l:List Nat}{n:Nat}
def val:List Nat->Nat
 |[]=>0
 |d::l=>d+1000000000*val l
def Low (l:List Nat):Prop:=∀ d,d∈l->d<1000000000
def Aa (n:Nat):List Nat:=if h:n=0 then [] else n%1000000000::Aa (n/1000000000)
termination_by n
decreasing_by omega
def nl (n:Nat):Nat:=(Aa n).length
def Bd:Aa 0 = []:=by unfold Aa;simp
def Dq (h:n≠0):Aa n=n%1000000000::Aa (n/1000000000):=by
 rw[Aa];simp[h]
def Al (n:Nat):val (Aa n)=n:=by
 induction n using Nat.strongRecOn with
 |_ n ih =>
  by_cases h:n=0
  ·subst h;simp[Bd,val]
  rw[Dq h];simp only[val];rw[ih _ oV];omega
def An (n:Nat):Low (Aa n):=by
 induction n using Nat.strongRecOn with
 |_ n ih =>
  by_cases h:n=0
  ·subst h;simp[Bd,Low]
  rw[Dq h];intro d a;rcases Ay7.1 a with rfl|a
  ·omega
  exact ih _ oV d a
def Gv :Aa n = []↔n=0:=by
 constructor
 ·intro h;have:=Al n;rw[h]at this;simp[val]at this;omega
 rintro rfl;exact Bd
def P5 (l m:List Nat):val (l++m)=val l+1000000000^l.length*val m:=by
 induction l with
 |nil=>simp[val]
 |cons d l ih =>
  simp only[A11,val,ih,A0q,A0d];rw[A0g,<-Az4,Az5 1000000000 (1000000000^l.length),A1l]
def Jk (l:List Nat)(d:Nat):val (l++[d])=val l+1000000000^l.length*d:=by
 rw[P5];simp[val]
def Low.nil:Low []:=by simp[Low]
def Low.cons {d:Nat}(h:d<1000000000)(b:Low l):Low (d::l):=by
 intro x a;rcases Ay7.1 a with rfl|a
 ·exact h
 exact b x a
def Low.append {l m:List Nat}(h:Low l)(k:Low m):Low (l++m):=by
 intro x a;rcases Ay5.1 a with a|a
 ·exact h x a
 exact k x a
def Low.take (h:Low l)(k:Nat):Low (l.take k):=fun x a=>h x (A0o a)
def Low.drop (h:Low l)(k:Nat):Low (l.drop k):=fun x a=>h x (A1v a)
def Low.zeros (k:Nat):Low (List.replicate k 0):=by intro x a;have:=A5k a;omega
def Low.getD (h:Low l)(k:Nat):l.getD k 0<1000000000:=by
 by_cases a:k<l.length
 ·rw[Ays,Ayr a];exact h _ (Ay8 a)
 rw[Ays,Azo oV];simp
def K5 (h:Low l):val l<1000000000^l.length:=by
 induction l with
 |nil=>simp[val]
 |cons d l ih =>
  have c:=h d mV;have a:=ih (fun x b=>h x (by simp[b]));simp only[val,A0q,A0d];have:val l+1<=1000000000^l.length:=a;have:=A0n 1000000000 this;rw[Az5 (1000000000^l.length)];omega
def Yr (k:Nat):val (List.replicate k 0)=0:=by
 induction k with
 |zero=>rfl
 |succ k ih=>simp[A61,val,ih]
def A9 (l:List Nat)(k:Nat):val (l.take (k+1))=val (l.take k)+1000000000^k*l.getD k 0:=by
 by_cases a:k<l.length
 ·rw[List.take_succ_eq_append_getElem a,Jk,Ay1,A2b oV];simp[a]
 rw[Ay6 oV,Ay6 oV];have:l[k]?=none:=Azo oV;simp[this]
def Bv (l:List Nat):Nat->Nat
 |0=>0
 |n+1=>if l.getD n 0=0 then Bv l n else n+1
def Lx (l:List Nat)(n:Nat):Bv l n<=n:=by
 induction n with
 |zero=>simp[Bv]
 |succ n ih=>simp only[Bv];split<;>omega
def Pc (h:n≠0):(Aa n).getD ((Aa n).length-1) 0≠0:=by
 induction n using Nat.strongRecOn with
 |_ n ih =>
  rw[Dq h];by_cases a:n/1000000000=0
  ·rw[a,Bd];simp;omega
  have b:=ih _ oV a;have c:(Aa (n/1000000000)).length≠0:=by
   intro e;exact a (Gv.1 (A0a e))
  simp only[A0q,A3y];obtain⟨m,f⟩:∃ m,(Aa (n/1000000000)).length=m+1:=⟨_,(Nat.succ_pred_eq_of_ne_zero c).symm⟩;rw[f]at b⊢;simpa using b
def Aki (h:Low l)(j:l≠[]->l.getD (l.length-1) 0≠0):Aa (val l)=l:=by
 induction l with
 |nil=>simp[val,Bd]
 |cons d l ih =>
  have p:=h d mV;have g:Low l:=fun x o=>h x (by simp[o]);have c:l≠[]->l.getD (l.length-1) 0≠0:=by
   intro b;have:=j mV;obtain⟨m,k⟩:∃ m,l.length=m+1:=⟨l.length-1,by have:=A29.2 b;omega⟩;simp only[A0q,A3y,k]at this⊢;simpa using this
  have b:val (d::l)≠0:=by
   by_cases a:l = []
   ·subst a;have:=j mV;simp at this;simp[val];omega
   intro e;have f:=ih g c;simp only[val]at e;have:val l=0:=oV;rw[this,Bd]at f;exact a f.symm
  rw[Dq b];simp only[val];rw[show (d+1000000000*val l)%1000000000=d by omega,show (d+1000000000*val l)/1000000000=val l by omega,ih g c]
def T4 (l:List Nat)(n:Nat):val (l.take (Bv l n))=val (l.take n):=by
 induction n with
 |zero=>simp[Bv]
 |succ n ih =>
  simp only[Bv];split
  ·rename_i h;rw[ih,A9,h];simp
  rfl
def Ty (l:List Nat)(n:Nat)(h:Bv l n≠0):l.getD (Bv l n-1) 0≠0:=by
 induction n with
 |zero=>simp[Bv]at h
 |succ n ih =>
  simp only[Bv]at h⊢;split
  ·rename_i h0;rw[if_pos h0]at h;exact ih h
  rename_i h0;simpa using h0
def Jz (h:Low l):Aa (val l)=l.take (Bv l l.length):=by
 have e:val l=val (l.take (Bv l l.length)):=by rw[T4,Azj]
 rw[e];refine Aki (h.take _) (fun a=>?_);have b:=Lx l l.length;have h0:Bv l l.length≠0:=by intro c;rw[c]at a;simp at a
 have:=Ty l l.length h0;rw[Ay1,A2b b];rw[Ays,A1x,if_pos oV,<-Ays];exact this
def Uy:nl 0=0:=by simp[nl,Bd]
def Cy (n:Nat):n<1000000000^nl n:=by
 have:=K5 (An n);rwa[Al]at this
def Bc {n k : Nat} (h : n < 1000000000 ^ k) : nl n ≤ k := by
  induction k generalizing n with
  | zero => have : n = 0 := by simp at h; omega
            subst this; simp [Uy]
  | succ k ih =>
    by_cases h0 : n = 0
    · subst h0; simp [Uy]
    have : n / 1000000000 < 1000000000 ^ k := by
      rw [A05 oV]; rwa [A0d] at h
    have := ih this
    simp only [nl] at this ⊢
    rw [Dq h0]; simp; omega
def Cs {m n:Nat}(h:m<=n):nl m<=nl n:=Bc (A0r h (Cy n))
def Rg (h:n≠0):1000000000^(nl n-1)<=n:=by
 rcases Az8 n (1000000000^(nl n-1)) with a|a
 ·have:=Bc a;have b:nl n≠0:=by
   intro e;exact h (Gv.1 (A0a e))
  omega
 exact a
def Am9 (m n:Nat):nl (m+n)<=max (nl m) (nl n)+1:=by
 refine Bc ?_;have a:=Cy m;have b:=Cy n;have c:1000000000^nl m<=1000000000^max (nl m) (nl n):=Azr oV oV;have e:1000000000^nl n<=1000000000^max (nl m) (nl n):=Azr oV oV;rw[A0d];omega
def In (m n:Nat):nl (m*n)<=nl m+nl n:=by
 refine Bc ?_;rw[A3a];exact Nat.mul_lt_mul'' (Cy m) (Cy n)
end
section
variable {P:Nat->Nat}{R S:Nat->Nat->Int}{a b c j n r:Nat}{f:Nat->Int}{v:Int}
def B9:Nat->(Nat->Int)->Int
 |0,_=>0
 |n+1,f=>B9 n f+f n
def Cg {f g:Nat->Int}:∀ {n:Nat},(∀ j,j<n->f j=g j)->B9 n f=B9 n g
 |0,_=>rfl
 |n+1,h=>by rw[B9,B9,Cg fun j e=>h j oV,h n oV]
def Yq (h:∀ j,j<n->f j=0):B9 n f=0:=by
 induction n with
 |zero=>rfl
 |succ n ih=>rw[B9,ih fun j e=>h j oV,h n oV];rfl
def L3 {f g:Nat->Int}(a b:Int):∀ {n:Nat},B9 n (fun j=>a*f j+b*g j)=a*B9 n f+b*B9 n g
 |0=>by simp[B9]
 |n+1=>by rw[B9,B9,B9,L3 a b];grind
def Ww (l:j<n)(h:∀ t,t<n->t≠j->f t=0):B9 n f=f j:=by
 induction n with
 |zero=>omega
 |succ n ih =>
  rw[B9];by_cases e:j=n
  ·subst e;rw[Yq fun t k=>h t oV oV];omega
  rw[ih oV fun t k=>h t oV,h n oV (fun g=>e g.symm)];omega
def Aow (l:a+1<n)(h:∀ t,t<n->t≠a->t≠a+1->f t=0):B9 n f=f a+f (a+1):=by
 induction n with
 |zero=>omega
 |succ n ih =>
  rw[B9];by_cases e:a+1=n
  ·subst e;rw[Ww (j:=a) oV fun t k g=>h t oV g oV]
  rw[ih oV fun t k=>h t oV,h n oV oV oV];omega
def dsg:Nat->Int
 |0=>1
 |n+1=>- dsg n
def Aj6:∀ r:Nat,dsg (r+r)=1
 |0=>rfl
 |r+1=>by rw[show r+1+(r+1)=r+r+1+1 by omega,dsg,dsg,Aj6 r];rfl
def Fh (j:Nat)(C:Nat->Nat->Int):Nat->Nat->Int:=fun t=>if t<j then C t else C (t+1)
def dt:Nat->(Nat->Nat->Int)->Int
 |0,_=>1
 |r+1,C=>B9 (r+1) fun j=>dsg (r+j)*C j r*dt r (Fh j C)
def Jj:∀ {r:Nat} {C D:Nat->Nat->Int},(∀ t,t<r->∀ i,i<r->C t i=D t i)->dt r C=dt r D
 |0,_,_,_=>rfl
 |r+1,C,D,h=>by
  rw[dt,dt];refine Cg fun j e=>?_;rw[h j e r oV,Jj (D:=Fh j D)];intro t g i hi;unfold Fh;split
  ·exact h t oV i oV
  exact h (t+1) oV i oV
def Df (C:Nat->Nat->Int)(j:Nat)(x:Nat->Int):Nat->Nat->Int:=fun t=>if t=j then x else C t
def N5 (C:Nat->Nat->Int)(j:Nat)(x:Nat->Int):Fh j (Df C j x)=Fh j C:=by
 funext t
 unfold Fh Df;split
 ·rw[if_neg oV]
 rw[if_neg oV]
def Nq (C:Nat->Nat->Int)(h:j<a)(x:Nat->Int):Fh a (Df C j x)=Df (Fh a C) j x:=by
 funext t
 unfold Fh Df;by_cases e:t=j
 ·subst e;simp[h]
 simp only[e,if_false];split
 ·rfl
 rw[if_neg oV]
def Kn (C:Nat->Nat->Int)(h:a<j)(x:Nat->Int):Fh a (Df C j x)=Df (Fh a C) (j-1) x:=by
 funext t
 unfold Fh Df;by_cases e:t=j-1
 ·subst e;rw[if_neg oV,if_pos oV,if_pos rfl]
 simp only[e,if_false];split
 ·rw[if_neg oV]
 rw[if_neg oV]
def I4 (C:Nat->Nat->Int)(j:Nat)(x:Nat->Int):Df C j x j=x:=by simp[Df]
def Hy (C:Nat->Nat->Int){j t:Nat}(h:t≠j)(x:Nat->Int):Df C j x t=C t:=by simp[Df,h]
def On (C:Nat->Nat->Int)(j:Nat):Df C j (C j)=C:=by
 funext t
 unfold Df;split
 ·rename_i h;rw[h]
 rfl
def Nx (a b:Int)(x y:Nat->Int):∀ {r:Nat} (C:Nat->Nat->Int) {j:Nat},j<r->dt r (Df C j fun i=>a*x i+b*y i)=a*dt r (Df C j x)+b*dt r (Df C j y)
 |0,_,_,h=>oV
 |r+1,C,j,h=>by
  rw[dt,dt,dt,<-L3];refine Cg fun t k=>?_;by_cases e:t=j
  ·subst e;rw[N5,N5,N5,I4,I4,I4];grind
  rw[Hy C e,Hy C e,Hy C e];by_cases g:j<t
  ·rw[Nq C g,Nq C g,Nq C g,Nx a b x y (Fh t C) oV];grind
  have g:t<j:=oV;rw[Kn C g,Kn C g,Kn C g,Nx a b x y (Fh t C) oV];grind
def Aje (C:Nat->Nat->Int)(h:j<r):dt r (Df C j fun _=>0)=0:=by
 have:=Nx 0 0 (fun _=>0) (fun _=>0) C h;simpa using this
def Aay:∀ {r:Nat} {C:Nat->Nat->Int} {a:Nat},a+1<r->C a=C (a+1)->dt r C=0
 |0,_,_,h,_=>oV
 |r+1,C,a,h,e=>by
  rw[dt,Aow (a:=a) h]
  ·have:Fh a C=Fh (a+1) C:=by
    funext t
    unfold Fh;by_cases k:t=a
    ·subst k;simp[e]
    by_cases g:t<a
    ·rw[if_pos g,if_pos oV]
    rw[if_neg g,if_neg oV]
   rw[this,e,show r+(a+1)=(r+a)+1 by omega,dsg];grind
  intro t m k g;have:dt r (Fh t C)=0:=by
   by_cases l:t<a
   ·refine Aay (a:=a-1) oV ?_;unfold Fh;rw[if_neg oV,if_neg oV,show a-1+1=a by omega];exact e
   refine Aay (a:=a) oV ?_;unfold Fh;rw[if_pos oV,if_pos oV];exact e
  rw[this];simp
def swp (C:Nat->Nat->Int)(a:Nat):Nat->Nat->Int:=Df (Df C a (C (a+1))) (a+1) (C a)
def S0 (C:Nat->Nat->Int)(h:a≠b)(x y:Nat->Int):Df (Df C a x) b y=Df (Df C b y) a x:=by
 funext t
 unfold Df;by_cases e:t=a
 ·subst e;simp[h]
 simp[e]
def Aw6 (C:Nat->Nat->Int)(h:a+1<r):dt r (swp C a) = - dt r C:=by
 have k:a<r:=oV
 let D:(Nat->Int)->(Nat->Int)->Int:=fun x y=>dt r (Df (Df C a x) (a+1) y)
 have l2:∀ x y z,D x (fun i=>1*y i+1*z i)=1*D x y+1*D x z:=fun x y z=>Nx 1 1 y z _ h;have l:∀ x y z,D (fun i=>1*y i+1*z i) x=1*D y x+1*D z x:=fun x y z=>by
  show dt r (Df (Df C a _) (a+1) x)=1*dt r (Df (Df C a y) (a+1) x)+1*dt r (Df (Df C a z) (a+1) x);rw[S0 C (show a≠a+1 by omega) (fun i=>1*y i+1*z i) x,S0 C (show a≠a+1 by omega) y x,S0 C (show a≠a+1 by omega) z x];exact Nx 1 1 y z _ k
 have e:∀ x,D x x=0:=fun x=>Aay h (by rw[I4,Hy _ oV,I4]);have g:=e (fun i=>1*C a i+1*C (a+1) i);rw[l,l2,l2,e,e]at g;have m:D (C a) (C (a+1))=dt r C:=by
  show dt r (Df (Df C a (C a)) (a+1) (C (a+1)))=_;rw[On,On]
 have o:D (C (a+1)) (C a)=dt r (swp C a):=rfl;omega
def Am3 {r:Nat}:∀ {d:Nat} {C:Nat->Nat->Int} {a:Nat},a+d+1<r->C a=C (a+d+1)->dt r C=0
 |0,_,_,h,e=>Aay h e
 |d+1,C,a,h,e=>by
  have:=Aw6 C (a:=a+d+1) (r:=r) oV;rw[Am3 (d:=d) (C:=swp C (a+d+1)) (a:=a) oV]at this
  ·omega
  unfold swp;rw[Hy _ oV,Hy _ oV,Hy _ oV,I4];exact e
def Ajq {C:Nat->Nat->Int}(g:a<r)(k:b<r)(l:a≠b)(e:C a=C b):dt r C=0:=by
 by_cases h:a<b
 ·exact Am3 (d:=b-a-1) (a:=a) oV (by rw[show a+(b-a-1)+1=b by omega];exact e)
 exact Am3 (d:=a-b-1) (a:=b) oV (by rw[show b+(a-b-1)+1=a by omega];exact e.symm)
def Ag5 {r:Nat}(C:Nat->Nat->Int){j:Nat}(h:j<r)(a:Nat->Int)(X:Nat->Nat->Int):∀ n:Nat,dt r (Df C j fun i=>B9 n fun t=>a t*X t i)=B9 n fun t=>a t*dt r (Df C j (X t))
 |0=>Aje C h
 |n+1=>by
  have:=Nx 1 (a n) (fun i=>B9 n fun t=>a t*X t i) (X n) C h;rw[Ag5 C h a X n]at this;simp only[B9];rw[A9g]at this;rw[<-this]
  congr 2
  funext i
  rw[A9g]
def Ak9 (C:Nat->Nat->Int)(h:j<r)(a:Nat->Int):dt r (Df C j fun i=>B9 r fun t=>a t*C t i)=a j*dt r C:=by
 rw[Ag5 C h,Ww h,On];intro t k g;rw[Ajq (a:=j) (b:=t) h k (fun e=>g e.symm) (by rw[I4,Hy _ g]),Int.mul_zero]
def Aq2 (C:Nat->Nat->Int)(e:Nat->Int)(h:∀ i,i<r->e i=0):dt (r+1) (Df C r e)=e r*dt r C:=by
 rw[dt,Ww (j:=r) oV]
 ·rw[Aj6,I4,A9g,Jj (C:=Fh r (Df C r e)) (D:=C)];intro t g i hi;unfold Fh;rw[if_pos g,Hy _ oV]
 intro t g k;rw[Kn C (by omega:t<r),Jj (D:=Df (Fh t C) (r-1) fun _=>0)]
 ·rw[Aje _ oV];simp
 intro s l i hi;unfold Df;split
 ·exact h i hi
 rfl
structure Bar (n:Nat)(R:Nat->Nat->Int)(P:Nat->Nat)(r:Nat)(v:Int)(S:Nat->Nat->Int):Prop where
 v0:v≠0
 d:dt r (fun j i=>R i (P j))=v
 lo:∀ i,i<r->∀ k,B9 r (fun j=>S j k*R i (P j))=v*R i k
 hi:∀ i,r<=i->i<n->∀ k,S i k=v*R i k-B9 r (fun j=>S j k*R i (P j))
def Bar.init (n:Nat)(R:Nat->Nat->Int)(P:Nat->Nat):Bar n R P 0 1 R:=⟨fV,rfl,fun i h=>oV,fun i _ _ k=>by simp[B9]⟩
def Ao8 (a:Int)(f:Nat->Int)(n:Nat):B9 n (fun j=>a*f j)=a*B9 n f:=by
 have:=L3 (f:=f) (g:=f) a 0 (n:=n);simp only[Int.zero_mul,Int.add_zero]at this;exact this
def Kk {v a b:Int}(e:v≠0)(h:v*a=v*b):a=b:=A7j e h
def Bar.num (h:Bar n R P r v S)(l:r<n)(c:Nat)(i k:Nat)(hi:i<=r) :
 B9 r (fun j=>(S j k*S r c-S j c*S r k)*R i (P j))+v*S r k*R i c=v*(S r c*R i k):=by
 have e:B9 r (fun j=>(S j k*S r c-S j c*S r k)*R i (P j))=S r c*B9 r (fun j=>S j k*R i (P j))+(- S r k)*B9 r (fun j=>S j c*R i (P j)):=by
  rw[<-L3];exact Cg fun j _=>by grind
 rw[e];by_cases g:i<r
 ·rw[h.lo i g,h.lo i g];grind
 obtain rfl:i=r:=oV;have m:=h.hi i (Ay2 _) l k;have o:=h.hi i (Ay2 _) l c;grind
def Kq (P:Nat->Nat)(r c:Nat):Nat->Nat:=fun j=>if j=r then c else P j
def Bar.det (h:Bar n R P r v S)(q:r<n)(c:Nat) :
 dt (r+1) (fun j i=>R i (Kq P r c j))=S r c:=by
 let C:Nat->Nat->Int:=fun j i=>R i (Kq P r c j)
 have g:C r=fun i=>R i c:=by funext i;simp[C,Kq]
 have e:∀ j,j<r->C j=fun i=>R i (P j):=fun j l=>by funext i;simp[C,Kq,show j≠r by omega]
 have k:dt (r+1) (Df C r (fun i=>v*C r i+(-1)*B9 r (fun j=>S j c*C j i)))=v*dt (r+1) C:=by
  rw[Nx v (-1) (C r) _ C oV,On,Ag5 C oV];rw[Yq]
  ·grind
  intro t m;rw[Ajq (a:=t) (b:=r) oV oV oV (by rw[I4,Hy _ oV]),Int.mul_zero]
 have es:∀ i,B9 r (fun j=>S j c*C j i)=B9 r (fun j=>S j c*R i (P j)):=fun i=>Cg fun j l=>by rw[e j l]
 rw[Aq2 C _ (fun i hi=>by
  show v*C r i+(-1)*B9 r (fun j=>S j c*C j i)=0;rw[es,h.lo i hi,g];grind)]at k
 have o:dt r C=v:=by
  rw[<-h.d];exact Jj fun t m i hi=>by rw[e t m]
 have p:v*C r r+(-1)*B9 r (fun j=>S j c*C j r)=S r c:=by
  rw[es,g];have:=h.hi r (Ay2 _) q c;grind
 simp only[p,o]at k;refine Kk h.v0 ?_;show v*dt (r+1) C=_;grind
def Bar.dvd (h:Bar n R P r v S)(m:r<n)(s:S r c≠0)(j k:Nat)(x:j<r) :
 v ∣ S j k*S r c-S j c*S r k:=by
 let C:Nat->Nat->Int:=fun j i=>R i (Kq P r c j)
 have l:∀ i,C r i=R i c:=fun i=>by simp[C,Kq]
 have e:∀ j,j<r->∀ i,C j i=R i (P j):=fun j x i=>by simp[C,Kq,show j≠r by omega]
 have u:dt (r+1) C=S r c:=h.det m c;have p:=Ak9 C (show j<r+1 by omega) (fun t=>if t=r then v*S r k else S t k*S r c-S t c*S r k);have q:dt (r+1) (Df C j fun i=>B9 (r+1) fun t=>(if t=r then v*S r k else S t k*S r c-S t c*S r k)*C t i)=dt (r+1) (Df C j fun i=>(v*S r c)*R i k+0*R i k):=by
  refine Jj fun t o i hi=>?_;unfold Df;split
  ·simp only[B9,if_true,l];have:=h.num m c i k oV;rw[Cg (g:=fun j=>(S j k*S r c-S j c*S r k)*R i (P j)) (fun t o=>by rw[if_neg oV,e t o])];grind
  rfl
 rw[q,Nx _ _ _ _ C oV,u,if_neg oV]at p;refine⟨dt (r+1) (Df C j fun i=>R i k),Kk s ?_⟩;grind
def Aen {v:Int}{f:Nat->Int}:∀ {n:Nat},(∀ j,j<n->v ∣ f j)->v ∣ B9 n f
 |0,_=>⟨0,by simp[B9]⟩
 |n+1,h=>Int.dvd_add (Aen fun j e=>h j oV) (h n oV)
def Bar.dvdAll (h:Bar n R P r v S)(l:r<n)(g:S r c≠0)(i k:Nat)(hi:i<n)(u:i≠r) :
 v ∣ S i k*S r c-S i c*S r k:=by
 by_cases o:i<r
 ·exact h.dvd l g i k o
 have s:=h.hi i oV hi k;have t:=h.hi i oV hi c;have e:B9 r (fun j=>(S j k*S r c-S j c*S r k)*R i (P j))=S r c*B9 r (fun j=>S j k*R i (P j))+(- S r k)*B9 r (fun j=>S j c*R i (P j)):=by
  rw[<-L3];exact Cg fun j _=>by grind
 obtain⟨q,p⟩:v ∣ B9 r (fun j=>(S j k*S r c-S j c*S r k)*R i (P j)):=Aen fun j m=>Int.dvd_mul_of_dvd_left (h.dvd l g j k m);rw[p]at e;exact⟨S r c*R i k-S r k*R i c-q,by grind⟩
def Bar.step {n:Nat}{R:Nat->Nat->Int}{P:Nat->Nat}{r:Nat}{v:Int}{S:Nat->Nat->Int}(h:Bar n R P r v S)(q:r<n){c:Nat}(x:S r c≠0){S':Nat->Nat->Int}
 (hp:∀ k,S' r k=S r k) (s:∀ i,i<n->i≠r->∀ k,v*S' i k=S i k*S r c-S i c*S r k):Bar n R (Kq P r c) (r+1) (S r c) S':=by
 have t:=h.v0;have u:∀ j,j<r->Kq P r c j=P j:=fun j o=>by simp[Kq,show j≠r by omega]
 have m:Kq P r c r=c:=by simp[Kq]
 have e:∀ i k,v*B9 r (fun j=>S' j k*R i (P j))=B9 r (fun j=>(S j k*S r c-S j c*S r k)*R i (P j)):=fun i k=>by
  rw[<-Ao8];exact Cg fun j o=>by rw[<-s j oV oV];grind
 have p:∀ i k,B9 (r+1) (fun j=>S' j k*R i (Kq P r c j))=B9 r (fun j=>S' j k*R i (P j))+S r k*R i c:=fun i k=>by
  rw[B9,m,hp,Cg (g:=fun j=>S' j k*R i (P j)) fun j o=>by rw[u j o]]
 refine⟨x,h.det q c,fun i hi k=>?_,fun i A l k=>?_⟩
 ·refine Kk t ?_;rw[p,A9h,e];have:=h.num q c i k oV;grind
 refine Kk t ?_;rw[p,s i l oV];have B:=e i k;have y:B9 r (fun j=>(S j k*S r c-S j c*S r k)*R i (P j))=S r c*B9 r (fun j=>S j k*R i (P j))+(- S r k)*B9 r (fun j=>S j c*R i (P j)):=by
  rw[<-L3];exact Cg fun j _=>by grind
 have C:=h.hi i oV l k;have D:=h.hi i oV l c;grind
def rsw (F:Nat->Nat->Int)(p q:Nat):Nat->Nat->Int:=fun i=>if i=p then F q else if i=q then F p else F i
def Bar.swap (h:Bar n R P r v S){p:Nat}(u:r<=p)(x:p<n):Bar n (rsw R p r) P r v (rsw S p r):=by
 have m:∀ F:Nat->Nat->Int,∀ i,i<r->rsw F p r i=F i:=fun F i hi=>by simp[rsw,show i≠p by omega,show i≠r by omega]
 refine⟨h.v0,?_,fun i hi k=>?_,fun i hi y k=>?_⟩
 ·rw[<-h.d];exact Jj fun t _ i hi=>by rw[m R i hi]
 ·rw[m R i hi,<-h.lo i hi];exact Cg fun j q=>by rw[m S j q]
 have:∀ l,r<=l->l < n->rsw S p r i=S l->rsw R p r i=R l->rsw S p r i k=v*rsw R p r i k-B9 r (fun j=>rsw S p r j k*rsw R p r i (P j)):=fun l a b s g=>by
  rw[s,g,h.hi l a b]
  congr 1
  exact Cg fun j q=>by rw[m S j q]
 by_cases e:i=p
 ·exact this r (Ay2 _) oV (by simp[rsw,e]) (by simp[rsw,e])
 by_cases g:i=r
 ·exact this p u x (by simp[rsw,g];intro o;rw[o]) (by simp[rsw,g];intro o;rw[o])
 exact this i hi y (by simp[rsw,e,g]) (by simp[rsw,e,g])
end
section
variable {R:Nat->Nat->Int}{X:List (List Int)}{i j n p r w:Nat}{l:List Int}
def gZ (l:List Int)(j:Nat):Int:=l.getD j 0
def gMZ (X:List (List Int))(i:Nat):List Int:=X.getD i []
def enZ (X:List (List Int))(i j:Nat):Int:=gZ (gMZ X i) j
def Gs (n w:Nat)(X:List (List Int)):Prop:=X.length=n/\∀ i,i<n->(gMZ X i).length=w
def Z7 (h:j<l.length):gZ l j=l[j]:=by unfold gZ;rw[Ays,Ayr h];rfl
def Aai (h:l.length<=j):gZ l j=0:=by unfold gZ;rw[Ays,Azo h];rfl
def Pq (h:i<X.length):gMZ X i=X[i]:=by unfold gMZ;rw[Ays,Ayr h];rfl
def Mf {i k:Nat}{r:List Int}(h:i<X.length):gMZ (X.set i r) k=if i=k then r else gMZ X k:=by
 unfold gMZ;rw[Ays,A1g,Ays];by_cases e:i=k
 ·rw[if_pos e,if_pos e,if_pos h];rfl
 rw[if_neg e,if_neg e]
def Awv (f:Nat->Int)(h:j<n):gZ ((List.range n).map f) j=f j:=by
 rw[Z7 (by simpa using h)];simp
def Io (X:List (List Int))(c:Nat):Nat->Nat->Nat
 |0,p=>p
 |f+1,p=>if enZ X p c=0 then Io X c f (p+1) else p
def Ki (X:List (List Int))(p r:Nat):List (List Int):=(X.set p (gMZ X r)).set r (gMZ X p)
def Pn (v a g:Int)(R row:List Int):List Int:=(List.range row.length).map fun k=>(gZ row k*a-g*gZ R k)/v
def N4 (r c:Nat)(v:Int):Nat->Nat->List (List Int)->List (List Int)
 |0,_,X=>X
 |f+1,i,X=>N4 r c v f (i+1) (if i=r then X else X.set i (Pn v (enZ X r c) (enZ X i c) (gMZ X r) (gMZ X i)))
structure BZ where
 X:List (List Int)
 P:List Nat
 v:Int
 odd:Bool
def Is (n c:Nat)(s:BZ):BZ :=
 if Io s.X c (n-s.P.length) s.P.length=n then s
 else ⟨N4 s.P.length c s.v n 0 (if Io s.X c (n-s.P.length) s.P.length=s.P.length then s.X else Ki s.X (Io s.X c (n-s.P.length) s.P.length) s.P.length),s.P++[c],
  enZ s.X (Io s.X c (n-s.P.length) s.P.length) c,if Io s.X c (n-s.P.length) s.P.length=s.P.length then s.odd else !s.odd⟩
def Iq (n:Nat):Nat->Nat->BZ->BZ
 |0,_,s=>s
 |f+1,c,s=>Iq n f (c+1) (Is n c s)
def Abp (X:List (List Int))(c:Nat):∀ f p,p<=Io X c f p/\Io X c f p<=p+f
 |0,p=>by simp[Io]
 |f+1,p=>by
  unfold Io;split
  ·have:=Abp X c f (p+1);omega
  omega
def Y0 (X:List (List Int))(c:Nat):∀ f p i,p<=i->i<Io X c f p->enZ X i c=0
 |0,p,i,h1,h2=>by simp[Io]at h2;omega
 |f+1,p,i,h1,h2=>by
  unfold Io at h2;split at h2
  ·rename_i h;by_cases e:i=p
   ·subst e;exact h
   exact Y0 X c f (p+1) i oV h2
  omega
def Aad (X:List (List Int))(c:Nat):∀ f p,Io X c f p<p+f->enZ X (Io X c f p) c≠0
 |0,p,h=>by simp[Io]at h
 |f+1,p,h=>by
  unfold Io at h⊢;split at h
  ·rename_i h0;rw[if_pos h0];exact Aad X c f (p+1) oV
  rename_i h0;rw[if_neg h0];exact h0
def Ng {r:List Int}(h:Gs n w X)(hi:i<n)(b:r.length=w):Gs n w (X.set i r):=by
 refine⟨by simp[h.1],fun j a=>?_⟩;rw[Mf (by rw[h.1];exact hi)];split
 ·exact b
 exact h.2 j a
def Sj (h:Gs n w X)(hp:p<n)(a:r<n):Gs n w (Ki X p r) :=
 Ng (Ng h hp (h.2 r a)) a (h.2 p hp)
def Ve (h:Gs n w X)(hp:p<n)(b:r<n)(i:Nat):gMZ (Ki X p r) i=if i=r then gMZ X p else if i=p then gMZ X r else gMZ X i:=by
 unfold Ki;rw[Mf (by simp[h.1];exact b),Mf (by rw[h.1];exact hp)];by_cases e:r=i
 ·rw[if_pos e,if_pos e.symm]
 rw[if_neg e,if_neg (show ¬ i=r by omega)];by_cases a:p=i
 ·rw[if_pos a,if_pos a.symm]
 rw[if_neg a,if_neg (show ¬ i=p by omega)]
def Rs (v a g:Int)(R row:List Int):(Pn v a g R row).length=row.length:=by simp[Pn]
def Abg (v a g:Int)(R row:List Int)(h:R.length=row.length)(j:Nat):gZ (Pn v a g R row) j=(gZ row j*a-g*gZ R j)/v:=by
 by_cases b:j<row.length
 ·unfold Pn;exact Awv _ b
 rw[Aai (by rw[Rs];omega),Aai (l:=row) oV,Aai (l:=R) oV];simp
def V3 {n w r c:Nat}{v:Int}(a:r<n):∀ f i X,i+f<=n->Gs n w X->Gs n w (N4 r c v f i X)
 |0,i,X,_,h=>h
 |f+1,i,X,hf,h=>by
  unfold N4;refine V3 a f (i+1) _ oV ?_;split
  ·exact h
  exact Ng h oV (by rw[Rs];exact h.2 i oV)
def Re {n w r c:Nat}{v:Int}(m:r<n):∀ f i X,i+f<=n->Gs n w X->∀ k,gMZ (N4 r c v f i X) k=if i<=k/\k<i+f/\k≠r then Pn v (enZ X r c) (enZ X k c) (gMZ X r) (gMZ X k) else gMZ X k
 |0,i,X,_,h,k=>by rw[if_neg oV];rfl
 |f+1,i,X,hf,h,k=>by
  unfold N4;by_cases e:i=r
  ·rw[if_pos e,Re m f (i+1) X oV h k];by_cases a:i+1<=k/\k<i+1+f/\k≠r
   ·rw[if_pos a,if_pos ⟨oV,oV,a.2.2⟩]
   rw[if_neg a,if_neg oV]
  have o:Gs n w (X.set i (Pn v (enZ X r c) (enZ X i c) (gMZ X r) (gMZ X i))):=Ng h oV (by rw[Rs];exact h.2 i oV);have g:i<X.length:=by rw[h.1];omega
  rw[if_neg e,Re m f (i+1) _ oV o k];unfold enZ;rw[Mf g,Mf g,if_neg e];by_cases a:i=k
  ·subst a;rw[if_neg oV,if_pos rfl,if_pos ⟨oV,oV,e⟩]
  rw[if_neg a];by_cases b:i+1<=k/\k<i+1+f/\k≠r
  ·rw[if_pos b,if_pos ⟨oV,oV,b.2.2⟩]
  rw[if_neg b,if_neg oV]
def Aio (n:Nat)(A R:Nat->Nat->Int):Prop:=∀ i,i<n->∃ j,j<n/\A i=R j
def Aio.swap {A R:Nat->Nat->Int}(h:Aio n A R)(hp:p<n)(f:r<n):Aio n A (rsw R p r):=fun i hi=>by
 obtain⟨j,c,e⟩:=h i hi;by_cases b:j=p
 ·subst b;refine⟨r,f,?_⟩;unfold rsw;by_cases a:r=j
  ·rw[if_pos a,e,a]
  rw[if_neg a,if_pos rfl,e]
 by_cases a:j=r
 ·subst a;exact⟨p,hp,by unfold rsw;rw[if_pos rfl,e]⟩
 exact⟨j,c,by unfold rsw;rw[if_neg b,if_neg a,e]⟩
structure Akz (n w:Nat)(A:Nat->Nat->Int)(c:Nat)(s:BZ):Prop where
 rc:Gs n w s.X
 len:s.P.length=c
 bar:∃ R,Aio n A R/\Bar n R (fun j=>j) c s.v (enZ s.X)
def Ahy {P Q:Nat->Nat}{v:Int}{S:Nat->Nat->Int}(h:Bar n R P r v S)(e:∀ j,j<r->P j=Q j):Bar n R Q r v S:=by
 refine⟨h.v0,?_,fun i hi k=>?_,fun i b c k=>?_⟩
 ·rw[<-h.d];exact Jj fun t f i _=>by rw[e t f]
 ·rw[<-h.lo i hi];exact Cg fun j a=>by rw[e j a]
 rw[h.hi i b c];congr 1;exact Cg fun j a=>by rw[e j a]
def Ker (n:Nat)(A:Nat->Nat->Int):Prop:=∃ y:Nat->Int,(∃ j,j<n/\y j≠0)/\∀ i,i<n->B9 n (fun j=>y j*A i j)=0
def Akz.step {n w:Nat}{A:Nat->Nat->Int}{c:Nat}{s:BZ}(h:Akz n w A c s)(f:c<n):Akz n w A (c+1) (Is n c s)\/(Ker n A/\Is n c s=s):=by
 obtain⟨g,x,R,u,b⟩:=h;unfold Is;obtain⟨N,W⟩:=Abp s.X c (n-s.P.length) s.P.length;have O:=Y0 s.X c (n-s.P.length) s.P.length;have Q:=Aad s.X c (n-s.P.length) s.P.length;generalize Io s.X c (n-s.P.length) s.P.length=p at *
 rw[x]at N W O Q⊢;by_cases e:p=n
 ·rw[if_pos e];refine .inr ⟨?_,rfl⟩;have V:∀ i,c<=i->i<n->enZ s.X i c=0:=fun i y K=>O i y oV;refine⟨fun j=>if j<c then enZ s.X j c else if j=c then-s.v else 0,⟨c,f,by simp;exact b.v0⟩,fun i hi=>?_⟩;obtain⟨C,H,D⟩:=u i hi;rw[D];have key:∀ m,m<=n->B9 m (fun j=>(if j<c then enZ s.X j c else if j=c then-s.v else 0)*R C j)=B9 (min m c) (fun j=>enZ s.X j c*R C j)+if c<m then-s.v*R C c else 0:=by
   intro m;induction m with
   |zero=>intro _;simp[B9]
   |succ m ih =>
    intro Z;rw[B9,ih oV];by_cases y:m<c
    ·rw[if_pos y,if_neg oV,if_neg oV,show min m c=m by omega,show min (m+1) c=m+1 by omega,B9];omega
    by_cases K:m=c
    ·subst K;rw[if_neg y,if_pos rfl,if_neg oV,if_pos oV,show min m m=m by omega,show min (m+1) m=m by omega];omega
    rw[if_neg y,if_neg K,if_pos oV,if_pos oV,show min m c=c by omega,show min (m+1) c=c by omega];omega
  rw[key n (Ay2 _),show min n c=c by omega,if_pos f];by_cases y:C < c
  ·rw[b.lo C y];grind
  have:=b.hi C oV H c;rw[V C oV H]at this;grind
 rw[if_neg e];have hp:p<n:=oV;have L:=Q oV;refine .inl ?_;have a:Gs n w (if p=c then s.X else Ki s.X p c):=by
  split
  ·exact g
  exact Sj g hp f
 have o:∀ i,gMZ (if p=c then s.X else Ki s.X p c) i=if i=c then gMZ s.X p else if i=p then gMZ s.X c else gMZ s.X i:=fun i=>by
  by_cases D:p=c
  ·rw[if_pos D];by_cases q:i=c
   ·rw[if_pos q,q,D]
   rw[if_neg q,if_neg oV]
  rw[if_neg D];exact Ve g hp f i
 have F:enZ (if p=c then s.X else Ki s.X p c)=rsw (enZ s.X) p c:=by
  funext i k
  unfold enZ rsw;rw[o];by_cases q:i=p
  ·rw[if_pos q];by_cases t:i=c
   ·rw[if_pos t,show p=c by omega,t];simp
   rw[if_neg t,if_pos q]
  rw[if_neg q,if_neg q];by_cases t:i=c
  ·rw[if_pos t,if_pos t]
  rw[if_neg t,if_neg t]
 have B:=b.swap N hp;rw[<-F]at B;have I:enZ (if p=c then s.X else Ki s.X p c) c c=enZ s.X p c:=by unfold enZ;rw[o,if_pos rfl]
 generalize (if p=c then s.X else Ki s.X p c)=X1 at *
 have E:enZ X1 c c≠0:=by rw[I];exact L
 refine⟨V3 f n 0 X1 oV a,by simp[x],_,u.swap hp f,?_⟩;dsimp only;rw[<-I];have T:=fun i k hi J=>B.dvdAll f E i k hi J;have U:=B.step f E (S':=enZ (N4 c c s.v n 0 X1)) (fun k=>by unfold enZ;rw[Re f n 0 X1 oV a,if_neg oV]) (fun i hi J k=>by
  show s.v*gZ (gMZ (N4 c c s.v n 0 X1) i) k=_;rw[Re f n 0 X1 oV a,if_pos ⟨oV,oV,J⟩,Abg _ _ _ _ _ (by rw[a.2 c f,a.2 i hi])];exact Int.mul_ediv_cancel' (T i k hi J))
 exact Ahy U fun j Y=>by unfold Kq;dsimp only;split<;>omega
def Atq {n c:Nat}{s:BZ}:(Is n c s).P.length<=s.P.length+1:=by
 unfold Is;split
 ·omega
 simp
def Ajk {n:Nat}:∀ (f c:Nat) (s:BZ),(Iq n f c s).P.length<=s.P.length+f
 |0,c,s=>by simp[Iq]
 |f+1,c,s=>by
  unfold Iq;have:=Ajk (n:=n) f (c+1) (Is n c s);have:=Atq (n:=n) (c:=c) (s:=s);omega
def Aja {n w:Nat}{A:Nat->Nat->Int}:∀ (f c:Nat) (s:BZ),c+f=n->Akz n w A c s->Akz n w A n (Iq n f c s)\/(Ker n A/\(Iq n f c s).P.length<n)
 |0,c,s,h,hf=>.inl (by
  have:c=n:=oV;subst this;exact hf)
 |f+1,c,s,h,hf=>by
  unfold Iq;rcases hf.step oV with a|⟨a,b⟩
  ·exact Aja f (c+1) _ oV a
  refine .inr ⟨a,?_⟩;rw[b];have:=Ajk (n:=n) f (c+1) s;have:=hf.len;omega
def Aft (h:Gs n w X):((Iq n n 0 ⟨X,[],1,false⟩).P.length=n/\Gs n w (Iq n n 0 ⟨X,[],1,false⟩).X/\(Iq n n 0 ⟨X,[],1,false⟩).v≠0 /\
 ∀ i,i<n->∀ k,B9 n (fun j=>enZ (Iq n n 0 ⟨X,[],1,false⟩).X j k*enZ X i j)=(Iq n n 0 ⟨X,[],1,false⟩).v*enZ X i k) \/
 (Ker n (enZ X)/\(Iq n n 0 ⟨X,[],1,false⟩).P.length<n):=by
 have h0:Akz n w (enZ X) 0 ⟨X,[],1,false⟩:=⟨h,rfl,enZ X,fun i hi=>⟨i,hi,rfl⟩,Bar.init n _ _⟩;rcases Aja n 0 _ oV h0 with ⟨a,f,R,g,c⟩|a
 ·refine .inl ⟨f,a,c.v0,fun i hi k=>?_⟩;obtain⟨m,b,e⟩:=g i hi;rw[e];exact c.lo m b k
 exact .inr a
def zs (K:Nat):Nat->Nat
 |0=>K
 |r+1=>2*zs K r+2
end
section
variable {e g:Nat}{o:Obj}{w:World}
abbrev PH:=Nat->Option Obj
def PH.mt:PH:=fun _=>none
def E5 (x:PH)(w:World):Prop:=∀ g o,x g=some o->w.heap[g]?=some o
def Lp (x y:PH):Prop:=∀ g,x g=none\/y g=none
def PH.le (x y:PH):Prop:=∀ g o,x g=some o->y g=some o
def Ad7 (u:PH)(w:World):Prop:=∀ (g:Nat) (cs:Array Value) (t:TypeId) (fr:Nat×Nat) (j:Nat) (z:Int),w.heap[g]?=some (.cells cs t fr)->cs[j]?=some (.int .u64 z)->u g=some (.cells cs t fr)
structure Bo (u m:PH)(w:World):Prop where
 pu:E5 u w
 pm:E5 m w
 ap:Lp u m
 cl:Ad7 u w
class Cc where
 on:Prop
instance (priority:=low) Cc.no:Cc:=⟨False⟩
structure Nc (w w':World):Prop where
 tape:w'.tape=w.tape
 dr:w.drawn<=w'.drawn
def Nc.refl (w:World):Nc w w:=⟨rfl,Ay2 _⟩
def Nc.trans {a b c:World}(h:Nc a b)(k:Nc b c):Nc a c:=⟨k.tape.trans h.tape,Ayv h.dr k.dr⟩
variable [Fl:Cc]
structure Br (u m:PH)(w:World)(u' m':PH)(w':World):Prop where
 sz:w.heap.size<=w'.heap.size
 old:∀ g,g<w.heap.size->m g=none->w'.heap[g]?=w.heap[g]?
 us:∀ g,g<w.heap.size->u' g=u g
 ms:∀ g,g<w.heap.size->m g=none->m' g=none
 io:w'.os=w.os/\w'.output=w.output
 dr:Fl.on->Nc w w'
def A3 (h:w.heap[g]?=some o):g<w.heap.size:=by
 rcases Az8 g w.heap.size with a|a
 ·exact a
 simp[A1w a]at h
def E5.lt {x:PH}(h:E5 x w)(a:x g=some o):g<w.heap.size:=A3 (h g o a)
def E5.none {x:PH}{w:World}(h:E5 x w){g:Nat}(a:w.heap.size<=g):x g=none:=by
 cases hx:x g with
 |none=>rfl
 |some o=>have:=h.lt hx;omega
def Br.refl (u m:PH)(w:World):Br u m w u m w:=⟨Ay2 _,fun _ _ _=>rfl,fun _ _=>rfl,fun _ _ h=>h,⟨rfl,rfl⟩,fun _=>Nc.refl w⟩
def Br.trans {u m l c n j:PH}{w p q:World}(h:Br u m w l c p)(k:Br l c p n j q):Br u m w n j q :=
 ⟨Ayv h.sz k.sz,fun g a b=>(k.old g (A0k a h.sz) (h.ms g a b)).trans (h.old g a b),
  fun g a=>(k.us g (A0k a h.sz)).trans (h.us g a),fun g a b=>k.ms g (A0k a h.sz) (h.ms g a b),⟨k.io.1.trans h.io.1,k.io.2.trans h.io.2⟩,fun f=>(h.dr f).trans (k.dr f)⟩
def Br.le {u m b c:PH}{w w':World}(h:Br u m w b c w')(hp:E5 u w):PH.le u b :=
 fun g o a=>by rw[h.us g (hp.lt a)];exact a
def PH.le_refl (u:PH):PH.le u u:=fun _ _ h=>h
def PH.le.trans {u v x:PH}(h:PH.le u v)(k:PH.le v x):PH.le u x:=fun g o a=>k g o (h g o a)
inductive SV where
 |junk
 |v (x:Value)
 |p (k off:Nat)
def SV.den (ρ:Nat->Nat):SV->Value
 |.junk=>undef
 |.v x=>x
 |.p k off=>.pointer (some ⟨ρ k,off,none⟩)
structure Blk where
 t:TypeId
 cells:List SV
structure S where
 n:Nat
 tm:Nat->SV
 hp:Nat->Option Blk
def S.put (s:S)(d:Option Nat)(x:SV):S :=
 match d with
 |none=>s
 |some d=>{ s with tm:=fun e=>cond (Nat.beq e d) x (s.tm e) }
def S.setb (s:S)(w:Option (Nat×Blk)):S :=
 match w with
 |none=>s
 |some (k,b)=>{ s with hp:=fun j=>cond (Nat.beq j k) (some b) (s.hp j) }
def S.ev (s:S):Operand->SV
 |.tmp t=>s.tm t
 |.const v=>.v v
 |.global g=>.v (.pointer (some ⟨g,0,none⟩))
 |.func f=>.v (.func (.func f) #[] #[])
def A4 (s:S)(d:Nat)(x:SV):(s.put (some d) x).tm d=x:=by simp[S.put]
def Ck (s:S)(d:Nat)(x:SV)(h:e≠d):(s.put (some d) x).tm e=s.tm e:=by
 have:Nat.beq e d=false:=by rw[<-A7l];exact fun a=>h (Azp a)
 simp[S.put,this]
def F6 (s:S)(d:Option Nat)(x:SV)(h:d≠some e):(s.put d x).tm e=s.tm e:=by
 cases d with
 |none=>rfl
 |some d=>exact Ck s d x (fun a=>h (by rw[a]))
def Dg (s:S)(d:Option Nat)(x:SV):(s.put d x).hp=s.hp:=by cases d<;>rfl
def Fk (s:S)(w:Option (Nat×Blk)):(s.setb w).tm=s.tm:=by rcases w with _|⟨k,b⟩<;>rfl
def Bp (s:S)(k:Nat)(b:Blk):(s.setb (some (k,b))).hp k=some b:=by simp[S.setb]
def Bh (s:S)(k:Nat)(b:Blk){j:Nat}(h:j≠k):(s.setb (some (k,b))).hp j=s.hp j:=by
 have:Nat.beq j k=false:=by rw[<-A7l];exact fun a=>h (Azp a)
 simp[S.setb,this]
def Zo (s:S)(d:Option Nat)(x:SV):(s.put d x).n=s.n:=by cases d<;>rfl
def St (s:S)(w:Option (Nat×Blk)):(s.setb w).n=s.n:=by rcases w with _|⟨k,b⟩<;>rfl
def S.ext' {s t:S}(a:s.n=t.n)(h:s.tm=t.tm)(k:s.hp=t.hp):s=t:=by cases s;cases t;simp_all
def Aed (s:S){d e:Option Nat}(x y:SV)(h:∀ k,d=some k->e≠some k):(s.put d x).put e y=(s.put e y).put d x:=by
 refine S.ext' (by simp only[Zo]) (funext fun i=>?_) (by simp only[Dg]);by_cases b:d=some i
 ·have a:e≠some i:=h i b;subst b;rw[F6 _ _ _ a,A4,A4]
 rw[F6 _ d x b];by_cases a:e=some i
 ·subst a;rw[A4,A4]
 rw[F6 _ _ _ a,F6 _ _ _ a,F6 _ _ _ b]
def Rw (s:S)(d:Option Nat)(x:SV)(w:Option (Nat×Blk)):(s.setb w).put d x=(s.put d x).setb w:=by
 cases d<;>rcases w with _|⟨k,b⟩<;>rfl
def Alv (s:S)(w w':Option (Nat×Blk))(h:∀ k b a b',w=some (k,b)->w'=some (a,b')->k≠a):(s.setb w).setb w'=(s.setb w').setb w:=by
 rcases w with _|⟨k,b⟩
 ·rfl
 rcases w' with _|⟨a,b'⟩
 ·rfl
 have j:=h k b a b' rfl rfl;refine S.ext' rfl rfl (funext fun i=>?_);by_cases c:i=k
 ·subst c;rw[Bh _ _ _ j,Bp,Bp]
 by_cases f:i=a
 ·subst f;rw[Bp,Bh _ _ _ c,Bp]
 rw[Bh _ _ _ f,Bh _ _ _ c,Bh _ _ _ c,Bh _ _ _ f]
def Aqk (ρ:Nat->Nat)(b:Blk)(o:Option Obj):Prop :=
 ∃ cs:Array Value,o=some (.cells cs b.t (0,0))/\cs.size=b.cells.length/\∀ (i:Nat) (x:SV),b.cells[i]?=some x->x≠.junk->cs[i]?=some (x.den ρ)
structure Cx where
 w0:World
 u0:PH
 m0:PH
def V7 (r:Nat):Deferred:={ target:=.collected r,args:=#[] }
class Cm where
 dl:List Deferred
instance (priority:=low) Cm.no:Cm:=⟨[]⟩
def Tz (d:Deferred):Bool:=match d.target with|.collected _=>true|_=>false
def Ad3 [Cm](n0:Nat)(u m:PH)(w:World)(dl:List Deferred):Prop:=∃ ds:List Nat,ds.Nodup/\dl.filter Tz=ds.map V7/\dl.filter (fun d=>!Tz d)=Cm.dl/\∀ r∈ds,w.heap[r]?=some (.deferred (some []))/\n0<=r/\u r=none/\m r=none
def Ad3.nil (b:Nat)(u m:PH)(w:World):Ad3 b u m w []:=⟨[],.nil,rfl,rfl,fun r a=>by cases a⟩
def Ad3.of [Cm]{b:Nat}{u m j f:PH}{w w':World}{dl:List Deferred}(h:Ad3 b u m w dl)
 (B:∀ r,w.heap[r]?=some (.deferred (some []))->b<=r->u r=none->m r=none->w'.heap[r]?=some (.deferred (some []))/\j r=none/\f r=none):Ad3 b j f w' dl:=by
 obtain⟨k,x,y,a,A⟩:=h;refine⟨k,x,y,a,fun r C=>?_⟩;obtain⟨l,c,n,p⟩:=A r C;obtain⟨q,s,t⟩:=B r l c n p;exact⟨q,c,s,t⟩
def M6 (s:S):Prop:=(∀ d k off,s.tm d=.p k off->s.hp k≠none)/\(∀ j b k off,s.hp j=some b->SV.p k off∈b.cells->s.hp k≠none)
structure Rel [Cm](c:Cx)(s:S)(u m:PH)(ρ:Nat->Nat)(a:Act)(w:World):Prop where
 sz:a.tmps.size=s.n
 tm:∀ d,s.tm d≠.junk->a.tmps[d]?=some ((s.tm d).den ρ)
 df:Ad3 c.w0.heap.size u m w a.defers
 box:∀ k b,s.hp k=some b->Aqk ρ b (w.heap[ρ k]?)/\c.w0.heap.size<=ρ k/\u (ρ k)=none/\m (ρ k)=none
 inj:∀ k j,s.hp k≠none->s.hp j≠none->ρ k=ρ j->k=j
 lv:M6 s
 gd:Bo u m w
 gr:Br c.u0 c.m0 c.w0 u m w
def Rel.eval [Cm]{c:Cx}{s:S}{u m:PH}{ρ:Nat->Nat}{a:Act}{w:World}(h:Rel c s u m ρ a w)(x:Operand)(b:s.ev x≠.junk):a.eval x=(s.ev x).den ρ:=by
 cases x with
 |tmp t=>have:=h.tm t b;simp[Act.eval,S.ev,this]
 |const v=>rfl
 |global g=>rfl
 |func f=>rfl
end
section
variable {g:Nat}{v:Value}
variable [Cc] [Cm]
def Az:Value->Bool
 |.agg _|.tuple _=>false
 |.int .u64 _=>false
 |_=>true
def F9 (h:Az v=true):v.oneCell'=true:=by
 unfold Az at h;split at h<;>simp_all [Value.oneCell']
 all_goals (cases v<;>simp_all)
def Kt (h:Az v=true)(z:Int):v≠.int .u64 z:=by rintro rfl;simp[Az]at h
section rel
variable {c:Cx} {s:S} {u m:PH} {ρ:Nat->Nat} {a:Act} {w:World}
def Rel.put (h:Rel c s u m ρ a w){d:Option Nat}{x:SV}{y:Value}(E:x≠.junk->y=x.den ρ)(B:∀ k off,x=.p k off->s.hp k≠none)(t:∀ e,d=some e->e<s.n) :
 Rel c (s.put d x) u m ρ (a.put d y) w:=by
 cases d with
 |none=>exact h
 |some d =>
  have A:=t d rfl;have D:=h.sz;refine⟨by simpa[Act.put,S.put] using h.sz,fun e l=>?_,by simpa[Act.put] using h.df,fun k b q=>?_,fun k j r o=>?_,⟨fun e k off l=>?_,fun j b k off o C=>?_⟩,h.gd,h.gr⟩
  ·by_cases f:e=d
   ·subst f;rw[A4]at l⊢;simp only[Act.put];rw[A55];simp[show e<a.tmps.size by omega,E l]
   rw[Ck _ _ _ f]at l⊢;simp only[Act.put];rw[A0s (fun h=>f h.symm)];exact h.tm e l
  ·rw[Dg]at q;exact h.box k b q
  ·rw[Dg]at r o;exact h.inj k j r o
  ·rw[Dg];by_cases f:e=d
   ·subst f;rw[A4]at l;exact B k off l
   rw[Ck _ _ _ f]at l;exact h.lv.1 e k off l
  rw[Dg]at o⊢;exact h.lv.2 j b k off o C
def Av (w:World)(o:Obj)(h:g<w.heap.size):(w.alloc o).heap[g]?=w.heap[g]?:=by
 show (w.heap.push o)[g]?=_;rw[A8o,if_neg (Nat.ne_of_lt h)]
def Cf (w:World)(o:Obj):(w.alloc o).heap[w.heap.size]?=some o:=by
 show (w.heap.push o)[w.heap.size]?=_;rw[A8o,if_pos rfl]
def Bz (w:World)(o:Obj):(w.alloc o).heap.size=w.heap.size+1:=Array.size_push ..
def Bo.alloc (h:Bo u m w){cs:Array Value}{t:TypeId}{fr:Nat×Nat}(p:∀ (j:Nat) (z:Int),cs[j]?≠some (.int .u64 z)):Bo u m (w.alloc (.cells cs t fr)):=by
 refine⟨fun g o b=>?_,fun g o b=>?_,h.ap,fun g e q f j z b n=>?_⟩
 ·rw[Av _ _ (h.pu.lt b)];exact h.pu g o b
 ·rw[Av _ _ (h.pm.lt b)];exact h.pm g o b
 have l:=A3 b;rw[Bz]at l;by_cases k:g=w.heap.size
 ·subst k;rw[Cf]at b;simp only[Ayz,Obj.cells.injEq]at b;obtain⟨rfl,rfl,rfl⟩:=b;exact absurd n (p j z)
 rw[Av _ _ oV]at b;exact h.cl g e q f j z b n
def Br.alloc {e m0:PH}{j:World}(h:Br e m0 j u m w)(o:Obj):Br e m0 j u m (w.alloc o) :=
 ⟨by rw[Bz];have:=h.sz;omega,fun g b k=>by rw[Av _ _ (A0k b h.sz)];exact h.old g b k,h.us,h.ms,h.io,fun f=>⟨(h.dr f).tape,(h.dr f).dr⟩⟩
def Aa3 {ρ:Nat->Nat}{k g:Nat}{x:SV}(b:∀ off,x≠.p k off):x.den (fun j=>if j=k then g else ρ j)=x.den ρ:=by
 cases x with
 |junk=>rfl
 |v x=>rfl
 |p j off =>
  have:j≠k:=fun e=>b off (by rw[e]);simp[SV.den,this]
def Rel.alloc (h:Rel c s u m ρ a w){k:Nat}(A:s.hp k=none){b:Blk}{cs:Array Value}(B:cs.size=b.cells.length)(H:∀ (i:Nat) (x:SV),b.cells[i]?=some x->x≠.junk->cs[i]?=some (x.den ρ))
 (K:∀ j off,SV.p j off∈b.cells->s.hp j≠none) (Q:∀ (j:Nat) (z:Int),cs[j]?≠some (.int .u64 z)) :
 Rel c (s.setb (some (k,b))) u m (fun j=>if j=k then w.heap.size else ρ j) a (w.alloc (.cells cs b.t)):=by
 have O:∀ j b',s.hp j=some b'->j≠k:=fun j b' n e=>by rw[e,A]at n;cases n
 have D:∀ j,s.hp j≠none->j≠k:=fun j n e=>n (by rw[e,A]);have C:∀ j,s.hp j≠none->ρ j<w.heap.size:=fun j n=>by
  cases o:s.hp j with
  |none=>exact absurd o n
  |some b'=>obtain⟨⟨q,e,_⟩,_⟩:=h.box j b' o;exact A3 e
 refine⟨by rw[St];exact h.sz,fun d y=>?_,h.df.of fun r e _ P F=>⟨by rw[Av _ _ (A3 e)];exact e,P,F⟩,fun j b' o=>?_,fun i j hi n E=>?_,⟨fun d j off y=>?_,fun i b' j off hi F=>?_⟩,h.gd.alloc Q,h.gr.alloc _⟩
 ·rw[Fk]at y⊢;rw[h.tm d y,Aa3 (fun off e=>h.lv.1 d k off e A)]
 ·by_cases f:j=k
  ·subst f;rw[Bp]at o;simp only[Ayz]at o;subst o;simp only[if_true];refine⟨⟨cs,by rw[Cf],B,fun i x hi I=>?_⟩,h.gr.sz,?_,?_⟩
   ·rw[H i x hi I,Aa3 (fun off e=>?_)];exact K j off (e▸Ay9 hi) A
   ·exact h.gd.pu.none (Ay2 _)
   exact h.gd.pm.none (Ay2 _)
  rw[Bh _ _ _ f]at o;simp only[if_neg f];obtain⟨⟨q,J,L,N⟩,r⟩:=h.box j b' o;refine⟨⟨q,by rw[Av _ _ (A3 J)];exact J,L,fun i x hi I=>?_⟩,r⟩;rw[N i x hi I,Aa3 (fun off e=>h.lv.2 j b' k off o (e▸Ay9 hi) A)]
 ·by_cases l:i=k
  ·by_cases f:j=k
   ·rw[l,f]
   rw[Bh _ _ _ f]at n;simp only[l,if_true,if_neg f]at E;have:=C j n;omega
  rw[Bh _ _ _ l]at hi;by_cases f:j=k
  ·simp only[f,if_true,if_neg l]at E;have:=C i hi;omega
  rw[Bh _ _ _ f]at n;simp only[if_neg l,if_neg f]at E;exact h.inj i j hi n E
 ·rw[Fk]at y;have:=h.lv.1 d j off y;rw[Bh _ _ _ (D j this)];exact this
 by_cases f:j=k
 ·rw[f,Bp];simp
 rw[Bh _ _ _ f];by_cases l:i=k
 ·subst l;rw[Bp]at hi;simp only[Ayz]at hi;subst hi;exact K j off F
 rw[Bh _ _ _ l]at hi;exact h.lv.2 i b' j off hi F
def Rel.store (h:Rel c s u m ρ a w){k:Nat}{b b':Blk}(O:s.hp k=some b)(Y:b'.t=b.t){cs:Array Value}(F:cs.size=b'.cells.length)(N:∀ (i:Nat) (x:SV),b'.cells[i]?=some x->x≠.junk->cs[i]?=some (x.den ρ))
 (X:∀ j off,SV.p j off∈b'.cells->s.hp j≠none) (hw:∀ (j:Nat) (z:Int),cs[j]?≠some (.int .u64 z)) :
 Rel c (s.setb (some (k,b'))) u m ρ a (w.setRow (ρ k) cs):=by
 obtain⟨⟨K,Q,_,_⟩,r0,T,U⟩:=h.box k b O;have l:∀ g,g≠ρ k->(w.setRow (ρ k) cs).heap[g]?=w.heap[g]?:=fun g q=>setRow_other w (ρ k) g cs q;have A:(w.setRow (ρ k) cs).heap[ρ k]?=some (.cells cs b.t (0,0)):=setRow_heap w (ρ k) K cs _ _ Q;refine⟨by rw[St];exact h.sz,fun d D=>by rw[Fk]at D⊢;exact h.tm d D,h.df.of fun r e _ Z C=>⟨by rw[l _ (fun V=>by rw[V,Q]at e;cases e)];exact e,Z,C⟩,fun j I B=>?_,fun i j hi H W=>?_,⟨fun d j off D=>?_,fun i I j off hi C=>?_⟩,⟨?_,?_,h.gd.ap,?_⟩,⟨?_,?_,h.gr.us,h.gr.ms,h.gr.io,fun f=>⟨(h.gr.dr f).tape,(h.gr.dr f).dr⟩⟩⟩
 ·by_cases n:j=k
  ·subst n;rw[Bp]at B;simp only[Ayz]at B;subst B;exact⟨⟨cs,by rw[A,Y],F,N⟩,r0,T,U⟩
  rw[Bh _ _ _ n]at B;have P:ρ j≠ρ k:=fun e=>n (h.inj j k (by rw[B];simp) (by rw[O];simp) e);rw[l _ P];exact h.box j I B
 ·have R:∀ i,(s.setb (some (k,b'))).hp i≠none->s.hp i≠none:=fun i hi=>by
   by_cases y:i=k
   ·rw[y,O];simp
   rw[Bh _ _ _ y]at hi;exact hi
  exact h.inj i j (R i hi) (R j H) W
 ·rw[Fk]at D;by_cases n:j=k
  ·rw[n,Bp];simp
  rw[Bh _ _ _ n];exact h.lv.1 d j off D
 ·by_cases n:j=k
  ·rw[n,Bp];simp
  rw[Bh _ _ _ n];by_cases y:i=k
  ·subst y;rw[Bp]at hi;simp only[Ayz]at hi;subst hi;exact X j off C
  rw[Bh _ _ _ y]at hi;exact h.lv.2 i I j off hi C
 ·intro g o q;rw[l g (fun e=>by rw[e,T]at q;cases q)];exact h.gd.pu g o q
 ·intro g o q;rw[l g (fun e=>by rw[e,U]at q;cases q)];exact h.gd.pm g o q
 ·intro g J t' L j z q H;by_cases E:g=ρ k
  ·rw[E,A]at q;simp only[Ayz,Obj.cells.injEq]at q;obtain⟨rfl,_,_⟩:=q;exact absurd H (hw j z)
  rw[l g E]at q;exact h.gd.cl g J t' L j z q H
 ·rw[setRow_size];exact h.gr.sz
 intro g q C;rw[l g oV];exact h.gr.old g q C
end rel
end
section
def iV (x:Int):SV:=.v (.int .i64 x)
def sV (a:Option Addr)(n c:Nat):SV:=.v (.slice a n c)
def bV (b:Bool):SV:=.v (.bool b)
end
section fill
def Yw (off:Nat):∀ (l:List Value) (k:Nat) (cells:Array Value),off+k+l.length<=cells.size ->
 (((l.zipIdx k).foldl (fun (cs:Array Value) (p:Value×Nat)=>cs.setIfInBounds (off+p.2) p.1) cells).toList)=cells.toList.take (off+k)++l++cells.toList.drop (off+k+l.length)
 |[],k,cells,h=>mV
 |v::l,k,cells,h=>by
  have e:=Yw off l (k+1) (cells.setIfInBounds (off+k) v) (by simp at h⊢;omega);simp only[List.zipIdx_cons,A30];rw[e];simp only[Array.toList_setIfInBounds,A0q];have a:off+k<cells.toList.length:=by simp at h⊢;omega
  have b:(cells.toList.set (off+k) v).take (off+(k+1))=cells.toList.take (off+k)++[v]:=by
   rw[show off+(k+1)=off+k+1 by omega,Aze,A8p (Ay2 _),A12 a];rfl
  have c:(cells.toList.set (off+k) v).drop (off+(k+1)+l.length)=cells.toList.drop (off+k+(l.length+1)):=by
   rw[A5e oV];congr 1;omega
  rw[b,c];simp
def Z2 (a:Nat->Option (Nat×Nat))(cells:Array Value)(i off size:Nat)(v:Value)(rest:List (Nat×Value))(hp:a i=some (off,size))(b:v.cells.size=size)(c:off+size<=cells.size) :
 Instr.fill a cells ((i,v)::rest)=Instr.fill a (cells.toList.take off++v.cells.toList++cells.toList.drop (off+size)).toArray rest:=by
 have e:v.cells.zipIdx.foldl (fun (cs:Array Value) (p:Value×Nat)=>cs.setIfInBounds (off+p.2) p.1) cells=(cells.toList.take off++v.cells.toList++cells.toList.drop (off+size)).toArray:=by
  apply A2u;have:=Yw off v.cells.toList 0 cells gV;simp only[A1r,A1m,b]at this;rw[<-this,<-A69,Array.toList_zipIdx]
 rw[Instr.fill.eq_2];simp only[hp];rw[if_neg (by simp[b];omega),<-e]
def Qw (P:Program):List Field->Option (List (Nat×Nat))
 |[]=>some []
 |f::l=>match P.info? f.type with
  |some i=>match Qw P l with|some r=>some ((f.offset,i.size)::r)|none=>none
  |none=>none
def Ad2 (pl:List (Nat×Nat)):List Value->List (Nat×Value)->Option (List Value)
 |cells,[]=>some cells
 |cells,(i,v)::r=>match pl[i]? with
  |some (off,size)=>cond (Nat.beq v.cells.size size&&Nat.ble (off+size) cells.length) (Ad2 pl (cells.take off++v.cells.toList++cells.drop (off+size)) r) none
  |none=>none
def Xy (b:List (Nat×Nat)):∀ (a:List (Nat×Value)) (cells:List Value) (r:List Value),Ad2 b cells a=some r->Instr.fill (fun i=>b[i]?) cells.toArray a=some r.toArray
 |[],cells,r,h=>by simp[Ad2]at h;simp[Instr.fill,h]
 |(i,v)::a,cells,r,h=>by
  unfold Ad2 at h;split at h
  ·rename_i off size hp;cases hc:(Nat.beq v.cells.size size&&Nat.ble (off+size) cells.length) with
   |false=>simp[hc]at h
   |true =>
    simp only[hc,cond_true]at h;simp only[Azb]at hc;rw[Z2 _ _ i off size v a hp (Azp hc.1) (by simpa using A6i hc.2)];exact Xy b a _ r h
  cases h
def Vl {P:Program}{w:World}:∀ (l:List Field) (r:List (Nat×Nat)),Qw P l=some r->(l.mapM (fun f=>do pure (f.offset,<-sizeOf f.type)):Sem (List (Nat×Nat))).run P w=.ok r w
 |[],r,h=>by simp[Qw]at h;subst h;simp
 |f::l,r,h=>by
  unfold Qw at h;split at h
  ·rename_i i hi;split at h
   ·rename_i r' hr;simp at h;subst h;rw[A78];have a:=Vl (P:=P) (w:=w) l r' hr;simp only[Sem.run_bind,sizeOf,typeInfo,run_program,Result.andThen_ok,hi,Sem.run_pure]at a⊢;rw[a];rfl
   cases h
  cases h
end fill
section
variable {b:Blk}{g i:Nat}{l:List SV}{o:Oper}{t:TypeId}{x:SV}
variable [Cc] [Cm]
def J6:List SV->Option (List Value)
 |[]=>some []
 |.v x::l=>match J6 l with|some r=>some (x::r)|none=>none
 |_=>none
def Kw (P:Program)(t:TypeId):Option Bool :=
 match P.underlying t with
 |some (.struct _)|some (.array _ _)=>some true
 |some _=>some false
 |none=>none
def szB (P:Program)(t:TypeId):Option Nat:=match P.info? t with|some i=>some i.size|none=>none
def ldv (P:Program)(t:TypeId)(cells:List SV)(off:Nat):Option SV :=
 match Kw P t with
 |some true =>
  match szB P t with
  |some n=>match J6 ((cells.drop off).take n) with
   |some l=>cond (Nat.beq l.length n) (some (.v (.agg l.toArray))) none
   |none=>none
  |none=>none
 |some false=>match cells[off]? with
  |some (.v x)=>some (.v x)
  |some (.p k o)=>some (.p k o)
  |_=>none
 |none=>none
def Kd:SV->Option (List SV)
 |.v x=>cond (x.cells.toList.all Az) (some (x.cells.toList.map .v)) none
 |.p k off=>some [.p k off]
 |.junk=>none
def Nl (l:List SV)(off:Nat)(r:List SV):List SV:=l.take off++r++l.drop (off+r.length)
def No (P:Program)(t:TypeId)(f:Nat):Option Nat :=
 match P.underlying t with
 |some (.struct fs)=>match fs[f]? with
  |some fd=>match szB P fd.type with
   |some (_+1)=>some fd.offset
   |_=>none
  |none=>none
 |_=>none
def Cn (s:S)(x:Operand):Value:=match s.ev x with|.v y=>y|_=>undef
def isV:SV->Bool|.v _=>true|_=>false
def Ka (s:S)(o:Op):Bool:=o.operands.toList.all fun x=>isV (s.ev x)
def pv (P:Program)(env:Operand->Value)(o:Op):Option Value :=
 match o with
 |.extract x i=>match env x with|.tuple vs=>vs[i]?|_=>none
 |.pick c a b=>match env c with|.bool true=>some (env a)|.bool false=>some (env b)|_=>none
 |.makeFunc fn first captured=>some (.func fn (first.map env) (captured.map env))
 |.unOp .not _ x=>match env x with|.bool b=>some (.bool !b)|_=>none
 |.convert src dst x=>match P.underlying src with
  |some .string=>match P.underlying dst with
   |some .string=>match env x with|.string y=>some (.string y)|_=>none
   |_=>none
  |_=>none
 |.call { callee:=.builtin .len,args:=args,argTypes:=ts } =>
  match args[0]?,ts[0]? with
  |some x,some t=>match P.underlying t with
   |some (.slice _)=>match env x with|.slice _ n _=>some (.int .i64 n)|_=>none
   |some .string=>match env x with|.string y=>some (.int .i64 y.size)|_=>none
   |_=>none
  |_,_=>none
 |.nilCheck x=>match env x with|.pointer (some a)=>some (.pointer (some a))|_=>none
 |.build t ps=>match P.info? t with
  |some i=>match i.zero with
   |some z=>match P.underlying t with
    |some (.struct fs)=>match Qw P fs.toList with
     |some pl=>match Ad2 pl z.cells.toList (ps.toList.map fun (i,x)=>(i,env x)) with|some l=>some (.agg l.toArray)|none=>none
     |none=>none
    |_=>none
   |none=>none
  |none=>none
 |.field t x f=>match P.underlying t with
  |some (.struct fs)=>match fs[f]? with
   |some fd=>match Kw P fd.type with
    |some false=>match env x with|.agg cs=>cs[fd.offset]?|_=>none
    |some true=>match szB P fd.type with
     |some n=>match env x with|.agg cs=>some (.agg (cs.extract fd.offset (fd.offset+n)))|_=>none
     |none=>none
    |none=>none
   |none=>none
  |_=>none
 |_=>none
def eff (P:Program)(name:Nat)(s:S)(o:Op):Option (SV×Option (Nat×Blk)) :=
 match o with
 |.move x=>some (s.ev x,none)
 |.assign x=>some (s.ev x,none)
 |.alloc t=>match P.info? t with
  |some i=>match i.zero with
   |some z=>match s.hp name with
    |none=>match Kd (.v z) with
     |some l=>some (.p name 0,some (name,⟨t,l⟩))
     |none=>none
    |some _=>none
   |none=>none
  |none=>none
 |.box t x=>match s.hp name with
  |none=>match Kd (s.ev x) with
   |some l=>some (.p name 0,some (name,⟨t,l⟩))
   |none=>none
  |some _=>none
 |.load t x=>match s.ev x with
  |.p k off=>match s.hp k with
   |some b=>match ldv P t b.cells off with|some y=>some (y,none)|none=>none
   |none=>none
  |_=>none
 |.store t x y=>match s.ev x with
  |.p k off=>match s.hp k with
   |some b=>match Kd (s.ev y) with
    |some l=>match szB P t with
     |some n=>cond (Nat.beq l.length n&&Nat.ble (off+n) b.cells.length) (some (.v undef,some (k,⟨b.t,Nl b.cells off l⟩))) none
     |none=>none
    |none=>none
   |none=>none
  |_=>none
 |.fieldAddr t x f=>match s.ev x with
  |.p k off=>match No P t f with|some fo=>some (.p k (off+fo),none)|none=>none
  |_=>none
 |o=>match Ka s o with
  |true=>match pv P (Cn s) o with|some y=>some (.v y,none)|none=>none
  |false=>none
section sound
variable {P:Program} {c:Cx} {s:S} {u m:PH} {ρ:Nat->Nat} {a:Act} {w:World}
def Y6:∀ {l:List SV} {r:List Value},J6 l=some r->l=r.map .v
 |[],r,h=>by simp[J6]at h;simp[h]
 |.v x::l,r,h=>by
  unfold J6 at h;cases hl:J6 l with
  |none=>simp[hl]at h
  |some r'=>simp[hl]at h;subst h;simp[<-Y6 hl]
 |.junk::l,r,h=>by simp[J6]at h
 |.p k off::l,r,h=>by simp[J6]at h
def Ei {b:Bool}(h:Kw P t=some b)(w:World):(isAgg t).run P w=.ok b w:=by
 unfold Kw at h;unfold isAgg;cases hd:P.underlying t with
 |none=>simp[hd]at h
 |some d=>simp only[Sem.run_bind,run_underlying hd,Result.andThen_ok];cases d<;>simp_all
def Bj {n:Nat}(h:szB P t=some n)(w:World):(sizeOf t).run P w=.ok n w:=by
 unfold szB at h;unfold sizeOf typeInfo;cases hi:P.info? t with
 |none=>simp[hi]at h
 |some i=>simp[hi]at h⊢;exact h
def D5 (g off j:Nat):(⟨g,off,none⟩:Addr).add j=⟨g,off+j,none⟩:=by unfold Addr.add;split<;>simp_all
def Vv {o:Option Obj}(h:Aqk ρ b o)(j:w.heap[g]?=o)(hi:b.cells[i]?=some x)(k:x≠.junk):w.cell? ⟨g,i,none⟩=some (x.den ρ):=by
 obtain⟨cs,e,_,f⟩:=h;simp[World.cell?,j,e,f i x hi k]
def Aj4 {g off:Nat}{y:SV}(h:Aqk ρ b (w.heap[g]?))(f:ldv P t b.cells off=some y) :
 (loadVar t ⟨g,off,none⟩).run P w=.ok (y.den ρ) w/\y≠.junk/\(∀ k o,y=.p k o->SV.p k o∈b.cells):=by
 unfold ldv at f;unfold loadVar;split at f
 ·rename_i ha;split at f
  ·rename_i n hn;split at f
   ·rename_i l hl;cases hlen:Nat.beq l.length n with
    |false=>simp[hlen]at f
    |true =>
     simp[hlen]at f;subst f;have A:l.length=n:=Azp hlen;have C:=Y6 hl;have q:∀ j v,l[j]?=some v->w.cell? ((⟨g,off,none⟩:Addr).add j)=some v:=by
      intro j v B;rw[D5];have r:((b.cells.drop off).take n)[j]?=some (.v v):=by rw[C];simp[B]
      rw[A1x]at r;split at r
      ·rw[A2z]at r;exact Vv h rfl r mV
      cases r
     have:=run_loadCells_list (P:=P) w ⟨g,off,none⟩ l q;refine⟨?_,mV,mV⟩;simp only[Sem.run_bind,Ei ha,Result.andThen_ok,if_true,Bj hn];rw[<-A,this];rfl
   cases f
  cases f
 ·rename_i ha;split at f
  ·rename_i x hx;simp at f;subst f;have:=Vv h rfl hx mV;exact⟨by simp[Ei ha,this],mV,mV⟩
  ·rename_i k o hx;simp at f;subst f;have:=Vv h rfl hx mV;exact⟨by simp[Ei ha,this],mV,fun D o' e=>by simp at e;obtain⟨rfl,rfl⟩:=e;exact Ay9 hx⟩
  cases f
 cases f
def Fm (h:Kd x=some l)(ρ:Nat->Nat) :
 l.map (·.den ρ)=(x.den ρ).cells.toList/\(∀ y∈l,y≠.junk)/\(∀ v∈l.map (SV.den ρ),Az v=true)/\(∀ k o,SV.p k o∈l->x=.p k o)/\x≠.junk:=by
 cases x with
 |junk=>simp[Kd]at h
 |v x =>
  unfold Kd at h;cases hc:x.cells.toList.all Az with
  |false=>simp[hc]at h
  |true =>
   simp only[hc,cond_true,Ayz]at h;subst h;refine⟨by simp[SV.den,Function.comp_def],mV,?_,mV,mV⟩;intro v f;simp[SV.den]at f;rw[Azg]at hc;exact hc v (by simpa using f)
 |p k off =>
  simp[Kd]at h;subst h;refine⟨by simp[SV.den,Value.cells],mV,by simp[SV.den,Az],?_,mV⟩;intro j o' e;simp at e;rw[e.1,e.2]
def Ame {v:List Value}(ρ:Nat->Nat)(h:l.map (·.den ρ)=v)(hi:l[i]?=some x):v.toArray[i]?=some (x.den ρ):=by
 subst h;simp[hi]
def Arh {l:List Value}(h:∀ v∈l,Az v=true)(j:Nat)(z:Int):l.toArray[j]?≠some (.int .u64 z):=by
 intro e;rw[A06]at e;exact Kt (h _ (Ay9 e)) z rfl
def Xc (t:TypeId)(v:Value):(newVar t v).run P w=.ok ⟨w.heap.size,0,none⟩ (w.alloc (.cells v.cells t)):=by
 simp[newVar,newRow,World.alloc_eq]
def Rel.box_new (h:Rel c s u m ρ a w){k:Nat}(C:s.hp k=none)(D:Kd x=some l)(F:∀ j off,x=.p j off->s.hp j≠none)(t:TypeId){d:Option Nat}(B:∀ e,d=some e->e<s.n) :
 ∃ H,Rel c ((s.put d (.p k 0)).setb (some (k,⟨t,l⟩))) u m H (a.put d (.pointer (some ⟨w.heap.size,0,none⟩))) (w.alloc (.cells (x.den ρ).cells t)):=by
 obtain⟨f,I,q,r,_⟩:=Fm D ρ;have A:=h.alloc (k:=k) (b:=⟨t,l⟩) (cs:=(x.den ρ).cells) C (by rw[<-A1m,<-f];simp)
  (fun i y hi _=>by have:=Ame ρ f hi;simpa using this) (fun j off E=>F j off (r j off E))
  (fun j z=>by have:=Arh q j z;rw[f]at this;simpa using this)
 refine⟨fun j=>if j=k then w.heap.size else ρ j,?_⟩;rw[<-Rw];refine A.put (fun _=>by simp[SV.den]) (fun j off e=>?_) (by rw[St];exact B);simp only[SV.p.injEq]at e;rw[<-e.1,Bp];simp
def Hr (h:Rel c s u m ρ a w)(f:∀ cs b,o.op≠.select cs b)(e:Ka s o.op=true):execOp a.eval o=execOp (Cn s) o:=by
 refine execOp_congr o f fun x j=>?_;unfold Ka at e;rw[Azg]at e;have:=e x (by simpa using j);unfold isV at this;split at this
 ·rename_i y hy;rw[h.eval x (by rw[hy];simp),hy];simp[SV.den,Cn,hy]
 cases this
def Aeb {j:Operand->Value}{y:Value}(h:pv P j o.op=some y)(w:World):(execOp j o).run P w=.ok (.value y) w:=by
 obtain⟨C,D,B,pos,after,r⟩:=o;unfold pv at h;simp only at h;split at h
 ·rename_i x i;split at h
  ·rename_i vs hvs;simp[execOp,Instr.extract,hvs,h]
  cases h
 ·rename_i c x y';split at h
  ·rename_i hc;simp at h;subst h;simp[execOp,hc,asBool]
  ·rename_i hc;simp at h;subst h;simp[execOp,hc,asBool]
  cases h
 ·simp at h;subst h;simp[execOp,Instr.makeFunc]
 ·rename_i t x;split at h
  ·rename_i b hb;simp at h;subst h;simp[execOp,Op.unary,hb]
  cases h
 ·rename_i src dst' x;split at h
  ·rename_i q;split at h
   ·rename_i A;split at h
    ·rename_i z hz;simp at h;subst h;simp[execOp,convert,run_underlying q,run_underlying A,hz]
    cases h
   cases h
  cases h
 ·rename_i args ts;split at h
  ·rename_i x t hx ht;have k:(args.map j)[0]?=some (j x):=by simp[hx]
   split at h
   ·rename_i e hu;split at h
    ·rename_i hz;simp at h;subst h;simp[execOp,resolve,invoke,builtin,Builtin.len_,k,ht,run_underlying hu,hz,goInt]
    cases h
   ·rename_i hu;split at h
    ·rename_i hz;simp at h;subst h;simp[execOp,resolve,invoke,builtin,Builtin.len_,k,ht,run_underlying hu,hz,goInt]
    cases h
   cases h
  cases h
 ·rename_i x;split at h
  ·rename_i z hz;simp at h;subst h;simp[execOp,hz]
  cases h
 ·rename_i t ps;split at h
  ·rename_i i hi;split at h
   ·rename_i z hz;split at h
    ·rename_i fs hu;split at h
     ·rename_i pl hpl;split at h
      ·rename_i l hl;simp at h;subst h;have q:=Xy pl _ _ _ hl;have A:=Vl (w:=w) fs.toList pl hpl;have e:(ps.map fun (p:Nat×Operand)=>(p.1,j p.2)).toList=ps.toList.map fun (p:Nat×Operand)=>(p.1,j p.2):=mV;simp only[execOp,Instr.build,zeroValue,typeInfo,Sem.run_bind,Sem.run_map,run_program,Result.andThen_ok,hi,hz,Sem.run_pure,run_underlying hu];rw[<-A35 (xs:=fs),A7h];simp only[Sem.run_map,A,Result.andThen_ok,A06];simp only[A35]at q;rw[e,q];rfl
      cases h
     cases h
    cases h
   cases h
  cases h
 ·rename_i t x f;split at h
  ·rename_i fs hu;split at h
   ·rename_i fd hf;split at h
    ·rename_i ha;split at h
     ·rename_i cs hx;simp[execOp,Instr.field,run_underlying hu,hf,asAgg,hx,part,Ei ha,h]
     cases h
    ·rename_i ha;split at h
     ·rename_i n hn;split at h
      ·rename_i cs hx;simp at h;subst h;simp[execOp,Instr.field,run_underlying hu,hf,asAgg,hx,part,Ei ha,Bj hn]
      cases h
     cases h
    cases h
   cases h
  cases h
 cases h
end sound
end
section
variable {l r:List SV}{off:Nat}{x:SV}
variable [Cc] [Cm]
section sound
variable {P:Program} {c:Cx} {s:S} {u m:PH} {ρ:Nat->Nat} {a:Act} {w:World}
def Awl (P:Program)(a:Act)(o:Oper)(w:World)(y:Value)(w':World):Prop :=
 (execOp a.eval o).run P w=.ok (.value y) w'\/((execOp a.eval o).run P w=.ok .skip w'/\y=undef)
def Ag7 (l r:List SV)(off:Nat)(h:off+r.length<=l.length):(Nl l off r).length=l.length:=by
 unfold Nl;simp;omega
def We (h:x∈Nl l off r):x∈l\/x∈r:=by
 unfold Nl at h;rcases Ay5.1 h with h|h
 ·rcases Ay5.1 h with h|h
  ·exact .inl (A0o h)
  exact .inr h
 exact .inl (A1v h)
def Aha (h:off+r.length<=l.length)(i:Nat):(Nl l off r)[i]?=if i<off then l[i]? else if i<off+r.length then r[i-off]? else l[i]?:=by
 unfold Nl;rw[Azm,A36];simp only[Ay1,A2b (show off<=l.length by omega)];split
 ·rw[A1x,if_pos (by assumption)]
 rw[A36];by_cases b:i<off+r.length
 ·rw[if_pos oV,if_pos b]
 rw[if_neg oV,if_neg b,A2z];congr 1;omega
def Ake {cs:List Value}{r:List Value}(h:off+r.length<=cs.length)(i:Nat):(cs.take off++r++cs.drop (off+r.length))[i]?=if i<off then cs[i]? else if i<off+r.length then r[i-off]? else cs[i]?:=by
 rw[Azm,A36];simp only[Ay1,A2b (show off<=cs.length by omega)];split
 ·rw[A1x,if_pos (by assumption)]
 rw[A36];by_cases b:i<off+r.length
 ·rw[if_pos oV,if_pos b]
 rw[if_neg oV,if_neg b,A2z];congr 1;omega
def Zr (h:Rel c s u m ρ a w){U:Nat}{o:Oper}{hw:Option (Nat×Blk)}(q:eff P U s o.op=some (x,hw))(I:∀ e,o.dst=some e->e<s.n) :
 ∃ E w' y,Awl P a o w y w'/\Rel c ((s.put o.dst x).setb hw) u m E (a.put o.dst y) w':=by
 obtain⟨F,op,L,pos,after,C⟩:=o;simp only at q I⊢;have mv:∀ z:Operand,∃ E w' y,(Result.ok (Next.value (a.eval z)) w=Result.ok (Next.value y) w')/\Rel c (s.put F (s.ev z)) u m E (a.put F y) w':=by
  intro z;refine⟨ρ,w,a.eval z,rfl,h.put (fun A=>h.eval z A) (fun k off A=>?_) I⟩;cases z with
  |tmp t=>exact h.lv.1 t k off A
  |const v=>cases A
  |global g=>cases A
  |func f=>cases A
 have D:∀ (z:Operand) (k off:Nat),s.ev z=.p k off->s.hp k≠none:=by
  intro z k off A;cases z with
  |tmp t=>exact h.lv.1 t k off A
  |const v=>cases A
  |global g=>cases A
  |func f=>cases A
 unfold eff at q;split at q
 ·rename_i z;simp only[Ayz,Az0]at q;obtain⟨rfl,rfl⟩:=q;obtain⟨E,w',y,e,r⟩:=mv z;exact⟨E,w',y,.inl (by simpa[execOp] using e),r⟩
 ·rename_i z;simp only[Ayz,Az0]at q;obtain⟨rfl,rfl⟩:=q;obtain⟨E,w',y,e,r⟩:=mv z;exact⟨E,w',y,.inl (by simpa[execOp] using e),r⟩
 ·rename_i t;split at q
  ·rename_i i hi;split at q
   ·rename_i z A;split at q
    ·rename_i hn;split at q
     ·rename_i l hl;simp only[Ayz,Az0]at q;obtain⟨rfl,rfl⟩:=q;obtain⟨E,r⟩:=h.box_new hn hl mV t I;refine⟨E,_,_,.inl ?_,r⟩;simp[execOp,Instr.alloc,zeroValue,typeInfo,hi,A,Xc,SV.den]
     cases q
    cases q
   cases q
  cases q
 ·rename_i t z;split at q
  ·rename_i hn;split at q
   ·rename_i l hl;simp only[Ayz,Az0]at q;obtain⟨rfl,rfl⟩:=q;obtain⟨E,r⟩:=h.box_new hn hl (fun j off A=>D z j off A) t I;refine⟨E,_,_,.inl ?_,r⟩;have A:=h.eval z (Fm hl ρ).2.2.2.2;simp[execOp,Instr.box,Xc,A]
   cases q
  cases q
 ·rename_i t z;split at q
  ·rename_i k off A;split at q
   ·rename_i b hb;split at q
    ·rename_i y hy;simp only[Ayz,Az0]at q;obtain⟨rfl,rfl⟩:=q;obtain⟨h1,h2,h3⟩:=Aj4 (P:=P) (w:=w) (h.box k b hb).1 hy;have B:=h.eval z (by rw[A];simp);rw[A]at B;refine⟨ρ,w,y.den ρ,.inl ?_,h.put (fun _=>rfl) (fun Y o' e=>h.lv.2 k b Y o' hb (h3 Y o' e)) I⟩;simp[execOp,Instr.loadAt,Instr.sureAddr,B,SV.den,h1]
    cases q
   cases q
  cases q
 ·rename_i t z y;split at q
  ·rename_i k off A;split at q
   ·rename_i b hb;split at q
    ·rename_i l hl;split at q
     ·rename_i n hn;cases hc:(Nat.beq l.length n&&Nat.ble (off+n) b.cells.length) with
      |false=>simp[hc]at q
      |true =>
       simp only[hc,cond_true,Ayz,Az0]at q;obtain⟨rfl,rfl⟩:=q;simp only[Azb]at hc;have N:l.length=n:=Azp hc.1;have a0:off+n<=b.cells.length:=A6i hc.2;obtain⟨V,e2,e3,e4,e5⟩:=Fm hl ρ;have B:=h.eval z (by rw[A];simp);rw[A]at B;have X:=h.eval y e5;obtain⟨⟨cs,c1,c2,c3⟩,r0,r1,r2⟩:=h.box k b hb;have H:((s.ev y).den ρ).cells.toList.length=n:=by rw[<-V];simpa using N
       have R:=run_storeCells_at P (ρ k) off b.t ((s.ev y).den ρ).cells.toList 0 cs w c1 oV (fun v hv=>F9 (e3 v (by rw[V];exact hv)));have J:off+((s.ev y).den ρ).cells.toList.length<=cs.toList.length:=by simp at H⊢;omega
       refine⟨ρ,w.setRow (ρ k) (cs.toList.take off++((s.ev y).den ρ).cells.toList++cs.toList.drop (off+((s.ev y).den ρ).cells.toList.length)).toArray,undef,.inr ⟨?_,rfl⟩,?_⟩
       ·have W:((s.ev y).den ρ).cells.size=n:=by simpa using H
        have T:a.eval z=.pointer (some ⟨ρ k,off,none⟩):=B;simp only[execOp,Instr.storeAt,Instr.sureAddr,T,X,storeVar,Sem.run_bind,Sem.run_pure,Result.andThen_ok,Bj hn,W,ne_eq,not_true_eq_false,if_false];simp only[A1r]at R;simp[R]
       rw[<-Rw];refine Rel.put (x:=.v undef) ?_ (fun _=>rfl) mV (by rw[St];exact I);refine h.store (b':=⟨b.t,Nl b.cells off l⟩) hb rfl ?_ (fun i x hi hx=>?_) (fun j o O=>?_) (fun j Z=>?_)
       ·simp only[A5z];rw[Ag7 _ _ _ oV];simp at H⊢;omega
       ·rw[A06,Ake J];rw[Aha oV]at hi;rw[H];rw[N]at hi;split
        ·rename_i hlt;rw[if_pos hlt]at hi;have:=c3 i x hi hx;simpa using this
        rename_i hlt;rw[if_neg hlt]at hi;split
        ·rename_i hlt2;rw[if_pos hlt2]at hi;rw[<-V];simp[hi]
        rename_i hlt2;rw[if_neg hlt2]at hi;have:=c3 i x hi hx;simpa using this
       ·rcases We O with O|O
        ·exact h.lv.2 k b j o hb O
        exact D y j o (e4 j o O)
       intro e;rw[A06,Ake J]at e;have Q:∀ (i:Nat),cs.toList[i]?≠some (Value.int .u64 Z):=fun i hi=>by
        have:=h.gd.cl (ρ k) cs b.t (0,0) i Z c1 (by simpa using hi);rw[r1]at this;cases this
       split at e
       ·exact Q _ e
       split at e
       ·exact Kt (e3 _ (by rw[V];exact Ay9 e)) Z rfl
       exact Q _ e
     cases q
    cases q
   cases q
  cases q
 ·rename_i t z f;split at q
  ·rename_i k off A;split at q
   ·rename_i fo hf;simp only[Ayz,Az0]at q;obtain⟨rfl,rfl⟩:=q;have B:=h.eval z (by rw[A];simp);rw[A]at B;refine⟨ρ,w,_,.inl ?_,h.put (y:=.pointer (some ⟨ρ k,off+fo,none⟩)) (fun _=>rfl) (fun Y o' e=>?_) I⟩
    ·unfold No at hf;split at hf
     ·rename_i fs hfs;split at hf
      ·rename_i fd hfd;split at hf
       ·rename_i n hn;simp only[Ayz]at hf;subst hf;simp[execOp,Instr.fieldAt,run_underlying hfs,hfd,Instr.sureAddr,B,SV.den,fieldPlace,Bj hn,D5]
       cases hf
      cases hf
     cases hf
    simp only[SV.p.injEq]at e;rw[<-e.1];exact D z k off A
   cases q
  cases q
 rename_i hn1 hn2 hn3 hn4 hn5 hn6 hn7;split at q
 ·rename_i hall;split at q
  ·rename_i y hy;simp only[Ayz,Az0]at q;obtain⟨rfl,rfl⟩:=q;refine⟨ρ,w,y,.inl ?_,h.put (fun _=>rfl) mV I⟩;rw[Hr (o:=⟨F,op,L,pos,after,C⟩) h (fun cs b K=>?_) hall]
   ·exact Aeb (o:=⟨F,op,L,pos,after,C⟩) hy w
   simp only at K;subst K;simp[pv]at hy
  cases q
 cases q
end sound
end
section
variable {a:Act}{d:Option Nat}{hw:Option (Nat×Blk)}{i name y:Nat}{m u:PH}{o:Oper}{s s':S}{w:World}{x:SV}{z:Operand}{ρ:Nat->Nat}
variable [Cc] [Cm]
def gv (s:S)(ops:Array Oper)(o:Oper):Option Bool :=
 match o.guard with
 |none=>some true
 |some (j,want)=>match ops[j]? with
  |some oj=>match oj.dst with
   |some d=>match s.tm d with
    |.v (.bool b)=>some (b==want)
    |.v (.tuple _)=>some false
    |_=>none
   |none=>none
  |none=>none
def E1 (s:S)(o:Oper):Bool:=match o.dst with|none=>true|some d=>Nat.blt d s.n
def Arq (d:TypeId):Bool:=Nat.beq d 3
def Fe:Op->Bool
 |.convert _ d _=>Arq d
 |.move _|.assign _|.pick ..|.alloc _|.box ..|.build ..|.load ..|.nilCheck _|.binOp ..|.unOp ..|.fieldAddr ..|.field ..|.indexAddr ..|.index ..|.slice ..|.extract ..|.makeFunc ..|.makeInterface ..=>true
 |.lookup ..=>true
 |.call { callee:=.builtin .len,.. }|.call { callee:=.builtin .cap,.. }|.call { callee:=.builtin .max,.. }|.call { callee:=.builtin .min,.. }=>true
 |_=>false
def Hg:Op->Bool
 |.convert _ d _=>!Arq d
 |.load ..|.lookup ..=>true
 |_=>false
def M1:Op->Bool
 |.store ..=>true
 |.call { callee:=.builtin .append,.. }|.call { callee:=.builtin .copy,.. }=>true
 |_=>false
def bef (ops:Array Oper):Nat->Nat->Nat->Bool
 |0,_,_=>false
 |f+1,i,x=>match ops[i]? with
  |some o=>o.after.toList.any fun e=>Region.binds .any e&&(Nat.beq e.on x||bef ops f e.on x)
  |none=>false
def Ayo:Op->Bool
 |.call { callee:=.value _,.. }=>true
 |.mapUpdate ..|.insert ..=>true
 |_=>false
def Axw (ops:Array Oper)(y:Nat):Bool:=(List.range ops.size).all fun x=>Nat.beq x y||bef ops ops.size y x
def M4 (ops:Array Oper)(y:Nat)(o:Op):Bool:=M1 o||(Ayo o&&Axw ops y)
def Aly {ops:Array Oper}{o:Op}(h:M1 o=true):M4 ops y o=true:=by unfold M4;rw[h];rfl
def Apd {ops:Array Oper}{o:Op}(h:M4 ops y o=false):M1 o=false:=by
 unfold M4 at h;cases hm:M1 o with
 |true=>rw[hm]at h;simp at h
 |false=>rfl
def O8 (ops:Array Oper)(t:Nat):Bool:=ops.toList.all fun o=>match o.dst with|some d=>!Nat.beq d t|none=>true
def isP:SV->Bool
 |.p _ _=>true
 |_=>false
def faB (ops:Array Oper)(s:S)(o:Oper):Bool:=o.guard.isNone&&match o.op with
 |.fieldAddr _ (.tmp b) _=>O8 ops b&&isP (s.tm b)
 |_=>false
def wrB (t:Nat)(o:Oper):Bool:=match o.dst with|some d=>Nat.beq d t|none=>false
def Ya (ops:Array Oper)(s:S)(t:Nat):Bool:=ops.toList.any (wrB t)&&ops.toList.all fun o=>!wrB t o||faB ops s o
def Adn (ops:Array Oper)(s:S)(o:Oper):Bool:=match o.op with
 |.load _ (.tmp t)=>(O8 ops t&&isP (s.tm t))||Ya ops s t
 |_=>false
def Mr (ops:Array Oper)(s:S):Bool:=ops.toList.all fun o=>!Hg o.op||Adn ops s o
def Fu:Op->Bool
 |.alloc _|.box ..=>true
 |_=>false
def Iu:Op->Bool
 |.select ..=>false
 |_=>true
def Ge {o:Op}(h:Iu o=true)(cs:Array SelectCase)(b:Bool):o≠.select cs b:=by rintro rfl;simp[Iu]at h
def Eb (P:Program)(env:Operand->Value)(o:Oper)(w:World)(K:Value->World->Prop):Prop :=
 match (execOp env o).run P w with
 |.ok (.value v) w'=>K v w'
 |.ok .skip w'=>K undef w'
 |.ok (.enter f args) w'=>Calls P f args w' fun e w''=>∃ v,e=.returned v/\K v w''
 |_=>False
inductive Ob (P:Program)(id:Nat)(ops:Array Oper)(dr:Bool)(Fin:S->PH->PH->Prop):List Nat->S->PH->PH->Prop
 |nil {s:S} {u m:PH}:Fin s u m->Ob P id ops dr Fin [] s u m
 |auto {i:Nat} {l:List Nat} {s:S} {u m:PH} {o:Oper} {x:SV} {hw:Option (Nat×Blk)}:ops[i]?=some o->gv s ops o=some true->E1 s o=true->eff P (id*1000+i) s o.op=some (x,hw) ->
  Ob P id ops dr Fin l ((s.put o.dst x).setb hw) u m->Ob P id ops dr Fin (i::l) s u m
 |skip {i:Nat} {l:List Nat} {s:S} {u m:PH} {o:Oper}:ops[i]?=some o->gv s ops o=some false->E1 s o=true ->
  Ob P id ops dr Fin l (s.put o.dst (.v undef)) u m->Ob P id ops dr Fin (i::l) s u m
 |ask {i:Nat} {l:List Nat} {s:S} {u m:PH} {o:Oper} {v:Value}:ops[i]?=some o->gv s ops o=some true->E1 s o=true->Ka s o.op=true->Iu o.op=true->Fu o.op=false ->
  (∀ w,(Hg o.op=true->E5 u w/\E5 m w)->(execOp (Cn s) o).run P w=.ok (.value v) w) ->
  Ob P id ops dr Fin l (s.put o.dst (.v v)) u m->Ob P id ops dr Fin (i::l) s u m
 |big {i:Nat} {l:List Nat} {s:S} {u m:PH} {o:Oper} {K:Value->PH->PH->Prop}:ops[i]?=some o->gv s ops o=some true->E1 s o=true->Ka s o.op=true->Iu o.op=true->Fe o.op=false ->
  (∀ v u' m',K v u' m'->PH.le m m'\/dr=false\/M4 ops i o.op=true\/Mr ops s=true) ->
  (∀ w,Bo u m w->Eb P (Cn s) o w fun v w'=>∃ u' m',Bo u' m' w'/\Br u m w u' m' w'/\K v u' m') ->
  (∀ v u' m',PH.le u u'->K v u' m'->Ob P id ops dr Fin l (s.put o.dst (.v v)) u' m')->Ob P id ops dr Fin (i::l) s u m
section sound
variable {P:Program} {id:Nat} {ops:Array Oper} {dr:Bool} {Fin:S->PH->PH->Prop} {c:Cx} {Q:Exit->Act->World->Prop}
def Eq (h:Rel c s u m ρ a w){b:Bool}(f:gv s ops o=some b):Region.wanted o (yielded ops a.tmps)=b:=by
 unfold gv at f;unfold Region.wanted;split at f
 ·rename_i e;rw[e];simpa using f
 rename_i j want e;rw[e];split at f
 ·rename_i oj hj;split at f
  ·rename_i d hd;split at f
   ·rename_i b' hb;have:=h.tm d (by rw[hb];simp);rw[hb]at this;simp[yielded,hj,hd,this,SV.den]at f⊢;exact f
   ·rename_i vs hb;have:=h.tm d (by rw[hb];simp);rw[hb]at this;simp only[Ayz]at f;subst f;simp[yielded,hj,hd,this,SV.den]
   cases f
  cases f
 cases f
def Kv (h:E1 s o=true):∀ e,o.dst=some e->e<s.n:=by
 intro e b;unfold E1 at h;rw[b]at h;exact A5t▸h
def Zy {w w':World}{y:Value}{K:Act->World->Prop}(h:Awl P a o w y w')(b:K (a.put o.dst y) w'):o.wp P a w K Q:=by
 unfold Oper.wp;rcases h with h|⟨h,rfl⟩<;>rw[h]<;>exact b
def Z9 {ops:Array Oper}(h:∀ t,O8 ops t=true->s'.tm t=s.tm t)(o:Oper):faB ops s' o=faB ops s o:=by
 unfold faB;split
 ·rename_i b f hop;cases hn:O8 ops b with
  |false=>rfl
  |true=>rw[h b hn]
 rfl
def Mq {ops:Array Oper}(h:∀ t,O8 ops t=true->s'.tm t=s.tm t)(t:Nat):Ya ops s' t=Ya ops s t:=by
 unfold Ya;simp only[Z9 h]
def Agj {ops:Array Oper}(h:∀ t,O8 ops t=true->s'.tm t=s.tm t)(o:Oper):Adn ops s' o=Adn ops s o:=by
 unfold Adn;split
 ·rename_i t' t hop;rw[Mq h];cases hn:O8 ops t with
  |false=>rfl
  |true=>rw[h t hn]
 rfl
def Aaz {ops:Array Oper}(h:∀ t,O8 ops t=true->s'.tm t=s.tm t):Mr ops s'=Mr ops s:=by
 unfold Mr;simp only[Agj h]
def ixB (o:Oper):Bool:=match o.op with
 |.indexAddr ..=>true
 |_=>false
def alB (ops:Array Oper)(t:Nat):Bool:=ops.toList.all fun o=>!wrB t o||(Fu o.op&&o.guard.isNone)
def Amb (ops:Array Oper)(s:S)(t:Nat):Bool:=ops.toList.all fun o=>!wrB t o||ixB o||faB ops s o
def Ahc {ops:Array Oper}(h:∀ t,O8 ops t=true->s'.tm t=s.tm t)(t:Nat):Amb ops s' t=Amb ops s t:=by
 unfold Amb;simp only[Z9 h]
structure Fi (ops:Array Oper)(s s':S):Prop where
 eq:∀ t,O8 ops t=true->s'.tm t=s.tm t
 pt:∀ t,Ya ops s t=true->isV (s.tm t)=false->isV (s'.tm t)=false
 nw:∀ t,alB ops t=true->isV (s.tm t)=false->isV (s'.tm t)=false
 ol:∀ t k off,Amb ops s t=true->s'.tm t=.p k off->s.tm t=.p k off\/∃ b off',O8 ops b=true/\s.tm b=.p k off'
 fr:∀ t k off,alB ops t=true->s'.tm t=.p k off->s.tm t=.p k off\/s.hp k=none
 hm:∀ k,s.hp k≠none->s'.hp k≠none
def Fi.refl (ops:Array Oper)(s:S):Fi ops s s:=⟨fun _ _=>rfl,fun _ _ h=>h,fun _ _ h=>h,fun _ _ _ _ h=>.inl h,fun _ _ _ _ h=>.inl h,fun _ h=>h⟩
def Fi.trans {ops:Array Oper}{s s' j:S}(h:Fi ops s s')(g:Fi ops s' j):Fi ops s j :=
 ⟨fun t f=>(g.eq t f).trans (h.eq t f),fun t f l=>g.pt t (by rw[Mq h.eq];exact f) (h.pt t f l),fun t f l=>g.nw t f (h.nw t f l),
  fun t k off f hp=>by
   rcases g.ol t k off (by rw[Ahc h.eq];exact f) hp with e|⟨b,o2,e1,e2⟩
   ·exact h.ol t k off f e
   exact .inr ⟨b,o2,e1,by rw[<-h.eq b e1];exact e2⟩,
  fun t k off f hp=>by
   rcases g.fr t k off f hp with e|e
   ·exact h.fr t k off f e
   refine .inr (A2e fun p=>h.hm k p e),fun k n=>g.hm k (h.hm k n)⟩
structure Fit (ops:Array Oper)(s:S)(o:Oper)(x:SV):Prop where
 fa:faB ops s o=true->isV x=false
 al:Fu o.op=true->o.guard.isNone=true->isV x=false
 ol:ixB o=true\/faB ops s o=true->∀ k off,x=.p k off->∃ b off',O8 ops b=true/\s.tm b=.p k off'
 fr:Fu o.op=true->∀ k off,x=.p k off->s.hp k=none
def Aaw {ops:Array Oper}(e:ops[i]?=some o):o∈ops.toList:=by obtain⟨b,rfl⟩:=A2m.1 e;simp
def Gh (B:ops[i]?=some o)(x:SV)(hw:Option (Nat×Blk))(h:Fit ops s o x):Fi ops s ((s.put o.dst x).setb hw):=by
 have l:∀ {t:Nat} {q:Oper->Bool},(ops.toList.all fun o=>!wrB t o||q o)=true->o.dst=some t->q o=true:=fun {t q} g f=>by
  rw[Azg]at g;have:=g o (Aaw B);have r:wrB t o=true:=by unfold wrB;rw[f];simp
  rw[r]at this;simpa using this
 refine⟨fun t g=>?_,fun t g p=>?_,fun t g p=>?_,fun t k off g hp=>?_,fun t k off g hp=>?_,fun k A=>?_⟩
 ·rw[Fk,F6];intro f;unfold O8 at g;rw[Azg]at g;have:=g o (Aaw B);rw[f]at this;simp at this
 ·rw[Fk];by_cases f:o.dst=some t
  ·rw[f,A4];unfold Ya at g;rw[Azb]at g;exact h.fa (l g.2 f)
  rw[F6 s _ _ f];exact p
 ·rw[Fk];by_cases f:o.dst=some t
  ·rw[f,A4];have:=l g f;rw[Azb]at this;exact h.al this.1 this.2
  rw[F6 s _ _ f];exact p
 ·rw[Fk]at hp;by_cases f:o.dst=some t
  ·rw[f,A4]at hp;have n:(ops.toList.all fun o=>!wrB t o||(ixB o||faB ops s o))=true:=by unfold Amb at g;simpa only[Bool.or_assoc] using g
   have:=l n f;rw[A1z]at this;exact .inr (h.ol this k off hp)
  rw[F6 s _ _ f]at hp;exact .inl hp
 ·rw[Fk]at hp;by_cases f:o.dst=some t
  ·rw[f,A4]at hp;have:=l g f;rw[Azb]at this;exact .inr (h.fr this.1 k off hp)
  rw[F6 s _ _ f]at hp;exact .inl hp
 rcases hw with _|⟨j,b⟩
 ·show (s.put o.dst x).hp k≠none;rw[Dg];exact A
 by_cases e:k=j
 ·subst e;rw[Bp];simp
 rw[Bh _ _ _ e,Dg];exact A
def Abx (h:faB ops s o=true):o.guard=none/\∃ T b f,o.op=.fieldAddr T (.tmp b) f/\isP (s.tm b)=true:=by
 unfold faB at h;rw[Azb]at h;obtain⟨g,e⟩:=h;refine⟨by simpa using g,?_⟩;split at e
 ·rename_i T b f hop;rw[Azb]at e;exact⟨_,_,_,hop,e.2⟩
 cases e
def Aqx (e:eff P name s o.op=some (x,hw))(h:faB ops s o=true):isV x=false:=by
 obtain⟨_,T,b,f,g,hp⟩:=Abx h;rw[g]at e;unfold eff at e;simp only[show s.ev (.tmp b)=s.tm b from rfl]at e;cases hb:s.tm b with
 |junk=>rw[hb]at hp;cases hp
 |v y=>rw[hb]at hp;cases hp
 |p k off =>
  rw[hb]at e;simp only at e;split at e
  ·simp only[Ayz,Az0]at e;rw[<-e.1];rfl
  cases e
def Asl (b:gv s ops o=some false)(h:faB ops s o=true):False:=by
 obtain⟨e,_⟩:=Abx h;unfold gv at b;rw[e]at b;simp at b
def Ar0 (g:Ka s o.op=true)(h:faB ops s o=true):False:=by
 obtain⟨_,T,b,f,e,hp⟩:=Abx h;unfold Ka at g;rw[Azg]at g;have:=g (.tmp b) (by rw[e];simp[Op.operands]);rw[show s.ev (.tmp b)=s.tm b from rfl]at this;cases hb:s.tm b with
 |junk=>rw[hb]at hp;cases hp
 |v y=>rw[hb]at hp;cases hp
 |p k off=>rw[hb]at this;cases this
def Aqv {o:Op}(b:eff P name s o=some (x,hw))(e:Fu o=true):x=.p name 0/\s.hp name=none:=by
 unfold Fu at e;split at e
 ·unfold eff at b;simp only at b;split at b
  ·split at b
   ·split at b
    ·rename_i hn;split at b
     ·simp at b;exact⟨b.1.symm,hn⟩
     cases b
    cases b
   cases b
  cases b
 ·unfold eff at b;simp only at b;split at b
  ·rename_i hn;split at b
   ·simp at b;exact⟨b.1.symm,hn⟩
   cases b
  cases b
 cases e
def Fit.auto (e:eff P name s o.op=some (x,hw)):Fit ops s o x:=by
 refine⟨Aqx e,fun j _=>by rw[(Aqv e j).1];rfl,fun h k off g=>?_,fun j k off g=>?_⟩
 ·subst g;rcases h with h|h
  ·unfold ixB at h;split at h
   ·rename_i t a b hop;rw[hop]at e;unfold eff at e;simp only at e;split at e
    ·split at e
     ·simp at e
     cases e
    cases e
   cases h
  have h0:=h;unfold faB at h;rw[Azb]at h;obtain⟨_,h⟩:=h;split at h
  ·rename_i T b f hop;rw[Azb]at h;rw[hop]at e;unfold eff at e;simp only[show s.ev (.tmp b)=s.tm b from rfl]at e;cases hb:s.tm b with
   |junk=>rw[hb]at e;cases e
   |v y=>rw[hb]at e;cases e
   |p k' off' =>
    rw[hb]at e;simp only at e;split at e
    ·simp at e;exact⟨b,off',h.1,by rw[hb,e.1.1]⟩
    cases e
  cases h
 obtain⟨l,n⟩:=Aqv e j;rw[l]at g;cases g;exact n
def Fit.skip (b:gv s ops o=some false):Fit ops s o (.v undef) :=
 ⟨fun h=>(Asl b h).elim,fun _ h=>by
  unfold gv at b;rw[show o.guard=none by simpa using h]at b;simp at b,fun _ k off e=>(by cases e),fun _ k off e=>(by cases e)⟩
def Fit.val (f:Ka s o.op=true)(b:Fu o.op=false)(y:Value):Fit ops s o (.v y) :=
 ⟨fun h=>(Ar0 f h).elim,fun h=>(by rw[b]at h;cases h),fun _ k off e=>(by cases e),fun _ k off e=>(by cases e)⟩
def Aih {o:Op}(h:Fe o=false):Fu o=false:=by
 cases o<;>first|rfl|(simp[Fe]at h)
def Ob.step {l:List Nat}(h:Ob P id ops dr Fin (i::l) s u m)(g:Rel c s u m ρ a w) :
 wpOp P ops Q i (fun F w'=>∃ s' n j A,Rel c s' n j A F w'/\Fi ops s s'/\Ob P id ops dr Fin l s' n j) a w:=by
 cases h with
 |auto ho hg hd t hl =>
  simp only[wpOp,ho,Eq g hg,if_true];obtain⟨A,w',y,p,B⟩:=Zr (P:=P) g t (Kv hd);exact .inl (Zy p ⟨_,_,_,_,B,Gh ho _ _ (Fit.auto t),hl⟩)
 |skip ho hg hd hl =>
  simp only[wpOp,ho,Eq g hg,if_false,A1q];exact⟨_,_,_,_,g.put (x:=.v undef) (fun _=>rfl) mV (Kv hd),Gh ho _ none (Fit.skip hg),hl⟩
 |ask ho hg hd hv hs hal hw hl =>
  simp only[wpOp,ho,Eq g hg,if_true];refine .inl (Zy (.inl ?_) ⟨_,_,_,_,g.put (fun _=>rfl) mV (Kv hd),Gh ho _ none (Fit.val hv hal _),hl⟩);rw[Hr g (Ge hs) hv];exact hw w (fun _=>⟨g.gd.pu,g.gd.pm⟩)
 |big ho hg hd hv hs hf hk hw hl =>
  rename_i o K;simp only[wpOp,ho,Eq g hg,if_true];refine .inl ?_;have p:=hw w g.gd;have fin:∀ v w',(∃ n j,Bo n j w'/\Br u m w n j w'/\K v n j)->∃ s' n j A,Rel c s' n j A (a.put o.dst v) w'/\Fi ops s s'/\Ob P id ops dr Fin l s' n j:=by
   rintro v w' ⟨n,j,g1,g2,J⟩;refine⟨_,n,j,ρ,?_,Gh ho _ none (Fit.val hv (Aih hf) _),hl v n j (g2.le g.gd.pu) J⟩;refine Rel.put (x:=.v v) ?_ (fun _=>rfl) mV (Kv hd);refine⟨g.sz,g.tm,g.df.of fun r e _ N E=>⟨by rw[g2.old _ (A3 e) E];exact e,by rw[g2.us _ (A3 e)];exact N,g2.ms _ (A3 e) E⟩,fun k b L=>?_,g.inj,g.lv,g1,g.gr.trans g2⟩;obtain⟨C,H,I,D⟩:=g.box k b L;have q:ρ k<w.heap.size:=by obtain⟨cs,e,_⟩:=C;exact A3 e
   refine⟨?_,H,?_,?_⟩
   ·rw[g2.old _ q D];exact C
   ·rw[g2.us _ q];exact I
   exact g2.ms _ q D
  unfold Eb at p;unfold Oper.wp;rw[Hr g (Ge hs) hv];split at p
  ·rename_i v w' e;rw[e];exact fin _ _ p
  ·rename_i w' e;rw[e];exact fin _ _ p
  ·rename_i f args w' e;rw[e];refine Calls.mono p fun R O t=>?_;obtain⟨v,rfl,B⟩:=t;exact fin _ _ B
  exact p.elim
def Ob.wpOps (b:∀ s u m ρ a w,Fin s u m->Rel c s u m ρ a w->Q .normal a w):∀ {l:List Nat} {s:S} {u m:PH} {ρ:Nat->Nat} {a:Act} {w:World},Ob P id ops dr Fin l s u m->Rel c s u m ρ a w->Go.wpOps P ops Q l a w
 |[],s,u,m,ρ,a,w,h,hr=>by
  cases h with
  |nil h=>exact b _ _ _ _ _ _ h hr
 |i::l,s,u,m,ρ,a,w,h,hr=>by
  rw[wpOps_cons];refine wpOp_mono (fun g w' ⟨s',k,j,n,e,_,f⟩=>?_) (h.step (Q:=Q) hr);exact Ob.wpOps b f e
def Awh (h:∀ e,d=some e->z≠.tmp e):(s.put d x).ev z=s.ev z:=by
 cases z with
 |tmp t=>exact F6 s d x (fun e=>h t e rfl)
 |_=>rfl
def Aq1 {w:Option (Nat×Blk)}:(s.setb w).ev z=s.ev z:=by
 cases z with
 |tmp t=>show (s.setb w).tm t=s.tm t;rw[Fk]
 |_=>rfl
def V1 {w:Option (Nat×Blk)}(h:∀ e,d=some e->e∉o.looksAt ops)(g:z∈o.op.operands):((s.put d x).setb w).ev z=s.ev z:=by
 rw[Aq1];refine Awh fun e f b=>h e f ?_;subst b;exact A0x _ (A8t.2 ⟨.tmp e,by simpa using g,rfl⟩)
def U9 {w:Option (Nat×Blk)}(h:∀ e,d=some e->e∉o.looksAt ops):gv ((s.put d x).setb w) ops o=gv s ops o:=by
 unfold gv;cases hg:o.guard with
 |none=>rfl
 |some p =>
  obtain⟨j,b⟩:=p;simp only;cases hj:ops[j]? with
  |none=>rfl
  |some oj =>
   simp only;cases hd:oj.dst with
   |none=>rfl
   |some e =>
    simp only;rw[Fk,F6 s d x (fun f=>h e f (by simp[Oper.looksAt,hg,hj,hd]))]
def Kj {o:Op}(h:∀ z∈o.operands,s'.ev z=s.ev z):∀ z∈o.operands,Cn s' z=Cn s z:=fun z b=>by unfold Cn;rw[h z b]
def Hd {o:Op}(h:∀ z∈o.operands,s'.ev z=s.ev z):Ka s' o=Ka s o:=by
 unfold Ka;rw[A5h,Azg,Azg];constructor
 ·intro k z b;have:=k z b;rw[h z (by simpa using b)]at this;exact this
 intro k z b;rw[h z (by simpa using b)];exact k z b
def Aqe {e g:Operand->Value}{o:Op}(h:∀ z∈o.operands,g z=e z):pv P g o=pv P e o:=by
 unfold pv;split
 ·rename_i x i;rw[h x (by simp[Op.operands])]
 ·rename_i c x y;rw[h c (by simp[Op.operands]),h x (by simp[Op.operands]),h y (by simp[Op.operands])]
 ·rename_i fn first captured
  rw[A8j (xs:=first) fun x b=>h x (by simp[Op.operands,b]),A8j (xs:=captured) fun x b=>h x (by simp[Op.operands,b])]
 ·rename_i t x;rw[h x (by simp[Op.operands])]
 ·rename_i src dst x;rw[h x (by simp[Op.operands])]
 ·rename_i args ts;cases b:args[0]? with
  |none=>rfl
  |some x =>
   have:x∈args:=by obtain⟨j,rfl⟩:=A2m.1 b;exact Array.getElem_mem j
   cases ht:ts[0]? with
   |none=>rfl
   |some t=>simp only;rw[h x (by simp[Op.operands,Call.operands,this])]
 ·rename_i x;rw[h x (by simp[Op.operands])]
 ·rename_i t ps;have:(ps.toList.map fun (p:Nat×Operand)=>(p.1,g p.2))=ps.toList.map fun (p:Nat×Operand)=>(p.1,e p.2):=A5f fun p hp=>by
   rw[h p.2 (by simp only[Op.operands,A7m,Ayx];exact⟨p,hp,rfl⟩)]
  rw[this]
 ·rename_i t x f;rw[h x (by simp[Op.operands])]
 rfl
def Y4 {s s':S}{name:Nat}{o:Op}(h:∀ z∈o.operands,s'.ev z=s.ev z)(b:Fu o=true->s'.hp name=s.hp name)
 (hp:(Hg o=true\/M1 o=true)->∀ z∈o.operands,∀ k off,s.ev z=.p k off->s'.hp k=s.hp k):eff P name s' o=eff P name s o:=by
 unfold eff;split
 ·rename_i x;rw[h x (by simp[Op.operands])]
 ·rename_i x;rw[h x (by simp[Op.operands])]
 ·rw[b rfl]
 ·rename_i t x;rw[b rfl,h x (by simp[Op.operands])]
 ·rename_i t x;rw[h x (by simp[Op.operands])];split
  ·rename_i k off hk;rw[hp (.inl rfl) x (by simp[Op.operands]) k off hk]
  rfl
 ·rename_i t x y;rw[h x (by simp[Op.operands]),h y (by simp[Op.operands])];split
  ·rename_i k off hk;rw[hp (.inr rfl) x (by simp[Op.operands]) k off hk]
  rfl
 ·rename_i t x f;rw[h x (by simp[Op.operands])]
 rw[Hd h,Aqe (Kj h)]
end sound
end
section
variable {hw:Option (Nat×Blk)}{name:Nat}{o:Op}{s:S}{x:SV}
variable [Cc] [Cm]
section swap
variable {P:Program} {id:Nat} {ops:Array Oper} {dr:Bool} {Fin:S->PH->PH->Prop}
def Ru {k:Nat}{b:Blk}(h:eff P name s o=some (x,some (k,b))) :
 (k=name/\s.hp name=none/\M1 o=false/\Hg o=false)\/(M1 o=true/\s.hp k≠none/\∃ z∈o.operands,∃ off,s.ev z=.p k off):=by
 unfold eff at h;split at h
 ·simp at h
 ·simp at h
 ·split at h
  ·split at h
   ·split at h
    ·split at h
     ·simp at h;exact .inl ⟨h.2.1.symm,by assumption,rfl,rfl⟩
     cases h
    cases h
   cases h
  cases h
 ·split at h
  ·split at h
   ·simp at h;exact .inl ⟨h.2.1.symm,by assumption,rfl,rfl⟩
   cases h
  cases h
 ·split at h
  ·split at h
   ·split at h<;>simp at h
   cases h
  cases h
 ·rename_i t z y;split at h
  ·rename_i k' off hz;split at h
   ·rename_i b' hb;split at h
    ·split at h
     ·rename_i l _ _ n _;cases hc:(Nat.beq l.length n&&Nat.ble (off+n) b'.cells.length) with
      |false=>simp[hc]at h
      |true =>
       simp[hc]at h;obtain⟨_,rfl,_⟩:=h;exact .inr ⟨rfl,by rw[hb];simp,z,by simp[Op.operands],off,hz⟩
     cases h
    cases h
   cases h
  cases h
 ·split at h
  ·split at h<;>simp at h
  cases h
 split at h
 ·split at h<;>simp at h
 cases h
def Ak8 (h:eff P name s o=some (x,hw))(a:Fu o=true):hw≠none:=by
 unfold eff at h;unfold Fu at a;split at a
 ·simp only at h;split at h
  ·split at h
   ·split at h
    ·split at h
     ·simp at h;rw[<-h.2];simp
     cases h
    cases h
   cases h
  cases h
 ·simp only at h;split at h
  ·split at h
   ·simp at h;rw[<-h.2];simp
   cases h
  cases h
 cases a
def Qk (h:Fe o=true):M1 o=false:=by
 unfold M1;split
 ·simp[Fe]at h
 ·simp[Fe]at h
 ·simp[Fe]at h
 rfl
def Ob.redo {x:Nat}{l:List Nat}{u m:PH}{f:Oper}(h:Ob P id ops dr Fin (x::l) s u m)(y:ops[x]?=some f)(O:Fe f.op=true) :
 ∃ Q r,Ob P id ops dr Fin l ((s.put f.dst Q).setb r) u m/\(∀ k b,r=some (k,b)->k=id*1000+x/\s.hp k=none/\Hg f.op=false) /\
  ∀ (a:S) (C B:PH) (L:List Nat),(∀ z∈f.op.operands,a.ev z=s.ev z)->gv a ops f=gv s ops f->a.n=s.n->(r≠none->a.hp (id*1000+x)=s.hp (id*1000+x)) ->
   (Hg f.op=true->∀ z∈f.op.operands,∀ k off,s.ev z=.p k off->a.hp k=s.hp k)->PH.le u C->(Hg f.op=true->PH.le m B\/∃ t tx,f.op=.load t (.tmp tx)/\isV (s.tm tx)=false) ->
   Ob P id ops dr Fin L ((a.put f.dst Q).setb r) C B->Ob P id ops dr Fin (x::L) a C B:=by
 have I:∀ (a:S),a.n=s.n->E1 s f=true->E1 a f=true:=fun a Y q=>by unfold E1 at q⊢;rw[Y];exact q
 cases h with
 |auto ho j q he hl =>
  rw[y]at ho;obtain rfl:=A0j ho;refine⟨_,_,hl,fun k b X=>?_,fun a C B L D E F J K _ _ H=>?_⟩
  ·subst X;rcases Ru he with ⟨rfl,e,_,R⟩|⟨e,_⟩
   ·exact⟨rfl,e,R⟩
   rw[Qk O]at e;cases e
  refine .auto y (E.trans j) (I a F q) ?_ H;rw[Y4 D (fun W=>J (Ak8 he W)) (fun A=>?_),he];rcases A with A|A
  ·exact K A
  rw[Qk O]at A;cases A
 |skip ho j q hl =>
  rw[y]at ho;obtain rfl:=A0j ho;refine⟨.v undef,none,hl,mV,fun a C B L D E F J K _ _ H=>.skip y (E.trans j) (I a F q) H⟩
 |ask ho j q hv hs hal hw hl =>
  rw[y]at ho;obtain rfl:=A0j ho;rename_i v;refine⟨.v v,none,hl,mV,fun a C B L D E F J K V N H=>.ask y (E.trans j) (I a F q) (by rw[Hd D];exact hv) hs hal (fun w hp=>?_) H⟩;rw[execOp_congr _ (Ge hs) (Kj D)];refine hw w fun c=>⟨fun g o j=>(hp c).1 g o (V g o j),fun g o j=>?_⟩;rcases N c with N|⟨t,tx,T,U⟩
  ·exact (hp c).2 g o (N g o j)
  exfalso;unfold Ka at hv;rw[Azg]at hv;have:=hv (.tmp tx) (by rw[T];simp[Op.operands]);rw[show s.ev (.tmp tx)=s.tm tx from rfl,U]at this;cases this
 |big ho j q hv hs hf' hk hw hl =>
  rw[y]at ho;obtain rfl:=A0j ho;rw[O]at hf';cases hf'
def Two (s:S)(ox oy:Oper):Prop:=∃ t tx t' ty v kx ox' ky oy',ox.op=.load t (.tmp tx)/\oy.op=.store t' (.tmp ty) v/\s.tm tx=.p kx ox'/\s.tm ty=.p ky oy'/\kx≠ky
def New (s:S)(ox oy:Oper):Prop:=∃ t tx t' ty v,ox.op=.load t (.tmp tx)/\oy.op=.store t' (.tmp ty) v/\isV (s.tm ty)=false/\∀ k off k' off',s.tm tx=.p k off->s.tm ty=.p k' off'->k≠k'
def Ah7:Op->Bool
 |.call { callee:=.builtin .append,.. }|.call { callee:=.builtin .copy,.. }=>true
 |_=>false
def Own (s:S)(ox oy:Oper):Prop:=Ah7 oy.op=true/\∃ t tx,ox.op=.load t (.tmp tx)/\isV (s.tm tx)=false
def Aq4 (a:eff P name s o=some (x,hw))(h:Ah7 o=true):hw=none:=by
 unfold Ah7 at h;split at h
 ·unfold eff at a;simp only at a;split at a
  ·split at a
   ·simp at a;exact a.2.symm
   cases a
  cases a
 ·unfold eff at a;simp only at a;split at a
  ·split at a
   ·simp at a;exact a.2.symm
   cases a
  cases a
 cases h
def Ob.swap {x y:Nat}{l:List Nat}{s:S}{u m:PH}{C B:Oper}(hL:M6 s)(h:Ob P id ops true Fin (x::y::l) s u m)(hx:ops[x]?=some C)(T:ops[y]?=some B)(a5:x≠y)
 (hf:Fe C.op=true) (a9:Oper.apart ops C B=true) (a4:Hg C.op=true->M4 ops y B.op=false\/Own s C B\/Two s C B\/New s C B) (U:∀ t tx,C.op=.load t (.tmp tx)->Ya ops s tx=true->isV (s.tm tx)=false):Ob P id ops true Fin (y::x::l) s u m:=by
 obtain⟨N,c,h1,hn,redo⟩:=h.redo hx hf;obtain⟨a1,a2,Q⟩:=Oper.apart_spec a9;have W:id*1000+x≠id*1000+y:=oV;have E:∀ z∈B.op.operands,((s.put C.dst N).setb c).ev z=s.ev z:=fun z A=>V1 a1 A;have J:gv ((s.put C.dst N).setb c) ops B=gv s ops B:=U9 a1;have a8:∀ z:Operand,∀ k off,s.ev z=.p k off->s.hp k≠none:=by
  intro z k off A;cases z with
  |tmp t=>exact hL.1 t k off A
  |const v=>cases A
  |global g=>cases A
  |func f=>cases A
 have a6:∀ k,(∀ b,c≠some (k,b))->((s.put C.dst N).setb c).hp k=s.hp k:=by
  intro k r;rcases c with _|⟨j,b⟩
  ·show (s.put C.dst N).hp k=s.hp k;rw[Dg]
  rw[Bh _ _ _ (fun e=>r b (by rw[e])),Dg]
 have ac:∀ k,s.hp k≠none->∀ b,c≠some (k,b):=fun k r b e=>r (hn k b e).2.1;have I:E1 ((s.put C.dst N).setb c) B=E1 s B:=by unfold E1;rw[St,Zo]
 have F:∀ (O:SV) (q:Option (Nat×Blk)),(∀ k b,q=some (k,b)->∀ b',c≠some (k,b')) ->
  ((((s.put C.dst N).setb c).put B.dst O).setb q)=(((s.put B.dst O).setb q).put C.dst N).setb c:=by
  intro O q r;rw[Rw,Rw,Aed s N O a2,Alv];rintro k b k' b' e1 e2 rfl;exact r k b' e2 b e1
 cases h1 with
 |auto ho hg hd he hl =>
  rw[T]at ho;obtain rfl:=A0j ho;rename_i O q;have a:eff P (id*1000+y) s B.op=some (O,q):=by
   rw[<-he];refine (Y4 E (fun _=>a6 _ (fun b e=>W.symm ((hn _ b e).1))) (fun _ z A k off r=>a6 k (ac k (a8 z k off r)))).symm
  have V:∀ k b,q=some (k,b)->∀ b',c≠some (k,b'):=by
   intro k b e b' e';subst e;rcases Ru a with ⟨rfl,_⟩|⟨_,r,_⟩
   ·exact W.symm (hn _ b' e').1
   exact r (hn k b' e').2.1
  refine .auto T (by rw[<-J];exact hg) (by rw[<-I];exact hd) a ?_;have a7:∀ k,(∀ b,q≠some (k,b))->((s.put B.dst O).setb q).hp k=s.hp k:=by
   intro k r;rcases q with _|⟨j,b⟩
   ·show (s.put B.dst O).hp k=s.hp k;rw[Dg]
   rw[Bh _ _ _ (fun e=>r b (by rw[e])),Dg]
  refine redo _ u m l (fun z A=>V1 Q A) (U9 Q) (by rw[St,Zo]) ?_ ?_ (PH.le_refl _) (fun _=>.inl (PH.le_refl _)) ?_
  ·intro X;by_cases r:∃ b,q=some (id*1000+x,b)
   ·obtain⟨b,hb⟩:=r;subst hb;rcases Ru a with ⟨e,_⟩|⟨em,r,z,A,off,ae⟩
    ·exact absurd e W
    rcases c with _|⟨j,b'⟩
    ·exact absurd rfl X
    obtain⟨rfl,e,_⟩:=hn j b' rfl;exact absurd e r
   exact a7 _ (fun b e=>r ⟨b,e⟩)
  ·intro L z A k off r;refine a7 k (fun b e=>?_);subst e;rcases Ru a with ⟨rfl,e,_⟩|⟨em,_⟩
   ·exact a8 z _ off r e
   rcases a4 L with h|⟨q0,_⟩|⟨t,tx,t',D,v,kx,o1,ky,o2,q1,Y,Z,q4,q5⟩|⟨t,tx,t',D,v,q1,Y,Z,q4⟩
   ·rw[Apd h]at em;cases em
   ·cases Aq4 a q0
   case inr.inr.inr =>
    rw[q1]at A;simp only[Op.operands,A7m,Azs]at A;subst A;rw[Y]at a;cases hty:s.tm D with
    |junk=>simp only[eff,show s.ev (.tmp D)=s.tm D from rfl,hty]at a;cases a
    |v y=>simp only[eff,show s.ev (.tmp D)=s.tm D from rfl,hty]at a;cases a
    |p ky o2 =>
     have a5:=q4 k off ky o2 r hty;simp only[eff,show s.ev (.tmp D)=s.tm D from rfl,hty]at a;split at a
     ·split at a
      ·split at a
       ·rename_i n _
        revert a
        cases (Nat.beq _ _&&Nat.ble _ _) with
        |false=>simp
        |true=>simp;intro _ e _;exact absurd e.symm a5
       cases a
      cases a
     cases a
   rw[q1]at A;simp only[Op.operands,A7m,Azs]at A;subst A;have:SV.p k off=.p kx o1:=r.symm.trans Z;simp only[SV.p.injEq]at this;rw[Y]at a;have ad:s.ev (.tmp D)=.p ky o2:=q4;simp only[eff,ad]at a;split at a
   ·split at a
    ·split at a
     ·rename_i n _
      revert a
      cases (Nat.beq _ _&&Nat.ble _ _) with
      |false=>simp
      |true=>simp;intro _ e _;exact absurd (this.1.symm.trans e.symm) q5
     cases a
    cases a
   cases a
  rw[<-F O q V];exact hl
 |skip ho hg hd hl =>
  rw[T]at ho;obtain rfl:=A0j ho;refine .skip T (by rw[<-J];exact hg) (by rw[<-I];exact hd) ?_;refine redo _ u m l (fun z A=>V1 (w:=none) Q A) (U9 (w:=none) Q) (by rw[Zo]) (fun _=>by rw[Dg]) (fun _ _ _ _ _ _=>by rw[Dg]) (PH.le_refl _) (fun _=>.inl (PH.le_refl _)) ?_;have:=F (.v undef) none mV;rw[show (s.put B.dst (.v undef))=(s.put B.dst (.v undef)).setb none from rfl,<-this];exact hl
 |ask ho hg hd hv hs hal hw hl =>
  rw[T]at ho;obtain rfl:=A0j ho;rename_i v;refine .ask (v:=v) T (by rw[<-J];exact hg) (by rw[<-I];exact hd) (by rw[<-Hd E];exact hv) hs hal (fun w hp=>?_) ?_
  ·rw[<-execOp_congr _ (Ge hs) (Kj E)];exact hw w hp
  refine redo _ u m l (fun z A=>V1 (w:=none) Q A) (U9 (w:=none) Q) (by rw[Zo]) (fun _=>by rw[Dg]) (fun _ _ _ _ _ _=>by rw[Dg]) (PH.le_refl _) (fun _=>.inl (PH.le_refl _)) ?_;have:=F (.v v) none mV;rw[show (s.put B.dst (.v v))=(s.put B.dst (.v v)).setb none from rfl,<-this];exact hl
 |big ho hg hd hv hs hf' r hw hl =>
  rw[T]at ho;obtain rfl:=A0j ho;rename_i K;have R:Mr ops ((s.put C.dst N).setb c)=Mr ops s:=Aaz fun t ht=>by
   rw[Fk,F6];intro aa;unfold O8 at ht;rw[Azg]at ht;have:=ht C (Aaw hx);rw[aa]at this;simp at this
  refine .big (K:=K) T (by rw[<-J];exact hg) (by rw[<-I];exact hd) (by rw[<-Hd E];exact hv) hs hf' (by rw[<-R];exact r) (fun w ab=>?_) (fun v u' m' a0 hK=>?_)
  ·have:=hw w ab;unfold Eb at this⊢;rw[<-execOp_congr _ (Ge hs) (Kj E)];exact this
  refine redo _ u' m' l (fun z A=>V1 (w:=none) Q A) (U9 (w:=none) Q) (by rw[Zo]) (fun _=>by rw[Dg]) (fun _ _ _ _ _ _=>by rw[Dg]) a0 (fun L=>?_) ?_
  ·rcases r v u' m' hK with h|h|h|h
   ·exact .inl h
   ·cases h
   ·rcases a4 L with h'|⟨_,q0⟩|⟨t,tx,t',D,v,kx,o1,ky,o2,q1,Y,Z,q4,q5⟩|⟨t,tx,t',D,v,q1,Y,Z,q4⟩
    ·rw[h']at h;cases h
    ·exact .inr q0
    case inr.inr.inr =>
     exfalso;rw[Hd E]at hv;unfold Ka at hv;rw[Azg]at hv;have:=hv (.tmp D) (by rw[Y];simp[Op.operands]);rw[show s.ev (.tmp D)=s.tm D from rfl]at this;cases hty:s.tm D with
     |junk=>rw[hty]at this;cases this
     |v y=>rw[hty]at Z;cases Z
     |p k off=>rw[hty]at this;cases this
    exfalso;rw[Hd E]at hv;unfold Ka at hv;rw[Azg]at hv;have:=hv (.tmp D) (by rw[Y];simp[Op.operands]);rw[show s.ev (.tmp D)=.p ky o2 from q4]at this;cases this
   right;rw[R]at h;unfold Mr at h;rw[Azg]at h;have H:=h C (Aaw hx);rw[L]at H;simp only[A4k,A7f]at H;unfold Adn at H;split at H
   ·rename_i t tx hop;refine⟨t,tx,hop,?_⟩;rw[A1z,Azb]at H;rcases H with ⟨_,H⟩|H
    ·cases hb:s.tm tx with
     |junk=>rfl
     |v y=>rw[hb]at H;cases H
     |p k off=>rfl
    exact U t tx hop H
   cases H
  have:=F (.v v) none mV;rw[show (s.put B.dst (.v v))=(s.put B.dst (.v v)).setb none from rfl,<-this];exact hl v u' m' a0 hK
end swap
end
section
variable {ox oy:Oper}{s s':S}{x:Nat}
variable [Cc] [Cm]
section live
variable {P:Program}
def Aqr {H:Nat}{o:Op}{x:SV}{q:Option (Nat×Blk)}(h:eff P H s o=some (x,q))(B:M6 s)(d:Option Nat):M6 ((s.put d x).setb q):=by
 have a:∀ (z:Operand) (k off:Nat),s.ev z=.p k off->s.hp k≠none:=by
  intro z k off u;cases z with
  |tmp t=>exact B.1 t k off u
  |const v=>cases u
  |global g=>cases u
  |func f=>cases u
 have key:∀ (x:SV) (q:Option (Nat×Blk)),(∀ k off,x=.p k off->s.hp k≠none\/∃ b,q=some (k,b))->(∀ j b,q=some (j,b)->∀ k off,SV.p k off∈b.cells->s.hp k≠none)->M6 ((s.put d x).setb q):=by
  intro x q J K;have hp:∀ k,s.hp k≠none->((s.put d x).setb q).hp k≠none:=by
   intro k I;rcases q with _|⟨j,b⟩
   ·show (s.put d x).hp k≠none;rw[Dg];exact I
   by_cases e:k=j
   ·rw[e,Bp];simp
   rw[Bh _ _ _ e,Dg];exact I
  refine⟨fun e k off E=>?_,fun j b k off A m=>?_⟩
  ·rw[Fk]at E;by_cases D:d=some e
   ·subst D;rw[A4]at E;rcases J k off E with h|⟨b,rfl⟩
    ·exact hp k h
    rw[Bp];simp
   rw[F6 _ _ _ D]at E;exact hp k (B.1 e k off E)
  rcases q with _|⟨i,b'⟩
  ·change (s.put d x).hp j=some b at A;rw[Dg]at A;exact hp k (B.2 j b k off A m)
  by_cases e:j=i
  ·subst e;rw[Bp]at A;obtain rfl:=A0j A;exact hp k (K j b' rfl k off m)
  rw[Bh _ _ _ e,Dg]at A;exact hp k (B.2 j b k off A m)
 unfold eff at h;split at h
 ·rename_i z;simp at h;obtain⟨rfl,rfl⟩:=h;exact key _ _ (fun k off e=>.inl (a z k off e)) mV
 ·rename_i z;simp at h;obtain⟨rfl,rfl⟩:=h;exact key _ _ (fun k off e=>.inl (a z k off e)) mV
 ·split at h
  ·split at h
   ·split at h
    ·split at h
     ·rename_i l hl;simp at h;obtain⟨rfl,rfl⟩:=h;obtain⟨_,_,_,C,_⟩:=Fm hl (fun _=>0);exact key _ _ (fun k off e=>.inr (by simp at e;exact⟨_,by rw[e.1]⟩)) (fun j b e k off m=>by simp at e;obtain⟨_,rfl⟩:=e;cases C k off m)
     cases h
    cases h
   cases h
  cases h
 ·rename_i t z;split at h
  ·split at h
   ·rename_i l hl;simp at h;obtain⟨rfl,rfl⟩:=h;obtain⟨_,_,_,C,_⟩:=Fm hl (fun _=>0);exact key _ _ (fun k off e=>.inr (by simp at e;exact⟨_,by rw[e.1]⟩)) (fun j b e k off m=>by simp at e;obtain⟨_,rfl⟩:=e;exact a z k off (C k off m))
   cases h
  cases h
 ·split at h
  ·split at h
   ·rename_i k off u b hb;split at h
    ·rename_i y hy;simp at h;obtain⟨rfl,rfl⟩:=h;have F:∀ r o',y=.p r o'->SV.p r o'∈b.cells:=by
      intro r o' e;subst e;unfold ldv at hy;split at hy
      ·split at hy
       ·split at hy
        ·rename_i l _ n _ _ _
         revert hy;cases (Nat.beq _ _)<;>simp
        cases hy
       cases hy
      ·split at hy
       ·simp at hy
       ·rename_i hx;simp at hy;obtain⟨rfl,rfl⟩:=hy;exact Ay9 hx
       cases hy
      cases hy
     exact key _ _ (fun r o' e=>.inl (B.2 _ b r o' hb (F r o' e))) mV
    cases h
   cases h
  cases h
 ·rename_i t z y;split at h
  ·rename_i r off u;split at h
   ·rename_i b' hb;split at h
    ·rename_i l hl;split at h
     ·rename_i n _;cases hc:(Nat.beq l.length n&&Nat.ble (off+n) b'.cells.length) with
      |false=>simp[hc]at h
      |true =>
       simp[hc]at h;obtain⟨rfl,rfl⟩:=h;obtain⟨_,_,_,C,_⟩:=Fm hl (fun _=>0);refine key _ _ mV (fun j b e k off m=>?_);simp at e;obtain⟨rfl,rfl⟩:=e;rcases We m with m|m
       ·exact B.2 r b' k off hb m
       exact a y k off (C k off m)
     cases h
    cases h
   cases h
  cases h
 ·rename_i t z f;split at h
  ·rename_i k off u;split at h
   ·simp at h;obtain⟨rfl,rfl⟩:=h;exact key _ _ (fun r o' e=>.inl (by simp at e;rw[<-e.1];exact a z k off u)) mV
   cases h
  cases h
 split at h
 ·split at h
  ·simp at h;obtain⟨rfl,rfl⟩:=h;exact key _ _ mV mV
  cases h
 cases h
def W6 (g:M6 s)(d:Option Nat)(v:Value):M6 (s.put d (.v v)):=by
 refine⟨fun e k off f=>?_,fun j b k off h l=>?_⟩
 ·rw[Dg];by_cases a:d=some e
  ·subst a;rw[A4]at f;cases f
  rw[F6 _ _ _ a]at f;exact g.1 e k off f
 rw[Dg]at h⊢;exact g.2 j b k off h l
end live
section drawn
variable {P:Program} {id:Nat} {ops:Array Oper} {Fin:S->PH->PH->Prop} {c:Cx} {Q:Exit->Act->World->Prop}
def Ob.mapTail {a:Bool}{L e:List Nat}{u m:PH}(b:M6 s)(h:Ob P id ops a Fin (x::L) s u m)(f:∀ s' u m,M6 s'->Fi ops s s'->Ob P id ops a Fin L s' u m->Ob P id ops a Fin e s' u m):Ob P id ops a Fin (x::e) s u m:=by
 cases h with
 |auto ho hg hd he hl=>exact .auto ho hg hd he (f _ _ _ (Aqr he b _) (Gh ho _ _ (Fit.auto he)) hl)
 |skip ho hg hd hl=>exact .skip ho hg hd (f _ _ _ (W6 b _ _) (Gh ho _ none (Fit.skip hg)) hl)
 |ask ho hg hd hv hs hal hw hl=>exact .ask ho hg hd hv hs hal hw (f _ _ _ (W6 b _ _) (Gh ho _ none (Fit.val hv hal _)) hl)
 |big ho hg hd hv hs hf hk hw hl=>exact .big ho hg hd hv hs hf hk hw (fun v l k g j=>f _ _ _ (W6 b _ _) (Gh ho _ none (Fit.val hv (Aih hf) _)) (hl v l k g j))
def Avi (ops:Array Oper)(s:S)(ox oy:Oper):Bool :=
 match ox.op with
 |.load _ (.tmp tx)=>match oy.op with
  |.store _ (.tmp ty) _=>O8 ops tx&&O8 ops ty&&(match s.tm tx with
   |.p kx _=>match s.tm ty with|.p ky _=>!Nat.beq kx ky|_=>false
   |_=>false)
  |_=>false
 |_=>false
def Av9 {ops:Array Oper}(h:Avi ops s ox oy=true)(b:Fi ops s s'):Two s' ox oy:=by
 unfold Avi at h;split at h
 ·rename_i t tx e1;split at h
  ·rename_i t' ty v e2;simp only[Azb]at h;obtain⟨⟨f,g⟩,a⟩:=h;split at a
   ·rename_i kx o1 e3;split at a
    ·rename_i ky o2 e4;refine⟨t,tx,t',ty,v,kx,o1,ky,o2,e1,e2,by rw[b.eq tx f];exact e3,by rw[b.eq ty g];exact e4,fun e=>?_⟩;rw[e]at a;simp at a
    cases a
   cases a
  cases h
 cases h
def Awn (ops:Array Oper)(s:S)(ox oy:Oper):Bool :=
 match ox.op with
 |.load _ (.tmp tx)=>match oy.op with
  |.store _ (.tmp ty) _=>Amb ops s tx&&alB ops ty&&(match s.tm ty with|.junk=>true|_=>false)
  |_=>false
 |_=>false
def Avp {ops:Array Oper}(h:Awn ops s ox oy=true)(f:Fi ops s s')(m:M6 s):New s' ox oy:=by
 unfold Awn at h;split at h
 ·rename_i t tx e1;split at h
  ·rename_i t' ty v e2;simp only[Azb]at h;obtain⟨⟨n,g⟩,j⟩:=h;have l:s.tm ty=.junk:=by
    split at j
    ·assumption
    cases j
   refine⟨t,tx,t',ty,v,e1,e2,f.nw ty g (by rw[l];rfl),fun k off u a p r e=>?_⟩;subst e;have o:s.hp k≠none:=by
    rcases f.ol tx k off n p with q|⟨b,y,_,q⟩
    ·exact m.1 _ _ _ q
    exact m.1 _ _ _ q
   rcases f.fr ty k a g r with q|q
   ·rw[l]at q;cases q
   exact o q
  cases h
 cases h
def Av3 {ops:Array Oper}(h:Adn ops s ox=true)(b:Fi ops s s')(f:∀ t tx,ox.op=.load t (.tmp tx)->Ya ops s' tx=true->isV (s'.tm tx)=false):∃ t tx,ox.op=.load t (.tmp tx)/\isV (s'.tm tx)=false:=by
 unfold Adn at h;split at h
 ·rename_i t tx hop;refine⟨t,tx,hop,?_⟩;rw[A1z,Azb]at h;rcases h with ⟨e,a⟩|h
  ·rw[b.eq tx e];cases hb:s.tm tx with
   |junk=>rfl
   |v y=>rw[hb]at a;cases a
   |p k off=>rfl
  exact f t tx hop (by rw[Mq b.eq];exact h)
 cases h
def At5 (ops:Array Oper)(s:S)(o:Oper):Bool:=match o.op with
 |.load _ (.tmp t)=>!(isV (s.tm t)&&Ya ops s t)
 |_=>true
def Afa (ops:Array Oper)(s:S)(x y:Nat):Bool :=
 match ops[x]? with
 |some ox=>match ops[y]? with
  |some oy=>Fe ox.op&&Oper.apart ops ox oy&&(!(Hg ox.op&&M4 ops y oy.op)||Avi ops s ox oy||Awn ops s ox oy||(Adn ops s ox&&Ah7 oy.op)) && !Nat.beq x y&&At5 ops s ox
  |none=>false
 |none=>false
def dir (ops:Array Oper)(i x:Nat):Bool:=match ops[i]? with
 |some o=>o.after.toList.any fun e=>Region.binds .any e&&Nat.beq e.on x
 |none=>false
def Ed (ops:Array Oper)(s:S)(x y:Nat):Bool:=!(dir ops x y) && !(Nat.beq x y)&&(dir ops y x||Afa ops s x y||bef ops ops.size y x)
def Mw (ops:Array Oper)(s:S):List Nat->Bool
 |[]=>true
 |x::l=>l.all (Ed ops s x)&&Mw ops s l
def Hs (ops:Array Oper)(i:Nat):Bool:=match ops[i]? with
 |some o=>o.after.toList.all fun e=>!Region.binds .any e||(Nat.blt e.on ops.size && !Nat.beq e.on i)
 |none=>false
def Aok (ops:Array Oper)(s:S)(T:List Nat):Bool :=
 Nat.beq T.length ops.size&&(List.range ops.size).all (fun i=>T.contains i)&&T.all (fun i=>Nat.blt i ops.size)&&Mw ops s T&&(List.range ops.size).all (Hs ops)
def Ef {ops:Array Oper}{s:S}:∀ {T:List Nat},Mw ops s T=true->T.Pairwise (fun x y=>Ed ops s x y=true)
 |[],_=>List.Pairwise.nil
 |x::l,h=>by
  simp only[Mw,Azb,Azg]at h;exact List.Pairwise.cons h.1 (Ef h.2)
def Agx (ops:Array Oper)(listed:Array Bool):Prop:=∀ i,listed.getD i false=true->∀ o,ops[i]?=some o->∀ e∈o.after,Region.binds .any e=true->listed.getD e.on false=true
def Fd {a:Array Bool}(b:Agx ops a){x:Nat}:∀ (f i:Nat),(∀ o,ops[i]?=some o->∀ e∈o.after,Region.binds .any e=true->a.getD e.on false=true)->bef ops f i x=true->a.getD x false=true
 |0,i,_,h=>by simp[bef]at h
 |f+1,i,hi,h=>by
  unfold bef at h;cases ho:ops[i]? with
  |none=>simp[ho]at h
  |some o =>
   simp only[ho,A4c,Azb,A1z]at h;obtain⟨e,k,j,h⟩:=h;have g:=hi o ho e (by simpa using k) j;rcases h with h|h
   ·rw[<-Azp h];exact g
   exact Fd b f e.on (b e.on g) h
def Wl {a:Array Bool}{i x:Nat}(hi:∀ o,ops[i]?=some o->∀ e∈o.after,Region.binds .any e=true->a.getD e.on false=true)(h:dir ops i x=true):a.getD x false=true:=by
 unfold dir at h;cases ho:ops[i]? with
 |none=>simp[ho]at h
 |some o =>
  simp only[ho,A4c,Azb]at h;obtain⟨e,f,b,h⟩:=h;rw[<-Azp h];exact hi o ho e (by simpa using f) b
def Ob.bubble {s0:S}(f:M6 s0){i:Nat}{B:List Nat}:∀ (A:List Nat),(∀ x∈A,Afa ops s0 x i=true)->∀ {s:S} {u m:PH},M6 s->Fi ops s0 s->Ob P id ops true Fin (A++i::B) s u m->Ob P id ops true Fin (i::(A++B)) s u m
 |[],_,s,u,m,_,_,h=>h
 |x::A,hx,s,u,m,hL,hag,h=>by
  have r:Ob P id ops true Fin (x::i::(A++B)) s u m:=h.mapTail hL fun s' u m l C D=>Ob.bubble f A (fun y E=>hx y (Azq _ E)) l (hag.trans C) D;have j:=hx x mV;unfold Afa at j;cases hox:ops[x]? with
  |none=>simp[hox]at j
  |some ox =>
   cases hoy:ops[i]? with
   |none=>simp[hox,hoy]at j
   |some oy =>
    simp only[hox,hoy,Azb,A1z,A1b,A6j]at j;obtain⟨⟨⟨⟨p,q⟩,a⟩,o⟩,k⟩:=j;have g:∀ t tx,ox.op=.load t (.tmp tx)->Ya ops s tx=true->isV (s.tm tx)=false:=fun t tx n b=>by
     rw[Mq hag.eq]at b;unfold At5 at k;rw[n]at k;simp only[b,Bool.and_true,A1b]at k;exact hag.pt tx b k
    refine r.swap hL hox hoy (fun e=>?_) p q (fun l=>?_) g
    ·rw[e]at o;simp at o
    rcases a with (((a|a)|a)|a)|a
    ·rw[l]at a;cases a
    ·exact .inl a
    ·exact .inr (.inr (.inl (Av9 a hag)))
    ·exact .inr (.inr (.inr (Avp a hag f)))
    exact .inr (.inl ⟨a.2,Av3 a.1 hag g⟩)
def Ob.wpAny {s0:S}(a3:M6 s0)(hE:(List.range ops.size).all (Hs ops)=true)(hF:∀ s u m ρ a w,Fin s u m->Rel c s u m ρ a w->Q .normal a w) :
 ∀ (n:Nat) (T:List Nat) (b:Array Bool) {s:S} {u m:PH} {ρ:Nat->Nat} {a:Act} {w:World},T.length=n->b.size=ops.size->(∀ i,i<ops.size->(b.getD i true=false↔i∈T))->(∀ i∈T,i<ops.size)->T.Nodup->Agx ops b ->
  T.Pairwise (fun x y=>Ed ops s0 x y=true)->Fi ops s0 s->Ob P id ops true Fin T s u m->Rel c s u m ρ a w->Go.wpAny P .any ops Q n b a w:=by
 have f:∀ (b:Array Bool) (i:Nat),i∈Region.ready .any ops b↔i<ops.size/\b.getD i true=false/\∃ o,ops[i]?=some o/\∀ e∈o.after,Region.binds .any e=true->b.getD e.on false=true:=by
  intro b i;simp only[Region.ready,A2v,A64,Azb,A1b];refine and_congr_right fun hi=>and_congr_right fun _=>?_;have ho:ops[i]?=some ops[i]:=A0l hi;rw[ho];simp only[A1n,A07,A8u,Ayz,exists_eq_left',A1z,A1b];constructor
  ·intro h e C r;rcases h e C with h|h
   ·rw[r]at h;cases h
   exact h
  intro h e C;cases r:Region.binds .any e with
  |false=>exact .inl rfl
  |true=>exact .inr (h e C r)
 intro n;induction n with
 |zero =>
  intro T b s u m ρ a w g a1 K q F N hP L hO hr;have:T = []:=A0a g;subst this;refine⟨?_,?_⟩
  ·rw[List.eq_nil_iff_forall_not_mem];intro i hi;obtain⟨W,h2,_⟩:=(f b i).1 hi;exact absurd ((K i W).1 h2) mV
  cases hO with
  |nil h=>exact hF _ _ _ _ _ _ h hr
 |succ n ih =>
  intro T b s u m ρ a w g a1 K q F N hP L hO hr;refine⟨fun Y=>?_,fun i hi=>?_⟩
  ·cases T with
   |nil=>simp at g
   |cons t T' =>
    exfalso;have V:=q t mV;have:t∈Region.ready .any ops b:=by
     refine (f b t).2 ⟨V,(K t V).2 mV,ops[t],A0l V,fun e C r=>?_⟩;rw[Azg]at hE;have D:=hE t (by simpa using V);unfold Hs at D;rw[A0l V]at D;simp only[Azg]at D;have:=D e (by simpa using C);simp only[r,A4k,A7f,Azb,A1b]at this;have E:e.on<ops.size:=A5t▸this.1;have a6:e.on≠t:=fun h=>by rw[h]at this;simp at this
     cases R:b.getD e.on true with
     |true =>
      have W:e.on<b.size:=oV;simp only[Azn,A0l W,A07]at R⊢;exact R
     |false =>
      have U:=(K e.on E).1 R;rcases Ay7.1 U with U|U
      ·exact absurd U a6
      have:=A0m hP U;unfold Ed at this;simp only[Azb,A1b]at this;have a5:dir ops t e.on=true:=by
       unfold dir;rw[A0l V];simp only[A4c,Azb];exact⟨e,by simpa using C,r,mV⟩
      rw[a5]at this;exact absurd this.1.1 mV
    rw[Y]at this;cases this
  obtain⟨W,h2,o,ho,I⟩:=(f b i).1 hi;have U:=(K i W).1 h2;obtain⟨A,B,rfl⟩:=A3i U;have a2:(A++B).length=n:=by simp at g⊢;omega
  have E:i<b.size:=oV;have a7:∀ x∈A,Afa ops s0 x i=true:=by
   intro x hx;have hp:=(A1e.1 hP).2.2 x hx i mV;unfold Ed at hp;simp only[Azb,A1z]at hp;have a0:∀ o',ops[i]?=some o'->∀ e∈o'.after,Region.binds .any e=true->b.getD e.on false=true:=fun o' p=>by rw[ho]at p;obtain rfl:=A0j p;exact I
   have Z:b.getD x false=true->False:=by
    intro R;have a8:=q x (by simp[hx]);have:=(K x a8).2 (by simp[hx]);have h3:x<b.size:=oV;simp only[Azn,A0l h3,A07]at R this;rw[this]at R;cases R
   rcases hp.2 with (h|h)|h
   ·exact (Z (Wl a0 h)).elim
   ·exact h
   exact (Z (Fd N ops.size i a0 h)).elim
  have a4:=Ob.bubble a3 A a7 hr.lv L hO;refine wpOp_mono (fun a' w' ⟨s',u',m',ρ',r1,ra,r2⟩=>?_) (a4.step (Q:=Q) hr);have H:(A++B).Nodup/\i∉A++B:=by
   rw[A1h]at F⊢;simp only[A1i,Ay7,Ay5]at F⊢;obtain⟨n1,⟨n2,n3⟩,n4⟩:=F;exact⟨⟨n1,n3,fun x hx y hy=>n4 x hx y (.inr hy)⟩,fun h=>h.elim (fun h=>n4 i h i (.inl rfl) rfl) n2⟩
  refine ih (A++B) _ a2 (by simpa using a1) (fun j O=>?_) (fun j O=>q j ?_) H.1 ?_ ?_ (L.trans ra) r2 r1
  ·by_cases l:j=i
   ·subst l;simp only[Azn,A2n E,A07];exact⟨fun h=>absurd h mV,fun h=>absurd h H.2⟩
   have:=K j O;simp only[Azn,A0s (fun h=>l h.symm)]at this⊢;rw[this];simp[l]
  ·simp only[Ay5,Ay7]at O⊢;rcases O with h|h
   ·exact .inl h
   exact .inr (.inr h)
  ·intro j O o' p e C r;have J:∀ k,b.getD k false=true->(b.setIfInBounds i true).getD k false=true:=by
    intro k hk;by_cases X:k=i
    ·subst X;simp only[Azn,A2n E,A07]
    simp only[Azn,A0s (fun h=>X h.symm)]at hk⊢;exact hk
   by_cases l:j=i
   ·subst l;rw[ho]at p;obtain rfl:=A0j p;exact J _ (I e C r)
   refine J _ (N j ?_ o' p e C r);simp only[Azn,A0s (fun h=>l h.symm)]at O⊢;exact O
  exact hP.sublist (A2h (A2p i B) A)
end drawn
end
end Go.Proofs.YtijchbjkdllolaaGreatDoor
