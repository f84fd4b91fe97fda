/- Parts of one proof, joined by a program. -/
import Derived.Orders
import Derived.KernelRfl
import Derived.Laws.CopyRow
import Derived.Laws.World
import Derived.Laws.Entries
set_option linter.unusedVariables false
set_option linter.unusedSimpArgs false
set_option linter.unusedSectionVars false
set_option maxHeartbeats 16000000
namespace Go.Proofs.YtanfagpabkdmiaaGreatDoor
open _root_.Array renaming getD_eq_getD_getElem? -> A1f, getElem?_eq_getElem -> A2g, getElem?_eq_some_iff -> A4z, getElem?_push -> Bad, getElem?_setIfInBounds_ne -> A2l, getElem?_setIfInBounds_self_of_lt -> A4b, length_toList -> A29, map_congr_left -> A94, toArray_toList -> A5v
open Bool renaming and_eq_true -> A05, false_or -> Baa, not_eq_true -> A82, not_eq_true' -> A21, not_true -> A56, or_eq_true -> A3o
open Instr renaming field -> Bcq, fill -> A73, sureAddr -> A3x
open Int renaming mul_zero -> Bce, one_mul -> Ba9
open List renaming all_eq_true -> A08, any_eq_true -> A6l, append_assoc -> A1j, eq_nil_of_length_eq_zero -> A13, getD_eq_getElem?_getD -> A0o, getElem?_append -> A5w, getElem?_drop -> A4n, getElem?_eq_getElem -> A0n, getElem?_eq_none -> A1g, getElem?_take -> A3m, getElem?_toArray -> A2x, length_cons -> A2n, length_take -> A00, mem_append -> A01, mem_cons -> A02, mem_of_getElem? -> A1b, mem_of_mem_drop -> A3k, mem_of_mem_take -> A2r, mem_singleton -> A1t, mem_toArray -> A83, range -> A1q, replicate -> A0x, take_of_length_le -> A03
open Nat renaming add_sub_cancel -> A5l, add_zero -> A3f, beq -> A17, ble -> A55, blt -> A8g, blt_eq -> A68, eq_of_beq_eq_true -> A1h, le_of_ble_eq_true -> A7y, le_refl -> A0w, le_trans -> A0q, lt_of_lt_of_le -> A2e, lt_or_ge -> A11, min_eq_left -> A32, mul_comm -> A10, pow_le_pow_right -> A1l, pow_succ -> A16, strongRecOn -> A6t
open Option renaming getD_some -> A2y, some.inj -> A2d, some.injEq -> A0t
open Prod renaming mk.injEq -> A1r
open Result renaming andThen_ok -> A0y, ok -> Bcz
open Sem renaming run_bind -> A1n, run_map -> A9n, run_pure -> A3g
section
theorem kV.{u} {α:Sort u}{a b:α}(h:a=b:=by kernel_rfl):a=b:=h
theorem oV {p:Prop}(h:p:=by omega):p:=h
theorem mV {p:Prop}(h:p:=by simp):p:=h
theorem dV {p:Prop}(h:p:=by dsimp only;omega):p:=h
theorem gV {p:Prop}(h:p:=by simp;omega):p:=h
theorem jV {p:Prop}(h:p:=by decide +kernel):p:=h
theorem fV {p:Prop}(h:p:=by decide):p:=h
end
section
variable {l:List Nat}{n:Nat}
def val:List Nat->Nat
 |[]=>0
 |d::l=>d+1000000000*val l
def Low (l:List Nat):Prop:=∀ d,d∈l->d<1000000000
def Aa (n:Nat):List Nat:=if h:n=0 then [] else n%1000000000::Aa (n/1000000000)
termination_by n
decreasing_by omega
def nl (n:Nat):Nat:=(Aa n).length
theorem Bd:Aa 0 = []:=by unfold Aa;simp
theorem Ex (h:n≠0):Aa n=n%1000000000::Aa (n/1000000000):=by
 rw[Aa];simp[h]
theorem Aj (n:Nat):val (Aa n)=n:=by
 induction n using A6t with
 |_ n ih =>
  by_cases h:n=0
  ·subst h;simp[Bd,val]
  ·rw[Ex h];simp only[val];rw[ih _ oV];omega
theorem Am (n:Nat):Low (Aa n):=by
 induction n using A6t with
 |_ n ih =>
  by_cases h:n=0
  ·subst h;simp[Bd,Low]
  ·rw[Ex h];intro d hd;rcases A02.1 hd with rfl|hd
   ·omega
   ·exact ih _ oV d hd
theorem Fh :Aa n = []↔n=0:=by
 constructor
 ·intro h;have:=Aj n;rw[h]at this;simp[val]at this;omega
 ·rintro rfl;exact Bd
theorem Nb (l m:List Nat):val (l++m)=val l+1000000000^l.length*val m:=by
 induction l with
 |nil=>simp[val]
 |cons d l ih =>
  simp only[List.cons_append,val,ih,A2n,A16];rw[Nat.mul_add,<-Nat.mul_assoc,A10 1000000000 (1000000000^l.length),Nat.add_assoc]
theorem Hp (l:List Nat)(d:Nat):val (l++[d])=val l+1000000000^l.length*d:=by
 rw[Nb];simp[val]
theorem Low.nil:Low []:=by simp[Low]
theorem Low.cons {d:Nat}(h:d<1000000000)(hl:Low l):Low (d::l):=by
 intro x hx;rcases A02.1 hx with rfl|hx
 ·exact h
 ·exact hl x hx
theorem Low.append {l m:List Nat}(h:Low l)(k:Low m):Low (l++m):=by
 intro x hx;rcases A01.1 hx with hx|hx
 ·exact h x hx
 ·exact k x hx
theorem Low.take (h:Low l)(k:Nat):Low (l.take k):=fun x hx=>h x (A2r hx)
theorem Low.drop (h:Low l)(k:Nat):Low (l.drop k):=fun x hx=>h x (A3k hx)
theorem Low.zeros (k:Nat):Low (A0x k 0):=by intro x hx;have:=List.eq_of_mem_replicate hx;omega
theorem Low.getD (h:Low l)(k:Nat):l.getD k 0<1000000000:=by
 by_cases hk:k<l.length
 ·rw[A0o,A0n hk];exact h _ (List.getElem_mem hk)
 ·rw[A0o,A1g oV];simp
theorem Ip (h:Low l):val l<1000000000^l.length:=by
 induction l with
 |nil=>simp[val]
 |cons d l ih =>
  have h1:=h d mV;have h2:=ih (fun x hx=>h x (by simp[hx]));simp only[val,A2n,A16];have:val l+1<=1000000000^l.length:=h2;have:=Nat.mul_le_mul_left 1000000000 this;rw[A10 (1000000000^l.length)];omega
theorem Vi (k:Nat):val (A0x k 0)=0:=by
 induction k with
 |zero=>rfl
 |succ k ih=>simp[List.replicate_succ,val,ih]
theorem B3 (l:List Nat)(k:Nat):val (l.take (k+1))=val (l.take k)+1000000000^k*l.getD k 0:=by
 by_cases hk:k<l.length
 ·rw[List.take_succ_eq_append_getElem hk,Hp,A00,A32 oV];simp[hk]
 ·rw[A03 oV,A03 oV];have:l[k]?=none:=A1g oV;simp[this]
def Bj (l:List Nat):Nat->Nat
 |0=>0
 |n+1=>if l.getD n 0=0 then Bj l n else n+1
theorem I9 (l:List Nat)(n:Nat):Bj l n<=n:=by
 induction n with
 |zero=>simp[Bj]
 |succ n ih=>simp only[Bj];split<;>omega
theorem Mp (h:n≠0):(Aa n).getD ((Aa n).length-1) 0≠0:=by
 induction n using A6t with
 |_ n ih =>
  rw[Ex h];by_cases hd:n/1000000000=0
  ·rw[hd,Bd];simp;omega
  ·have h1:=ih _ oV hd;have h2:(Aa (n/1000000000)).length≠0:=by
    intro e;exact hd (Fh.1 (A13 e))
   simp only[A2n,A5l];obtain⟨m,hm⟩:∃ m,(Aa (n/1000000000)).length=m+1:=⟨_,(Nat.succ_pred_eq_of_ne_zero h2).symm⟩;rw[hm]at h1⊢;simpa using h1
theorem Afp (h:Low l)(hz:l≠[]->l.getD (l.length-1) 0≠0):Aa (val l)=l:=by
 induction l with
 |nil=>simp[val,Bd]
 |cons d l ih =>
  have h1:=h d mV;have hl:Low l:=fun x hx=>h x (by simp[hx]);have hz':l≠[]->l.getD (l.length-1) 0≠0:=by
   intro hne;have:=hz mV;obtain⟨m,hm⟩:∃ m,l.length=m+1:=⟨l.length-1,by have:=List.length_pos_iff.2 hne;omega⟩;simp only[A2n,A5l,hm]at this⊢;simpa using this
  have hne:val (d::l)≠0:=by
   by_cases hnil:l = []
   ·subst hnil;have:=hz mV;simp at this;simp[val];omega
   ·intro e;have e1:=ih hl hz';simp only[val]at e;have:val l=0:=oV
    rw[this,Bd]at e1;exact hnil e1.symm
  rw[Ex hne];simp only[val];rw[show (d+1000000000*val l)%1000000000=d by omega,show (d+1000000000*val l)/1000000000=val l by omega,ih hl hz']
theorem Qv (l:List Nat)(n:Nat):val (l.take (Bj l n))=val (l.take n):=by
 induction n with
 |zero=>simp[Bj]
 |succ n ih =>
  simp only[Bj];split
  ·rename_i h;rw[ih,B3,h];simp
  ·rfl
theorem Qo (l:List Nat)(n:Nat)(h:Bj l n≠0):l.getD (Bj l n-1) 0≠0:=by
 induction n with
 |zero=>simp[Bj]at h
 |succ n ih =>
  simp only[Bj]at h⊢;split
  ·rename_i h0;rw[if_pos h0]at h;exact ih h
  ·rename_i h0;simpa using h0
theorem Hl (h:Low l):Aa (val l)=l.take (Bj l l.length):=by
 have e:val l=val (l.take (Bj l l.length)):=by rw[Qv,List.take_length]
 rw[e];refine Afp (h.take _) (fun hne=>?_);have hle:=I9 l l.length;have h0:Bj l l.length≠0:=by intro e0;rw[e0]at hne;simp at hne
 have:=Qo l l.length h0;rw[A00,A32 hle];rw[A0o,A3m,if_pos oV,<-A0o];exact this
theorem Qy:nl 0=0:=by simp[nl,Bd]
theorem Cd (n:Nat):n<1000000000^nl n:=by
 have:=Ip (Am n);rwa[Aj]at this
theorem A4 {n k : Nat} (h : n < 1000000000 ^ k) : nl n ≤ k := by
  induction k generalizing n with
  | zero => have : n = 0 := by simp at h; omega
            subst this; simp [Qy]
  | succ k ih =>
    by_cases h0 : n = 0
    · subst h0; simp [Qy]
    · have : n / 1000000000 < 1000000000 ^ k := by
        rw [Nat.div_lt_iff_lt_mul oV]; rwa [A16] at h
      have := ih this
      simp only [nl] at this ⊢
      rw [Ex h0]; simp; omega
theorem C6 {m n:Nat}(h:m<=n):nl m<=nl n:=A4 (Nat.lt_of_le_of_lt h (Cd n))
theorem O0 (h:n≠0):1000000000^(nl n-1)<=n:=by
 rcases A11 n (1000000000^(nl n-1)) with h1|h1
 ·have:=A4 h1;have h2:nl n≠0:=by
   intro e;exact h (Fh.1 (A13 e))
  omega
 ·exact h1
theorem Aie (m n:Nat):nl (m+n)<=max (nl m) (nl n)+1:=by
 refine A4 ?_;have h1:=Cd m;have h2:=Cd n;have h3:1000000000^nl m<=1000000000^max (nl m) (nl n):=A1l oV oV;have h4:1000000000^nl n<=1000000000^max (nl m) (nl n):=A1l oV oV;rw[A16];omega
theorem Fp (m n:Nat):nl (m*n)<=nl m+nl n:=by
 refine A4 ?_;rw[Nat.pow_add];exact Nat.mul_lt_mul'' (Cd m) (Cd n)
end
section
variable {P:Nat->Nat}{R S:Nat->Nat->Int}{a b c j n r:Nat}{f:Nat->Int}{v:Int}
def Aqe:Nat->(Nat->Int)->Int
 |0,_=>0
 |n+1,f=>Aqe n f+f n
theorem Aqf {f g:Nat->Int}:∀ {n:Nat},(∀ j,j<n->f j=g j)->Aqe n f=Aqe n g
 |0,_=>rfl
 |n+1,h=>by rw[Aqe,Aqe,Aqf fun j hj=>h j oV,h n oV]
theorem Atk (h:∀ j,j<n->f j=0):Aqe n f=0:=by
 induction n with
 |zero=>rfl
 |succ n ih=>rw[Aqe,ih fun j hj=>h j oV,h n oV];rfl
theorem Arm {f g:Nat->Int}(a b:Int):∀ {n:Nat},Aqe n (fun j=>a*f j+b*g j)=a*Aqe n f+b*Aqe n g
 |0=>by simp[Aqe]
 |n+1=>by rw[Aqe,Aqe,Aqe,Arm a b];grind
theorem As2 (hj:j<n)(h:∀ t,t<n->t≠j->f t=0):Aqe n f=f j:=by
 induction n with
 |zero=>omega
 |succ n ih =>
  rw[Aqe];by_cases e:j=n
  ·subst e;rw[Atk fun t ht=>h t oV oV];omega
  ·rw[ih oV fun t ht=>h t oV,h n oV (fun e'=>e e'.symm)];omega
theorem Ax8 (ha:a+1<n)(h:∀ t,t<n->t≠a->t≠a+1->f t=0):Aqe n f=f a+f (a+1):=by
 induction n with
 |zero=>omega
 |succ n ih =>
  rw[Aqe];by_cases e:a+1=n
  ·subst e;rw[As2 (j:=a) oV fun t ht hn=>h t oV hn oV]
  ·rw[ih oV fun t ht=>h t oV,h n oV oV oV];omega
def dsg:Nat->Int
 |0=>1
 |n+1=>- dsg n
theorem Awj:∀ r:Nat,dsg (r+r)=1
 |0=>rfl
 |r+1=>by rw[show r+1+(r+1)=r+r+1+1 by omega,dsg,dsg,Awj r];rfl
def Aqp (j:Nat)(C:Nat->Nat->Int):Nat->Nat->Int:=fun t=>if t<j then C t else C (t+1)
def dt:Nat->(Nat->Nat->Int)->Int
 |0,_=>1
 |r+1,C=>Aqe (r+1) fun j=>dsg (r+j)*C j r*dt r (Aqp j C)
theorem Aq6:∀ {r:Nat} {C D:Nat->Nat->Int},(∀ t,t<r->∀ i,i<r->C t i=D t i)->dt r C=dt r D
 |0,_,_,_=>rfl
 |r+1,C,D,h=>by
  rw[dt,dt];refine Aqf fun j hj=>?_;rw[h j hj r oV,Aq6 (D:=Aqp j D)];intro t ht i hi;unfold Aqp;split
  ·exact h t oV i oV
  ·exact h (t+1) oV i oV
def Aqi (C:Nat->Nat->Int)(j:Nat)(x:Nat->Int):Nat->Nat->Int:=fun t=>if t=j then x else C t
theorem Ary (C:Nat->Nat->Int)(j:Nat)(x:Nat->Int):Aqp j (Aqi C j x)=Aqp j C:=by
 funext t
 unfold Aqp Aqi;split
 ·rw[if_neg oV]
 ·rw[if_neg oV]
theorem Arx (C:Nat->Nat->Int)(h:j<a)(x:Nat->Int):Aqp a (Aqi C j x)=Aqi (Aqp a C) j x:=by
 funext t
 unfold Aqp Aqi;by_cases ht:t=j
 ·subst ht;simp[h]
 ·simp only[ht,if_false];split
  ·rfl
  ·rw[if_neg oV]
theorem Arc (C:Nat->Nat->Int)(h:a<j)(x:Nat->Int):Aqp a (Aqi C j x)=Aqi (Aqp a C) (j-1) x:=by
 funext t
 unfold Aqp Aqi;by_cases ht:t=j-1
 ·subst ht;rw[if_neg oV,if_pos oV,if_pos rfl]
 ·simp only[ht,if_false];split
  ·rw[if_neg oV]
  ·rw[if_neg oV]
theorem Aq3 (C:Nat->Nat->Int)(j:Nat)(x:Nat->Int):Aqi C j x j=x:=by simp[Aqi]
theorem Aqy (C:Nat->Nat->Int){j t:Nat}(h:t≠j)(x:Nat->Int):Aqi C j x t=C t:=by simp[Aqi,h]
theorem Ar2 (C:Nat->Nat->Int)(j:Nat):Aqi C j (C j)=C:=by
 funext t
 unfold Aqi;split
 ·rename_i h;rw[h]
 ·rfl
theorem Aru (a b:Int)(x y:Nat->Int):∀ {r:Nat} (C:Nat->Nat->Int) {j:Nat},j<r->dt r (Aqi C j fun i=>a*x i+b*y i)=a*dt r (Aqi C j x)+b*dt r (Aqi C j y)
 |0,_,_,h=>oV
 |r+1,C,j,h=>by
  rw[dt,dt,dt,<-Arm];refine Aqf fun t ht=>?_;by_cases e:t=j
  ·subst e;rw[Ary,Ary,Ary,Aq3,Aq3,Aq3];grind
  ·rw[Aqy C e,Aqy C e,Aqy C e];by_cases hl:j<t
   ·rw[Arx C hl,Arx C hl,Arx C hl,Aru a b x y (Aqp t C) oV];grind
   ·have hl:t<j:=oV
    rw[Arc C hl,Arc C hl,Arc C hl,Aru a b x y (Aqp t C) oV];grind
theorem Awg (C:Nat->Nat->Int)(h:j<r):dt r (Aqi C j fun _=>0)=0:=by
 have:=Aru 0 0 (fun _=>0) (fun _=>0) C h;simpa using this
theorem At5:∀ {r:Nat} {C:Nat->Nat->Int} {a:Nat},a+1<r->C a=C (a+1)->dt r C=0
 |0,_,_,h,_=>oV
 |r+1,C,a,h,e=>by
  rw[dt,Ax8 (a:=a) h]
  ·have:Aqp a C=Aqp (a+1) C:=by
    funext t
    unfold Aqp;by_cases h1:t=a
    ·subst h1;simp[e]
    ·by_cases h2:t<a
     ·rw[if_pos h2,if_pos oV]
     ·rw[if_neg h2,if_neg oV]
   rw[this,e,show r+(a+1)=(r+a)+1 by omega,dsg];grind
  ·intro t ht h1 h2;have:dt r (Aqp t C)=0:=by
    by_cases hl:t<a
    ·refine At5 (a:=a-1) oV ?_;unfold Aqp;rw[if_neg oV,if_neg oV,show a-1+1=a by omega];exact e
    ·refine At5 (a:=a) oV ?_;unfold Aqp;rw[if_pos oV,if_pos oV];exact e
   rw[this];simp
def swp (C:Nat->Nat->Int)(a:Nat):Nat->Nat->Int:=Aqi (Aqi C a (C (a+1))) (a+1) (C a)
theorem Ass (C:Nat->Nat->Int)(h:a≠b)(x y:Nat->Int):Aqi (Aqi C a x) b y=Aqi (Aqi C b y) a x:=by
 funext t
 unfold Aqi;by_cases h1:t=a
 ·subst h1;simp[h]
 ·simp[h1]
theorem Azn (C:Nat->Nat->Int)(h:a+1<r):dt r (swp C a) = - dt r C:=by
 have ha:a<r:=oV
 let D:(Nat->Int)->(Nat->Int)->Int:=fun x y=>dt r (Aqi (Aqi C a x) (a+1) y)
 have l2:∀ x y z,D x (fun i=>1*y i+1*z i)=1*D x y+1*D x z:=fun x y z=>Aru 1 1 y z _ h;have l1:∀ x y z,D (fun i=>1*y i+1*z i) x=1*D y x+1*D z x:=fun x y z=>by
  show dt r (Aqi (Aqi C a _) (a+1) x)=1*dt r (Aqi (Aqi C a y) (a+1) x)+1*dt r (Aqi (Aqi C a z) (a+1) x);rw[Ass C (show a≠a+1 by omega) (fun i=>1*y i+1*z i) x,Ass C (show a≠a+1 by omega) y x,Ass C (show a≠a+1 by omega) z x];exact Aru 1 1 y z _ ha
 have l0:∀ x,D x x=0:=fun x=>At5 h (by rw[Aq3,Aqy _ oV,Aq3]);have e1:=l0 (fun i=>1*C a i+1*C (a+1) i);rw[l1,l2,l2,l0,l0]at e1;have e2:D (C a) (C (a+1))=dt r C:=by
  show dt r (Aqi (Aqi C a (C a)) (a+1) (C (a+1)))=_;rw[Ar2,Ar2]
 have e3:D (C (a+1)) (C a)=dt r (swp C a):=rfl;omega
theorem Axw {r:Nat}:∀ {d:Nat} {C:Nat->Nat->Int} {a:Nat},a+d+1<r->C a=C (a+d+1)->dt r C=0
 |0,_,_,h,e=>At5 h e
 |d+1,C,a,h,e=>by
  have:=Azn C (a:=a+d+1) (r:=r) oV;rw[Axw (d:=d) (C:=swp C (a+d+1)) (a:=a) oV]at this
  ·omega
  ·unfold swp;rw[Aqy _ oV,Aqy _ oV,Aqy _ oV,Aq3];exact e
theorem Awf {C:Nat->Nat->Int}(ha:a<r)(hb:b<r)(hn:a≠b)(e:C a=C b):dt r C=0:=by
 by_cases h:a<b
 ·exact Axw (d:=b-a-1) (a:=a) oV (by rw[show a+(b-a-1)+1=b by omega];exact e)
 ·exact Axw (d:=a-b-1) (a:=b) oV (by rw[show b+(a-b-1)+1=a by omega];exact e.symm)
theorem Avb {r:Nat}(C:Nat->Nat->Int){j:Nat}(h:j<r)(a:Nat->Int)(X:Nat->Nat->Int):∀ n:Nat,dt r (Aqi C j fun i=>Aqe n fun t=>a t*X t i)=Aqe n fun t=>a t*dt r (Aqi C j (X t))
 |0=>Awg C h
 |n+1=>by
  have:=Aru 1 (a n) (fun i=>Aqe n fun t=>a t*X t i) (X n) C h;rw[Avb C h a X n]at this;simp only[Aqe];rw[Ba9]at this;rw[<-this]
  congr 2
  funext i
  rw[Ba9]
theorem Aw1 (C:Nat->Nat->Int)(h:j<r)(a:Nat->Int):dt r (Aqi C j fun i=>Aqe r fun t=>a t*C t i)=a j*dt r C:=by
 rw[Avb C h,As2 h,Ar2];intro t ht hn;rw[Awf (a:=j) (b:=t) h ht (fun e=>hn e.symm) (by rw[Aq3,Aqy _ hn]),Bce]
theorem Ayt (C:Nat->Nat->Int)(e:Nat->Int)(he:∀ i,i<r->e i=0):dt (r+1) (Aqi C r e)=e r*dt r C:=by
 rw[dt,As2 (j:=r) oV]
 ·rw[Awj,Aq3,Ba9,Aq6 (C:=Aqp r (Aqi C r e)) (D:=C)];intro t ht i hi;unfold Aqp;rw[if_pos ht,Aqy _ oV]
 ·intro t ht hn;rw[Arc C (by omega:t<r),Aq6 (D:=Aqi (Aqp t C) (r-1) fun _=>0)]
  ·rw[Awg _ oV];simp
  ·intro s hs i hi;unfold Aqi;split
   ·exact he i hi
   ·rfl
structure Bar (n:Nat)(R:Nat->Nat->Int)(P:Nat->Nat)(r:Nat)(v:Int)(S:Nat->Nat->Int):Prop where
 v0:v≠0
 d:dt r (fun j i=>R i (P j))=v
 lo:∀ i,i<r->∀ k,Aqe r (fun j=>S j k*R i (P j))=v*R i k
 hi:∀ i,r<=i->i<n->∀ k,S i k=v*R i k-Aqe r (fun j=>S j k*R i (P j))
theorem Bar.init (n:Nat)(R:Nat->Nat->Int)(P:Nat->Nat):Bar n R P 0 1 R:=⟨fV,rfl,fun i h=>oV,fun i _ _ k=>by simp[Aqe]⟩
theorem Axs (a:Int)(f:Nat->Int)(n:Nat):Aqe n (fun j=>a*f j)=a*Aqe n f:=by
 have:=Arm (f:=f) (g:=f) a 0 (n:=n);simp only[Int.zero_mul,Int.add_zero]at this;exact this
theorem Aq9 {v a b:Int}(hv:v≠0)(h:v*a=v*b):a=b:=Int.eq_of_mul_eq_mul_left hv h
theorem Bar.num (h:Bar n R P r v S)(hr:r<n)(c:Nat)(i k:Nat)(hi:i<=r) :
 Aqe r (fun j=>(S j k*S r c-S j c*S r k)*R i (P j))+v*S r k*R i c=v*(S r c*R i k):=by
 have e:Aqe r (fun j=>(S j k*S r c-S j c*S r k)*R i (P j))=S r c*Aqe r (fun j=>S j k*R i (P j))+(- S r k)*Aqe r (fun j=>S j c*R i (P j)):=by
  rw[<-Arm];exact Aqf fun j _=>by grind
 rw[e];by_cases hl:i<r
 ·rw[h.lo i hl,h.lo i hl];grind
 ·obtain rfl:i=r:=oV
  have h1:=h.hi i (A0w _) hr k;have h2:=h.hi i (A0w _) hr c;grind
def Arb (P:Nat->Nat)(r c:Nat):Nat->Nat:=fun j=>if j=r then c else P j
theorem Bar.det (h:Bar n R P r v S)(hr:r<n)(c:Nat) :
 dt (r+1) (fun j i=>R i (Arb P r c j))=S r c:=by
 let C:Nat->Nat->Int:=fun j i=>R i (Arb P r c j)
 have hCr:C r=fun i=>R i c:=by funext i;simp[C,Arb]
 have hCj:∀ j,j<r->C j=fun i=>R i (P j):=fun j hj=>by funext i;simp[C,Arb,show j≠r by omega]
 have e1:dt (r+1) (Aqi C r (fun i=>v*C r i+(-1)*Aqe r (fun j=>S j c*C j i)))=v*dt (r+1) C:=by
  rw[Aru v (-1) (C r) _ C oV,Ar2,Avb C oV];rw[Atk]
  ·grind
  ·intro t ht;rw[Awf (a:=t) (b:=r) oV oV oV (by rw[Aq3,Aqy _ oV]),Bce]
 have es:∀ i,Aqe r (fun j=>S j c*C j i)=Aqe r (fun j=>S j c*R i (P j)):=fun i=>Aqf fun j hj=>by rw[hCj j hj]
 rw[Ayt C _ (fun i hi=>by
  show v*C r i+(-1)*Aqe r (fun j=>S j c*C j i)=0;rw[es,h.lo i hi,hCr];grind)]at e1
 have e2:dt r C=v:=by
  rw[<-h.d];exact Aq6 fun t ht i hi=>by rw[hCj t ht]
 have e3:v*C r r+(-1)*Aqe r (fun j=>S j c*C j r)=S r c:=by
  rw[es,hCr];have:=h.hi r (A0w _) hr c;grind
 simp only[e3,e2]at e1;refine Aq9 h.v0 ?_;show v*dt (r+1) C=_;grind
theorem Bar.dvd (h:Bar n R P r v S)(hr:r<n)(hc:S r c≠0)(j k:Nat)(hj:j<r) :
 v ∣ S j k*S r c-S j c*S r k:=by
 let C:Nat->Nat->Int:=fun j i=>R i (Arb P r c j)
 have hCr:∀ i,C r i=R i c:=fun i=>by simp[C,Arb]
 have hCj:∀ j,j<r->∀ i,C j i=R i (P j):=fun j hj i=>by simp[C,Arb,show j≠r by omega]
 have hd:dt (r+1) C=S r c:=h.det hr c;have e1:=Aw1 C (show j<r+1 by omega) (fun t=>if t=r then v*S r k else S t k*S r c-S t c*S r k);have e2:dt (r+1) (Aqi C j fun i=>Aqe (r+1) fun t=>(if t=r then v*S r k else S t k*S r c-S t c*S r k)*C t i)=dt (r+1) (Aqi C j fun i=>(v*S r c)*R i k+0*R i k):=by
  refine Aq6 fun t ht i hi=>?_;unfold Aqi;split
  ·simp only[Aqe,if_true,hCr];have:=h.num hr c i k oV;rw[Aqf (g:=fun j=>(S j k*S r c-S j c*S r k)*R i (P j)) (fun t ht=>by rw[if_neg oV,hCj t ht])];grind
  ·rfl
 rw[e2,Aru _ _ _ _ C oV,hd,if_neg oV]at e1;refine⟨dt (r+1) (Aqi C j fun i=>R i k),Aq9 hc ?_⟩;grind
theorem Auc {v:Int}{f:Nat->Int}:∀ {n:Nat},(∀ j,j<n->v ∣ f j)->v ∣ Aqe n f
 |0,_=>⟨0,by simp[Aqe]⟩
 |n+1,h=>Int.dvd_add (Auc fun j hj=>h j oV) (h n oV)
theorem Bar.dvdAll (h:Bar n R P r v S)(hr:r<n)(hc:S r c≠0)(i k:Nat)(hi:i<n)(hn:i≠r) :
 v ∣ S i k*S r c-S i c*S r k:=by
 by_cases hl:i<r
 ·exact h.dvd hr hc i k hl
 have h1:=h.hi i oV hi k;have h2:=h.hi i oV hi c;have e:Aqe r (fun j=>(S j k*S r c-S j c*S r k)*R i (P j))=S r c*Aqe r (fun j=>S j k*R i (P j))+(- S r k)*Aqe r (fun j=>S j c*R i (P j)):=by
  rw[<-Arm];exact Aqf fun j _=>by grind
 obtain⟨q,hq⟩:v ∣ Aqe r (fun j=>(S j k*S r c-S j c*S r k)*R i (P j)):=Auc fun j hj=>Int.dvd_mul_of_dvd_left (h.dvd hr hc j k hj);rw[hq]at e;exact⟨S r c*R i k-S r k*R i c-q,by grind⟩
theorem Bar.step {n:Nat}{R:Nat->Nat->Int}{P:Nat->Nat}{r:Nat}{v:Int}{S:Nat->Nat->Int}(h:Bar n R P r v S)(hr:r<n){c:Nat}(hc:S r c≠0){S':Nat->Nat->Int}
 (hp:∀ k,S' r k=S r k) (hs:∀ i,i<n->i≠r->∀ k,v*S' i k=S i k*S r c-S i c*S r k):Bar n R (Arb P r c) (r+1) (S r c) S':=by
 have hv:=h.v0;have hP:∀ j,j<r->Arb P r c j=P j:=fun j hj=>by simp[Arb,show j≠r by omega]
 have hPr:Arb P r c r=c:=by simp[Arb]
 have e:∀ i k,v*Aqe r (fun j=>S' j k*R i (P j))=Aqe r (fun j=>(S j k*S r c-S j c*S r k)*R i (P j)):=fun i k=>by
  rw[<-Axs];exact Aqf fun j hj=>by rw[<-hs j oV oV];grind
 have e':∀ i k,Aqe (r+1) (fun j=>S' j k*R i (Arb P r c j))=Aqe r (fun j=>S' j k*R i (P j))+S r k*R i c:=fun i k=>by
  rw[Aqe,hPr,hp,Aqf (g:=fun j=>S' j k*R i (P j)) fun j hj=>by rw[hP j hj]]
 refine⟨hc,h.det hr c,fun i hi k=>?_,fun i h1 h2 k=>?_⟩
 ·refine Aq9 hv ?_;rw[e',Int.mul_add,e];have:=h.num hr c i k oV;grind
 ·refine Aq9 hv ?_;rw[e',hs i h2 oV];have h3:=e i k;have e2:Aqe r (fun j=>(S j k*S r c-S j c*S r k)*R i (P j))=S r c*Aqe r (fun j=>S j k*R i (P j))+(- S r k)*Aqe r (fun j=>S j c*R i (P j)):=by
   rw[<-Arm];exact Aqf fun j _=>by grind
  have h4:=h.hi i oV h2 k;have h5:=h.hi i oV h2 c;grind
def rsw (F:Nat->Nat->Int)(p q:Nat):Nat->Nat->Int:=fun i=>if i=p then F q else if i=q then F p else F i
theorem Bar.swap (h:Bar n R P r v S){p:Nat}(h1:r<=p)(h2:p<n):Bar n (rsw R p r) P r v (rsw S p r):=by
 have hl:∀ F:Nat->Nat->Int,∀ i,i<r->rsw F p r i=F i:=fun F i hi=>by simp[rsw,show i≠p by omega,show i≠r by omega]
 refine⟨h.v0,?_,fun i hi k=>?_,fun i hi hn k=>?_⟩
 ·rw[<-h.d];exact Aq6 fun t _ i hi=>by rw[hl R i hi]
 ·rw[hl R i hi,<-h.lo i hi];exact Aqf fun j hj=>by rw[hl S j hj]
 ·have:∀ i',r<=i'->i' < n->rsw S p r i=S i'->rsw R p r i=R i'->rsw S p r i k=v*rsw R p r i k-Aqe r (fun j=>rsw S p r j k*rsw R p r i (P j)):=fun i' a b e1 e2=>by
   rw[e1,e2,h.hi i' a b]
   congr 1
   exact Aqf fun j hj=>by rw[hl S j hj]
  by_cases e:i=p
  ·exact this r (A0w _) oV (by simp[rsw,e]) (by simp[rsw,e])
  ·by_cases e2:i=r
   ·exact this p h1 h2 (by simp[rsw,e2];intro e3;rw[e3]) (by simp[rsw,e2];intro e3;rw[e3])
   ·exact this i hi hn (by simp[rsw,e,e2]) (by simp[rsw,e,e2])
end
section
variable {R:Nat->Nat->Int}{X:List (List Int)}{i j n p r w:Nat}{l:List Int}
def gZ (l:List Int)(j:Nat):Int:=l.getD j 0
def gMZ (X:List (List Int))(i:Nat):List Int:=X.getD i []
def enZ (X:List (List Int))(i j:Nat):Int:=gZ (gMZ X i) j
def Aqv (n w:Nat)(X:List (List Int)):Prop:=X.length=n/\∀ i,i<n->(gMZ X i).length=w
theorem Atp (h:j<l.length):gZ l j=l[j]:=by unfold gZ;rw[A0o,A0n h];rfl
theorem Aua (h:l.length<=j):gZ l j=0:=by unfold gZ;rw[A0o,A1g h];rfl
theorem Ar7 (h:i<X.length):gMZ X i=X[i]:=by unfold gMZ;rw[A0o,A0n h];rfl
theorem Arp {i k:Nat}{r:List Int}(h:i<X.length):gMZ (X.set i r) k=if i=k then r else gMZ X k:=by
 unfold gMZ;rw[A0o,List.getElem?_set,A0o];by_cases e:i=k
 ·rw[if_pos e,if_pos e,if_pos h];rfl
 ·rw[if_neg e,if_neg e]
theorem Azp (f:Nat->Int)(h:j<n):gZ ((A1q n).map f) j=f j:=by
 rw[Atp (by simpa using h)];simp
def Aqz (X:List (List Int))(c:Nat):Nat->Nat->Nat
 |0,p=>p
 |f+1,p=>if enZ X p c=0 then Aqz X c f (p+1) else p
def Ara (X:List (List Int))(p r:Nat):List (List Int):=(X.set p (gMZ X r)).set r (gMZ X p)
def Ar6 (v a g:Int)(R row:List Int):List Int:=(A1q row.length).map fun k=>(gZ row k*a-g*gZ R k)/v
def Arv (r c:Nat)(v:Int):Nat->Nat->List (List Int)->List (List Int)
 |0,_,X=>X
 |f+1,i,X=>Arv r c v f (i+1) (if i=r then X else X.set i (Ar6 v (enZ X r c) (enZ X i c) (gMZ X r) (gMZ X i)))
structure BZ where
 X:List (List Int)
 P:List Nat
 v:Int
 odd:Bool
def Aq1 (n c:Nat)(s:BZ):BZ :=
 if Aqz s.X c (n-s.P.length) s.P.length=n then s
 else ⟨Arv s.P.length c s.v n 0 (if Aqz s.X c (n-s.P.length) s.P.length=s.P.length then s.X else Ara s.X (Aqz s.X c (n-s.P.length) s.P.length) s.P.length),s.P++[c],
  enZ s.X (Aqz s.X c (n-s.P.length) s.P.length) c,if Aqz s.X c (n-s.P.length) s.P.length=s.P.length then s.odd else !s.odd⟩
def Aq0 (n:Nat):Nat->Nat->BZ->BZ
 |0,_,s=>s
 |f+1,c,s=>Aq0 n f (c+1) (Aq1 n c s)
theorem At4 (X:List (List Int))(c:Nat):∀ f p,p<=Aqz X c f p/\Aqz X c f p<=p+f
 |0,p=>by simp[Aqz]
 |f+1,p=>by
  unfold Aqz;split
  ·have:=At4 X c f (p+1);omega
  ·omega
theorem Atj (X:List (List Int))(c:Nat):∀ f p i,p<=i->i<Aqz X c f p->enZ X i c=0
 |0,p,i,h1,h2=>by simp[Aqz]at h2;omega
 |f+1,p,i,h1,h2=>by
  unfold Aqz at h2;split at h2
  ·rename_i h;by_cases e:i=p
   ·subst e;exact h
   ·exact Atj X c f (p+1) i oV h2
  ·omega
theorem At6 (X:List (List Int))(c:Nat):∀ f p,Aqz X c f p<p+f->enZ X (Aqz X c f p) c≠0
 |0,p,h=>by simp[Aqz]at h
 |f+1,p,h=>by
  unfold Aqz at h⊢;split at h
  ·rename_i h0;rw[if_pos h0];exact At6 X c f (p+1) oV
  ·rename_i h0;rw[if_neg h0];exact h0
theorem Arz {r:List Int}(h:Aqv n w X)(hi:i<n)(hr:r.length=w):Aqv n w (X.set i r):=by
 refine⟨by simp[h.1],fun j hj=>?_⟩;rw[Arp (by rw[h.1];exact hi)];split
 ·exact hr
 ·exact h.2 j hj
theorem Aso (h:Aqv n w X)(hp:p<n)(hr:r<n):Aqv n w (Ara X p r) :=
 Arz (Arz h hp (h.2 r hr)) hr (h.2 p hp)
theorem As6 (h:Aqv n w X)(hp:p<n)(hr:r<n)(i:Nat):gMZ (Ara X p r) i=if i=r then gMZ X p else if i=p then gMZ X r else gMZ X i:=by
 unfold Ara;rw[Arp (by simp[h.1];exact hr),Arp (by rw[h.1];exact hp)];by_cases e:r=i
 ·rw[if_pos e,if_pos e.symm]
 ·rw[if_neg e,if_neg (show ¬ i=r by omega)];by_cases e':p=i
  ·rw[if_pos e',if_pos e'.symm]
  ·rw[if_neg e',if_neg (show ¬ i=p by omega)]
theorem Ask (v a g:Int)(R row:List Int):(Ar6 v a g R row).length=row.length:=by simp[Ar6]
theorem Aty (v a g:Int)(R row:List Int)(h:R.length=row.length)(j:Nat):gZ (Ar6 v a g R row) j=(gZ row j*a-g*gZ R j)/v:=by
 by_cases hj:j<row.length
 ·unfold Ar6;exact Azp _ hj
 ·rw[Aua (by rw[Ask];omega),Aua (l:=row) oV,Aua (l:=R) oV];simp
theorem As5 {n w r c:Nat}{v:Int}(hr:r<n):∀ f i X,i+f<=n->Aqv n w X->Aqv n w (Arv r c v f i X)
 |0,i,X,_,h=>h
 |f+1,i,X,hf,h=>by
  unfold Arv;refine As5 hr f (i+1) _ oV ?_;split
  ·exact h
  ·exact Arz h oV (by rw[Ask];exact h.2 i oV)
theorem Asf {n w r c:Nat}{v:Int}(hr:r<n):∀ f i X,i+f<=n->Aqv n w X->∀ k,gMZ (Arv r c v f i X) k=if i<=k/\k<i+f/\k≠r then Ar6 v (enZ X r c) (enZ X k c) (gMZ X r) (gMZ X k) else gMZ X k
 |0,i,X,_,h,k=>by rw[if_neg oV];rfl
 |f+1,i,X,hf,h,k=>by
  unfold Arv;by_cases e:i=r
  ·rw[if_pos e,Asf hr f (i+1) X oV h k];by_cases e2:i+1<=k/\k<i+1+f/\k≠r
   ·rw[if_pos e2,if_pos ⟨oV,oV,e2.2.2⟩]
   ·rw[if_neg e2,if_neg oV]
  ·have hX:Aqv n w (X.set i (Ar6 v (enZ X r c) (enZ X i c) (gMZ X r) (gMZ X i))):=Arz h oV (by rw[Ask];exact h.2 i oV);have hl:i<X.length:=by rw[h.1];omega
   rw[if_neg e,Asf hr f (i+1) _ oV hX k];unfold enZ;rw[Arp hl,Arp hl,if_neg e];by_cases e2:i=k
   ·subst e2;rw[if_neg oV,if_pos rfl,if_pos ⟨oV,oV,e⟩]
   ·rw[if_neg e2];by_cases e3:i+1<=k/\k<i+1+f/\k≠r
    ·rw[if_pos e3,if_pos ⟨oV,oV,e3.2.2⟩]
    ·rw[if_neg e3,if_neg oV]
def Avz (n:Nat)(A R:Nat->Nat->Int):Prop:=∀ i,i<n->∃ j,j<n/\A i=R j
theorem Avz.swap {A R:Nat->Nat->Int}(h:Avz n A R)(hp:p<n)(hr:r<n):Avz n A (rsw R p r):=fun i hi=>by
 obtain⟨j,hj,e⟩:=h i hi;by_cases e1:j=p
 ·subst e1;refine⟨r,hr,?_⟩;unfold rsw;by_cases e2:r=j
  ·rw[if_pos e2,e,e2]
  ·rw[if_neg e2,if_pos rfl,e]
 ·by_cases e2:j=r
  ·subst e2;exact⟨p,hp,by unfold rsw;rw[if_pos rfl,e]⟩
  ·exact⟨j,hj,by unfold rsw;rw[if_neg e1,if_neg e2,e]⟩
structure Awq (n w:Nat)(A:Nat->Nat->Int)(c:Nat)(s:BZ):Prop where
 rc:Aqv n w s.X
 len:s.P.length=c
 bar:∃ R,Avz n A R/\Bar n R (fun j=>j) c s.v (enZ s.X)
theorem Ave {P Q:Nat->Nat}{v:Int}{S:Nat->Nat->Int}(h:Bar n R P r v S)(e:∀ j,j<r->P j=Q j):Bar n R Q r v S:=by
 refine⟨h.v0,?_,fun i hi k=>?_,fun i h1 h2 k=>?_⟩
 ·rw[<-h.d];exact Aq6 fun t ht i _=>by rw[e t ht]
 ·rw[<-h.lo i hi];exact Aqf fun j hj=>by rw[e j hj]
 ·rw[h.hi i h1 h2];congr 1;exact Aqf fun j hj=>by rw[e j hj]
def Ker (n:Nat)(A:Nat->Nat->Int):Prop:=∃ y:Nat->Int,(∃ j,j<n/\y j≠0)/\∀ i,i<n->Aqe n (fun j=>y j*A i j)=0
theorem Awq.step {n w:Nat}{A:Nat->Nat->Int}{c:Nat}{s:BZ}(h:Awq n w A c s)(hc:c<n):Awq n w A (c+1) (Aq1 n c s)\/(Ker n A/\Aq1 n c s=s):=by
 obtain⟨hrec,hlen,R,hcov,hbar⟩:=h;unfold Aq1;obtain⟨p1,p2⟩:=At4 s.X c (n-s.P.length) s.P.length;have p3:=Atj s.X c (n-s.P.length) s.P.length;have p4:=At6 s.X c (n-s.P.length) s.P.length;generalize Aqz s.X c (n-s.P.length) s.P.length=p at *
 rw[hlen]at p1 p2 p3 p4⊢;by_cases e:p=n
 ·rw[if_pos e];refine .inr ⟨?_,rfl⟩;have hz:∀ i,c<=i->i<n->enZ s.X i c=0:=fun i h1 h2=>p3 i h1 oV;refine⟨fun j=>if j<c then enZ s.X j c else if j=c then-s.v else 0,⟨c,hc,by simp;exact hbar.v0⟩,fun i hi=>?_⟩;obtain⟨i',hi',e1⟩:=hcov i hi;rw[e1];have key:∀ m,m<=n->Aqe m (fun j=>(if j<c then enZ s.X j c else if j=c then-s.v else 0)*R i' j)=Aqe (min m c) (fun j=>enZ s.X j c*R i' j)+if c<m then-s.v*R i' c else 0:=by
   intro m;induction m with
   |zero=>intro _;simp[Aqe]
   |succ m ih =>
    intro hm;rw[Aqe,ih oV];by_cases h1:m<c
    ·rw[if_pos h1,if_neg oV,if_neg oV,show min m c=m by omega,show min (m+1) c=m+1 by omega,Aqe];omega
    ·by_cases h2:m=c
     ·subst h2;rw[if_neg h1,if_pos rfl,if_neg oV,if_pos oV,show min m m=m by omega,show min (m+1) m=m by omega];omega
     ·rw[if_neg h1,if_neg h2,if_pos oV,if_pos oV,show min m c=c by omega,show min (m+1) c=c by omega];omega
  rw[key n (A0w _),show min n c=c by omega,if_pos hc];by_cases h1:i' < c
  ·rw[hbar.lo i' h1];grind
  ·have:=hbar.hi i' oV hi' c;rw[hz i' oV hi']at this;grind
 ·rw[if_neg e];have hp:p<n:=oV
  have hne:=p4 oV;refine .inl ?_;have hrec1:Aqv n w (if p=c then s.X else Ara s.X p c):=by
   split
   ·exact hrec
   ·exact Aso hrec hp hc
  have hrow1:∀ i,gMZ (if p=c then s.X else Ara s.X p c) i=if i=c then gMZ s.X p else if i=p then gMZ s.X c else gMZ s.X i:=fun i=>by
   by_cases e1:p=c
   ·rw[if_pos e1];by_cases e2:i=c
    ·rw[if_pos e2,e2,e1]
    ·rw[if_neg e2,if_neg oV]
   ·rw[if_neg e1];exact As6 hrec hp hc i
  have hen1:enZ (if p=c then s.X else Ara s.X p c)=rsw (enZ s.X) p c:=by
   funext i k
   unfold enZ rsw;rw[hrow1];by_cases e2:i=p
   ·rw[if_pos e2];by_cases e3:i=c
    ·rw[if_pos e3,show p=c by omega,e3];simp
    ·rw[if_neg e3,if_pos e2]
   ·rw[if_neg e2,if_neg e2];by_cases e3:i=c
    ·rw[if_pos e3,if_pos e3]
    ·rw[if_neg e3,if_neg e3]
  have hb1:=hbar.swap p1 hp;rw[<-hen1]at hb1;have hpc:enZ (if p=c then s.X else Ara s.X p c) c c=enZ s.X p c:=by unfold enZ;rw[hrow1,if_pos rfl]
  generalize (if p=c then s.X else Ara s.X p c)=X1 at *
  have hc1:enZ X1 c c≠0:=by rw[hpc];exact hne
  refine⟨As5 hc n 0 X1 oV hrec1,by simp[hlen],_,hcov.swap hp hc,?_⟩;dsimp only;rw[<-hpc];have hd:=fun i k hi hn=>hb1.dvdAll hc hc1 i k hi hn;have hs:=hb1.step hc hc1 (S':=enZ (Arv c c s.v n 0 X1)) (fun k=>by unfold enZ;rw[Asf hc n 0 X1 oV hrec1,if_neg oV]) (fun i hi hn k=>by
   show s.v*gZ (gMZ (Arv c c s.v n 0 X1) i) k=_;rw[Asf hc n 0 X1 oV hrec1,if_pos ⟨oV,oV,hn⟩,Aty _ _ _ _ _ (by rw[hrec1.2 c hc,hrec1.2 i hi])];exact Int.mul_ediv_cancel' (hd i k hi hn))
  exact Ave hs fun j hj=>by unfold Arb;dsimp only;split<;>omega
theorem Ay2 {n c:Nat}{s:BZ}:(Aq1 n c s).P.length<=s.P.length+1:=by
 unfold Aq1;split
 ·omega
 ·simp
theorem Awd {n:Nat}:∀ (f c:Nat) (s:BZ),(Aq0 n f c s).P.length<=s.P.length+f
 |0,c,s=>by simp[Aq0]
 |f+1,c,s=>by
  unfold Aq0;have:=Awd (n:=n) f (c+1) (Aq1 n c s);have:=Ay2 (n:=n) (c:=c) (s:=s);omega
theorem Av1 {n w:Nat}{A:Nat->Nat->Int}:∀ (f c:Nat) (s:BZ),c+f=n->Awq n w A c s->Awq n w A n (Aq0 n f c s)\/(Ker n A/\(Aq0 n f c s).P.length<n)
 |0,c,s,h,hf=>.inl (by
  have:c=n:=oV
  subst this;exact hf)
 |f+1,c,s,h,hf=>by
  unfold Aq0;rcases hf.step oV with h1|⟨h1,h2⟩
  ·exact Av1 f (c+1) _ oV h1
  ·refine .inr ⟨h1,?_⟩;rw[h2];have:=Awd (n:=n) f (c+1) s;have:=hf.len;omega
theorem Au6 (h:Aqv n w X):((Aq0 n n 0 ⟨X,[],1,false⟩).P.length=n/\Aqv n w (Aq0 n n 0 ⟨X,[],1,false⟩).X/\(Aq0 n n 0 ⟨X,[],1,false⟩).v≠0 /\
 ∀ i,i<n->∀ k,Aqe n (fun j=>enZ (Aq0 n n 0 ⟨X,[],1,false⟩).X j k*enZ X i j)=(Aq0 n n 0 ⟨X,[],1,false⟩).v*enZ X i k) \/
 (Ker n (enZ X)/\(Aq0 n n 0 ⟨X,[],1,false⟩).P.length<n):=by
 have h0:Awq n w (enZ X) 0 ⟨X,[],1,false⟩:=⟨h,rfl,enZ X,fun i hi=>⟨i,hi,rfl⟩,Bar.init n _ _⟩;rcases Av1 n 0 _ oV h0 with ⟨h1,h2,R,h3,h4⟩|h1
 ·refine .inl ⟨h2,h1,h4.v0,fun i hi k=>?_⟩;obtain⟨i',hi',e⟩:=h3 i hi;rw[e];exact h4.lo i' hi' k
 ·exact .inr h1
def zs (K:Nat):Nat->Nat
 |0=>K
 |r+1=>2*zs K r+2
end
section
variable {e g:Nat}{o:Obj}{w:World}
abbrev PH:=Nat->Option Obj
def PH.mt:PH:=fun _=>none
def Eb (x:PH)(w:World):Prop:=∀ g o,x g=some o->w.heap[g]?=some o
def Ki (x y:PH):Prop:=∀ g,x g=none\/y g=none
def PH.le (x y:PH):Prop:=∀ g o,x g=some o->y g=some o
def Zv (u:PH)(w:World):Prop:=∀ (g:Nat) (cs:Array Value) (t:TypeId) (fr:Nat×Nat) (j:Nat) (z:Int),w.heap[g]?=some (.cells cs t fr)->cs[j]?=some (.int .u64 z)->u g=some (.cells cs t fr)
structure Bx (u m:PH)(w:World):Prop where
 pu:Eb u w
 pm:Eb m w
 ap:Ki u m
 cl:Zv u w
class Cc where
 on:Prop
instance (priority:=low) Cc.no:Cc:=⟨False⟩
structure Lt (w w':World):Prop where
 tape:w'.tape=w.tape
 dr:w.drawn<=w'.drawn
theorem Lt.refl (w:World):Lt w w:=⟨rfl,A0w _⟩
theorem Lt.trans {a b c:World}(h:Lt a b)(k:Lt b c):Lt a c:=⟨k.tape.trans h.tape,A0q h.dr k.dr⟩
variable [Fl:Cc]
structure Bz (u m:PH)(w:World)(u' m':PH)(w':World):Prop where
 sz:w.heap.size<=w'.heap.size
 old:∀ g,g<w.heap.size->m g=none->w'.heap[g]?=w.heap[g]?
 us:∀ g,g<w.heap.size->u' g=u g
 ms:∀ g,g<w.heap.size->m g=none->m' g=none
 io:w'.os=w.os/\w'.output=w.output
 dr:Fl.on->Lt w w'
theorem Bw (h:w.heap[g]?=some o):g<w.heap.size:=by
 rcases A11 g w.heap.size with h'|h'
 ·exact h'
 ·simp[Array.getElem?_eq_none h']at h
theorem Eb.lt {x:PH}(h:Eb x w)(hg:x g=some o):g<w.heap.size:=Bw (h g o hg)
theorem Eb.none {x:PH}{w:World}(h:Eb x w){g:Nat}(hg:w.heap.size<=g):x g=none:=by
 cases hx:x g with
 |none=>rfl
 |some o=>have:=h.lt hx;omega
theorem Bz.refl (u m:PH)(w:World):Bz u m w u m w:=⟨A0w _,fun _ _ _=>rfl,fun _ _=>rfl,fun _ _ h=>h,⟨rfl,rfl⟩,fun _=>Lt.refl w⟩
theorem Bz.trans {u m u1 m1 u2 m2:PH}{w w1 w2:World}(h:Bz u m w u1 m1 w1)(k:Bz u1 m1 w1 u2 m2 w2):Bz u m w u2 m2 w2 :=
 ⟨A0q h.sz k.sz,fun g hg hm=>(k.old g (A2e hg h.sz) (h.ms g hg hm)).trans (h.old g hg hm),
  fun g hg=>(k.us g (A2e hg h.sz)).trans (h.us g hg),fun g hg hm=>k.ms g (A2e hg h.sz) (h.ms g hg hm),⟨k.io.1.trans h.io.1,k.io.2.trans h.io.2⟩,fun f=>(h.dr f).trans (k.dr f)⟩
theorem Bz.le {u m u' m':PH}{w w':World}(h:Bz u m w u' m' w')(hp:Eb u w):PH.le u u' :=
 fun g o hg=>by rw[h.us g (hp.lt hg)];exact hg
theorem PH.le_refl (u:PH):PH.le u u:=fun _ _ h=>h
theorem PH.le.trans {u v x:PH}(h:PH.le u v)(k:PH.le v x):PH.le u x:=fun g o hg=>k g o (h g o hg)
inductive SV where
 |junk
 |v (x:Value)
 |p (k off:Nat)
def SV.den (ρ:Nat->Nat):SV->Value
 |.junk=>undef
 |.v x=>x
 |.p k off=>.pointer (some ⟨ρ k,off,none⟩)
structure Blk where
 t:TypeId
 cells:List SV
structure S where
 n:Nat
 tm:Nat->SV
 hp:Nat->Option Blk
def S.put (s:S)(d:Option Nat)(x:SV):S :=
 match d with
 |none=>s
 |some d=>{ s with tm:=fun e=>cond (A17 e d) x (s.tm e) }
def S.setb (s:S)(w:Option (Nat×Blk)):S :=
 match w with
 |none=>s
 |some (k,b)=>{ s with hp:=fun j=>cond (A17 j k) (some b) (s.hp j) }
def S.ev (s:S):Operand->SV
 |.tmp t=>s.tm t
 |.const v=>.v v
 |.global g=>.v (.pointer (some ⟨g,0,none⟩))
 |.func f=>.v (.func (.func f) #[] #[])
theorem B5 (s:S)(d:Nat)(x:SV):(s.put (some d) x).tm d=x:=by simp[S.put]
theorem Px (s:S)(d:Nat)(x:SV)(h:e≠d):(s.put (some d) x).tm e=s.tm e:=by
 have:A17 e d=false:=by rw[<-A82];exact fun hh=>h (A1h hh)
 simp[S.put,this]
theorem Es (s:S)(d:Option Nat)(x:SV)(h:d≠some e):(s.put d x).tm e=s.tm e:=by
 cases d with
 |none=>rfl
 |some d=>exact Px s d x (fun h'=>h (by rw[h']))
theorem Ct (s:S)(d:Option Nat)(x:SV):(s.put d x).hp=s.hp:=by cases d<;>rfl
theorem D7 (s:S)(w:Option (Nat×Blk)):(s.setb w).tm=s.tm:=by rcases w with _|⟨k,b⟩<;>rfl
theorem Bg (s:S)(k:Nat)(b:Blk):(s.setb (some (k,b))).hp k=some b:=by simp[S.setb]
theorem A6 (s:S)(k:Nat)(b:Blk){j:Nat}(h:j≠k):(s.setb (some (k,b))).hp j=s.hp j:=by
 have:A17 j k=false:=by rw[<-A82];exact fun hh=>h (A1h hh)
 simp[S.setb,this]
theorem Uk (s:S)(d:Option Nat)(x:SV):(s.put d x).n=s.n:=by cases d<;>rfl
theorem Pc (s:S)(w:Option (Nat×Blk)):(s.setb w).n=s.n:=by rcases w with _|⟨k,b⟩<;>rfl
theorem S.ext' {s t:S}(hn:s.n=t.n)(h:s.tm=t.tm)(k:s.hp=t.hp):s=t:=by cases s;cases t;simp_all
theorem Aid (s:S){d e:Option Nat}(x y:SV)(h:∀ k,d=some k->e≠some k):(s.put d x).put e y=(s.put e y).put d x:=by
 refine S.ext' (by simp only[Uk]) (funext fun i=>?_) (by simp only[Ct]);by_cases hd:d=some i
 ·have he:e≠some i:=h i hd;subst hd;rw[Es _ _ _ he,B5,B5]
 ·rw[Es _ d x hd];by_cases he:e=some i
  ·subst he;rw[B5,B5]
  ·rw[Es _ _ _ he,Es _ _ _ he,Es _ _ _ hd]
theorem O4 (s:S)(d:Option Nat)(x:SV)(w:Option (Nat×Blk)):(s.setb w).put d x=(s.put d x).setb w:=by
 cases d<;>rcases w with _|⟨k,b⟩<;>rfl
theorem Afe (s:S)(w w':Option (Nat×Blk))(h:∀ k b k' b',w=some (k,b)->w'=some (k',b')->k≠k'):(s.setb w).setb w'=(s.setb w').setb w:=by
 rcases w with _|⟨k,b⟩
 ·rfl
 ·rcases w' with _|⟨k',b'⟩
  ·rfl
  ·have hne:=h k b k' b' rfl rfl;refine S.ext' rfl rfl (funext fun i=>?_);by_cases h1:i=k
   ·subst h1;rw[A6 _ _ _ hne,Bg,Bg]
   ·by_cases h2:i=k'
    ·subst h2;rw[Bg,A6 _ _ _ h1,Bg]
    ·rw[A6 _ _ _ h2,A6 _ _ _ h1,A6 _ _ _ h1,A6 _ _ _ h2]
def Ahz (ρ:Nat->Nat)(b:Blk)(o:Option Obj):Prop :=
 ∃ cs:Array Value,o=some (.cells cs b.t (0,0))/\cs.size=b.cells.length/\∀ (i:Nat) (x:SV),b.cells[i]?=some x->x≠.junk->cs[i]?=some (x.den ρ)
structure Cx where
 w0:World
 u0:PH
 m0:PH
def Ani (r:Nat):Deferred:={ target:=.collected r,args:=#[] }
class Dy where
 dl:List Deferred
instance (priority:=low) Dy.no:Dy:=⟨[]⟩
def Zu (d:Deferred):Bool:=match d.target with|.collected _=>true|_=>false
def Aa9 [Dy](n0:Nat)(u m:PH)(w:World)(dl:List Deferred):Prop:=∃ ds:List Nat,ds.Nodup/\dl.filter Zu=ds.map Ani/\dl.filter (fun d=>!Zu d)=Dy.dl/\∀ r∈ds,w.heap[r]?=some (.deferred (some []))/\n0<=r/\u r=none/\m r=none
theorem Aa9.nil (n0:Nat)(u m:PH)(w:World):Aa9 n0 u m w []:=⟨[],.nil,rfl,rfl,fun r hr=>by cases hr⟩
theorem Aa9.of [Dy]{n0:Nat}{u m u' m':PH}{w w':World}{dl:List Deferred}(h:Aa9 n0 u m w dl)
 (hk:∀ r,w.heap[r]?=some (.deferred (some []))->n0<=r->u r=none->m r=none->w'.heap[r]?=some (.deferred (some []))/\u' r=none/\m' r=none):Aa9 n0 u' m' w' dl:=by
 obtain⟨ds,h1,h2,h2',h3⟩:=h;refine⟨ds,h1,h2,h2',fun r hr=>?_⟩;obtain⟨e1,e2,e3,e4⟩:=h3 r hr;obtain⟨f1,f2,f3⟩:=hk r e1 e2 e3 e4;exact⟨f1,e2,f2,f3⟩
def La (s:S):Prop:=(∀ d k off,s.tm d=.p k off->s.hp k≠none)/\(∀ j b k off,s.hp j=some b->SV.p k off∈b.cells->s.hp k≠none)
structure Rel [Dy](c:Cx)(s:S)(u m:PH)(ρ:Nat->Nat)(a:Act)(w:World):Prop where
 sz:a.tmps.size=s.n
 tm:∀ d,s.tm d≠.junk->a.tmps[d]?=some ((s.tm d).den ρ)
 df:Aa9 c.w0.heap.size u m w a.defers
 box:∀ k b,s.hp k=some b->Ahz ρ b (w.heap[ρ k]?)/\c.w0.heap.size<=ρ k/\u (ρ k)=none/\m (ρ k)=none
 inj:∀ k j,s.hp k≠none->s.hp j≠none->ρ k=ρ j->k=j
 lv:La s
 gd:Bx u m w
 gr:Bz c.u0 c.m0 c.w0 u m w
theorem Rel.eval [Dy]{c:Cx}{s:S}{u m:PH}{ρ:Nat->Nat}{a:Act}{w:World}(h:Rel c s u m ρ a w)(x:Operand)(hx:s.ev x≠.junk):a.eval x=(s.ev x).den ρ:=by
 cases x with
 |tmp t=>have:=h.tm t hx;simp[Act.eval,S.ev,this]
 |const v=>rfl
 |global g=>rfl
 |func f=>rfl
end
section
variable {g:Nat}{v:Value}
variable [Cc] [Dy]
def Be:Value->Bool
 |.agg _|.tuple _=>false
 |.int .u64 _=>false
 |_=>true
theorem Aqt (h:Be v=true):v.oneCell'=true:=by
 unfold Be at h;split at h<;>simp_all [Value.oneCell']
 all_goals (cases v<;>simp_all)
theorem Ig (h:Be v=true)(z:Int):v≠.int .u64 z:=by rintro rfl;simp[Be]at h
section rel
variable {c:Cx} {s:S} {u m:PH} {ρ:Nat->Nat} {a:Act} {w:World}
theorem Rel.put (h:Rel c s u m ρ a w){d:Option Nat}{x:SV}{y:Value}(hx:x≠.junk->y=x.den ρ)(hl:∀ k off,x=.p k off->s.hp k≠none)(hd:∀ e,d=some e->e<s.n) :
 Rel c (s.put d x) u m ρ (a.put d y) w:=by
 cases d with
 |none=>exact h
 |some d =>
  have hdn:=hd d rfl;have hsz:=h.sz;refine⟨by simpa[Act.put,S.put] using h.sz,fun e he=>?_,by simpa[Act.put] using h.df,fun k b hb=>?_,fun k j hk hj=>?_,⟨fun e k off he=>?_,fun j b k off hj hm=>?_⟩,h.gd,h.gr⟩
  ·by_cases hed:e=d
   ·subst hed;rw[B5]at he⊢;simp only[Act.put];rw[Array.getElem?_setIfInBounds_self];simp[show e<a.tmps.size by omega,hx he]
   ·rw[Px _ _ _ hed]at he⊢;simp only[Act.put];rw[A2l (fun h=>hed h.symm)];exact h.tm e he
  ·rw[Ct]at hb;exact h.box k b hb
  ·rw[Ct]at hk hj;exact h.inj k j hk hj
  ·rw[Ct];by_cases hed:e=d
   ·subst hed;rw[B5]at he;exact hl k off he
   ·rw[Px _ _ _ hed]at he;exact h.lv.1 e k off he
  ·rw[Ct]at hj⊢;exact h.lv.2 j b k off hj hm
theorem A9 (w:World)(o:Obj)(h:g<w.heap.size):(w.alloc o).heap[g]?=w.heap[g]?:=by
 show (w.heap.push o)[g]?=_;rw[Bad,if_neg (Nat.ne_of_lt h)]
theorem Ca (w:World)(o:Obj):(w.alloc o).heap[w.heap.size]?=some o:=by
 show (w.heap.push o)[w.heap.size]?=_;rw[Bad,if_pos rfl]
theorem Br (w:World)(o:Obj):(w.alloc o).heap.size=w.heap.size+1:=Array.size_push ..
theorem Bx.alloc (h:Bx u m w){cs:Array Value}{t:TypeId}{fr:Nat×Nat}(hw:∀ (j:Nat) (z:Int),cs[j]?≠some (.int .u64 z)):Bx u m (w.alloc (.cells cs t fr)):=by
 refine⟨fun g o hg=>?_,fun g o hg=>?_,h.ap,fun g cs' t' fr' j z hg hj=>?_⟩
 ·rw[A9 _ _ (h.pu.lt hg)];exact h.pu g o hg
 ·rw[A9 _ _ (h.pm.lt hg)];exact h.pm g o hg
 ·have hlt:=Bw hg;rw[Br]at hlt;by_cases hgs:g=w.heap.size
  ·subst hgs;rw[Ca]at hg;simp only[A0t,Obj.cells.injEq]at hg;obtain⟨rfl,rfl,rfl⟩:=hg;exact absurd hj (hw j z)
  ·rw[A9 _ _ oV]at hg;exact h.cl g cs' t' fr' j z hg hj
theorem Bz.alloc {u0 m0:PH}{w0:World}(h:Bz u0 m0 w0 u m w)(o:Obj):Bz u0 m0 w0 u m (w.alloc o) :=
 ⟨by rw[Br];have:=h.sz;omega,fun g hg hm=>by rw[A9 _ _ (A2e hg h.sz)];exact h.old g hg hm,h.us,h.ms,h.io,fun f=>⟨(h.dr f).tape,(h.dr f).dr⟩⟩
theorem Wn {ρ:Nat->Nat}{k g:Nat}{x:SV}(hx:∀ off,x≠.p k off):x.den (fun j=>if j=k then g else ρ j)=x.den ρ:=by
 cases x with
 |junk=>rfl
 |v x=>rfl
 |p j off =>
  have:j≠k:=fun e=>hx off (by rw[e]);simp[SV.den,this]
theorem Rel.alloc (h:Rel c s u m ρ a w){k:Nat}(hk:s.hp k=none){b:Blk}{cs:Array Value}(hlen:cs.size=b.cells.length)(hcs:∀ (i:Nat) (x:SV),b.cells[i]?=some x->x≠.junk->cs[i]?=some (x.den ρ))
 (hl:∀ j off,SV.p j off∈b.cells->s.hp j≠none) (hw:∀ (j:Nat) (z:Int),cs[j]?≠some (.int .u64 z)) :
 Rel c (s.setb (some (k,b))) u m (fun j=>if j=k then w.heap.size else ρ j) a (w.alloc (.cells cs b.t)):=by
 have hne:∀ j b',s.hp j=some b'->j≠k:=fun j b' hj e=>by rw[e,hk]at hj;cases hj
 have hne':∀ j,s.hp j≠none->j≠k:=fun j hj e=>hj (by rw[e,hk]);have hlt:∀ j,s.hp j≠none->ρ j<w.heap.size:=fun j hj=>by
  cases hb:s.hp j with
  |none=>exact absurd hb hj
  |some b'=>obtain⟨⟨cs',e,_⟩,_⟩:=h.box j b' hb;exact Bw e
 refine⟨by rw[Pc];exact h.sz,fun d hd=>?_,h.df.of fun r e _ hu hm=>⟨by rw[A9 _ _ (Bw e)];exact e,hu,hm⟩,fun j b' hb=>?_,fun i j hi hj he=>?_,⟨fun d j off hd=>?_,fun i b' j off hi hm=>?_⟩,h.gd.alloc hw,h.gr.alloc _⟩
 ·rw[D7]at hd⊢;rw[h.tm d hd,Wn (fun off e=>h.lv.1 d k off e hk)]
 ·by_cases hjk:j=k
  ·subst hjk;rw[Bg]at hb;simp only[A0t]at hb;subst hb;simp only[if_true];refine⟨⟨cs,by rw[Ca],hlen,fun i x hi hx=>?_⟩,h.gr.sz,?_,?_⟩
   ·rw[hcs i x hi hx,Wn (fun off e=>?_)];exact hl j off (e▸A1b hi) hk
   ·exact h.gd.pu.none (A0w _)
   ·exact h.gd.pm.none (A0w _)
  ·rw[A6 _ _ _ hjk]at hb;simp only[if_neg hjk];obtain⟨⟨cs',e1,e2,e3⟩,r⟩:=h.box j b' hb;refine⟨⟨cs',by rw[A9 _ _ (Bw e1)];exact e1,e2,fun i x hi hx=>?_⟩,r⟩;rw[e3 i x hi hx,Wn (fun off e=>h.lv.2 j b' k off hb (e▸A1b hi) hk)]
 ·by_cases hik:i=k
  ·by_cases hjk:j=k
   ·rw[hik,hjk]
   ·rw[A6 _ _ _ hjk]at hj;simp only[hik,if_true,if_neg hjk]at he;have:=hlt j hj;omega
  ·rw[A6 _ _ _ hik]at hi;by_cases hjk:j=k
   ·simp only[hjk,if_true,if_neg hik]at he;have:=hlt i hi;omega
   ·rw[A6 _ _ _ hjk]at hj;simp only[if_neg hik,if_neg hjk]at he;exact h.inj i j hi hj he
 ·rw[D7]at hd;have:=h.lv.1 d j off hd;rw[A6 _ _ _ (hne' j this)];exact this
 ·by_cases hjk:j=k
  ·rw[hjk,Bg];simp
  ·rw[A6 _ _ _ hjk];by_cases hik:i=k
   ·subst hik;rw[Bg]at hi;simp only[A0t]at hi;subst hi;exact hl j off hm
   ·rw[A6 _ _ _ hik]at hi;exact h.lv.2 i b' j off hi hm
theorem Rel.store (h:Rel c s u m ρ a w){k:Nat}{b b':Blk}(hk:s.hp k=some b)(ht:b'.t=b.t){cs:Array Value}(hlen:cs.size=b'.cells.length)(hcs:∀ (i:Nat) (x:SV),b'.cells[i]?=some x->x≠.junk->cs[i]?=some (x.den ρ))
 (hl:∀ j off,SV.p j off∈b'.cells->s.hp j≠none) (hw:∀ (j:Nat) (z:Int),cs[j]?≠some (.int .u64 z)) :
 Rel c (s.setb (some (k,b'))) u m ρ a (w.setRow (ρ k) cs):=by
 obtain⟨⟨cs0,e0,_,_⟩,r0,r1,r2⟩:=h.box k b hk;have hother:∀ g,g≠ρ k->(w.setRow (ρ k) cs).heap[g]?=w.heap[g]?:=fun g hg=>setRow_other w (ρ k) g cs hg;have hsame:(w.setRow (ρ k) cs).heap[ρ k]?=some (.cells cs b.t (0,0)):=setRow_heap w (ρ k) cs0 cs _ _ e0;refine⟨by rw[Pc];exact h.sz,fun d hd=>by rw[D7]at hd⊢;exact h.tm d hd,h.df.of fun r e _ hu hm=>⟨by rw[hother _ (fun e'=>by rw[e',e0]at e;cases e)];exact e,hu,hm⟩,fun j b1 hb=>?_,fun i j hi hj he=>?_,⟨fun d j off hd=>?_,fun i b1 j off hi hm=>?_⟩,⟨?_,?_,h.gd.ap,?_⟩,⟨?_,?_,h.gr.us,h.gr.ms,h.gr.io,fun f=>⟨(h.gr.dr f).tape,(h.gr.dr f).dr⟩⟩⟩
 ·by_cases hjk:j=k
  ·subst hjk;rw[Bg]at hb;simp only[A0t]at hb;subst hb;exact⟨⟨cs,by rw[hsame,ht],hlen,hcs⟩,r0,r1,r2⟩
  ·rw[A6 _ _ _ hjk]at hb;have hne:ρ j≠ρ k:=fun e=>hjk (h.inj j k (by rw[hb];simp) (by rw[hk];simp) e);rw[hother _ hne];exact h.box j b1 hb
 ·have h1:∀ i,(s.setb (some (k,b'))).hp i≠none->s.hp i≠none:=fun i hi=>by
   by_cases hik:i=k
   ·rw[hik,hk];simp
   ·rw[A6 _ _ _ hik]at hi;exact hi
  exact h.inj i j (h1 i hi) (h1 j hj) he
 ·rw[D7]at hd;by_cases hjk:j=k
  ·rw[hjk,Bg];simp
  ·rw[A6 _ _ _ hjk];exact h.lv.1 d j off hd
 ·by_cases hjk:j=k
  ·rw[hjk,Bg];simp
  ·rw[A6 _ _ _ hjk];by_cases hik:i=k
   ·subst hik;rw[Bg]at hi;simp only[A0t]at hi;subst hi;exact hl j off hm
   ·rw[A6 _ _ _ hik]at hi;exact h.lv.2 i b1 j off hi hm
 ·intro g o hg;rw[hother g (fun e=>by rw[e,r1]at hg;cases hg)];exact h.gd.pu g o hg
 ·intro g o hg;rw[hother g (fun e=>by rw[e,r2]at hg;cases hg)];exact h.gd.pm g o hg
 ·intro g cs' t' fr' j z hg hj;by_cases hgk:g=ρ k
  ·rw[hgk,hsame]at hg;simp only[A0t,Obj.cells.injEq]at hg;obtain⟨rfl,_,_⟩:=hg;exact absurd hj (hw j z)
  ·rw[hother g hgk]at hg;exact h.gd.cl g cs' t' fr' j z hg hj
 ·rw[setRow_size];exact h.gr.sz
 ·intro g hg hm;rw[hother g oV];exact h.gr.old g hg hm
end rel
end
section
def iV (x:Int):SV:=.v (.int .i64 x)
def sV (a:Option Addr)(n c:Nat):SV:=.v (.slice a n c)
def bV (b:Bool):SV:=.v (.bool b)
end
section
section fill
theorem Vu (off:Nat):∀ (l:List Value) (k:Nat) (cells:Array Value),off+k+l.length<=cells.size ->
 (((l.zipIdx k).foldl (fun (cs:Array Value) (p:Value×Nat)=>cs.setIfInBounds (off+p.2) p.1) cells).toList)=cells.toList.take (off+k)++l++cells.toList.drop (off+k+l.length)
 |[],k,cells,h=>mV
 |v::l,k,cells,h=>by
  have ih:=Vu off l (k+1) (cells.setIfInBounds (off+k) v) (by simp at h⊢;omega);simp only[List.zipIdx_cons,List.foldl_cons];rw[ih];simp only[Array.toList_setIfInBounds,A2n];have hlt:off+k<cells.toList.length:=by simp at h⊢;omega
  have e1:(cells.toList.set (off+k) v).take (off+(k+1))=cells.toList.take (off+k)++[v]:=by
   rw[show off+(k+1)=off+k+1 by omega,List.take_add_one,List.take_set_of_le (A0w _),List.getElem?_set_self hlt];rfl
  have e2:(cells.toList.set (off+k) v).drop (off+(k+1)+l.length)=cells.toList.drop (off+k+(l.length+1)):=by
   rw[List.drop_set_of_lt oV];congr 1;omega
  rw[e1,e2];simp
theorem Vg (place:Nat->Option (Nat×Nat))(cells:Array Value)(i off size:Nat)(v:Value)(rest:List (Nat×Value))(hp:place i=some (off,size))(hs:v.cells.size=size)(hf:off+size<=cells.size) :
 A73 place cells ((i,v)::rest)=A73 place (cells.toList.take off++v.cells.toList++cells.toList.drop (off+size)).toArray rest:=by
 have e:v.cells.zipIdx.foldl (fun (cs:Array Value) (p:Value×Nat)=>cs.setIfInBounds (off+p.2) p.1) cells=(cells.toList.take off++v.cells.toList++cells.toList.drop (off+size)).toArray:=by
  apply Array.ext';have:=Vu off v.cells.toList 0 cells gV;simp only[A3f,A29,hs]at this;rw[<-this,<-Array.foldl_toList,Array.toList_zipIdx]
 rw[Instr.fill.eq_2];simp only[hp];rw[if_neg (by simp[hs];omega),<-e]
def N1 (P:Program):List Field->Option (List (Nat×Nat))
 |[]=>some []
 |f::l=>match P.info? f.type with
  |some i=>match N1 P l with|some r=>some ((f.offset,i.size)::r)|none=>none
  |none=>none
def Yx (pl:List (Nat×Nat)):List Value->List (Nat×Value)->Option (List Value)
 |cells,[]=>some cells
 |cells,(i,v)::r=>match pl[i]? with
  |some (off,size)=>cond (A17 v.cells.size size&&A55 (off+size) cells.length) (Yx pl (cells.take off++v.cells.toList++cells.drop (off+size)) r) none
  |none=>none
theorem Rl (pl:List (Nat×Nat)):∀ (ps:List (Nat×Value)) (cells:List Value) (r:List Value),Yx pl cells ps=some r->A73 (fun i=>pl[i]?) cells.toArray ps=some r.toArray
 |[],cells,r,h=>by simp[Yx]at h;simp[A73,h]
 |(i,v)::ps,cells,r,h=>by
  unfold Yx at h;split at h
  ·rename_i off size hp;cases hc:(A17 v.cells.size size&&A55 (off+size) cells.length) with
   |false=>simp[hc]at h
   |true =>
    simp only[hc,cond_true]at h;simp only[A05]at hc;rw[Vg _ _ i off size v ps hp (A1h hc.1) (by simpa using A7y hc.2)];exact Rl pl ps _ r h
  ·cases h
theorem Ro {P:Program}{w:World}:∀ (l:List Field) (r:List (Nat×Nat)),N1 P l=some r->(l.mapM (fun f=>do pure (f.offset,<-sizeOf f.type)):Sem (List (Nat×Nat))).run P w=.ok r w
 |[],r,h=>by simp[N1]at h;subst h;simp
 |f::l,r,h=>by
  unfold N1 at h;split at h
  ·rename_i i hi;split at h
   ·rename_i r' hr;simp at h;subst h;rw[List.mapM_cons];have ih:=Ro (P:=P) (w:=w) l r' hr;simp only[A1n,sizeOf,typeInfo,run_program,A0y,hi,A3g]at ih⊢;rw[ih];rfl
   ·cases h
  ·cases h
end fill
end
section
variable {b:Blk}{g i:Nat}{l:List SV}{o:Oper}{t:TypeId}{x:SV}
variable [Cc] [Dy]
def Aae:List SV->Option (List Value)
 |[]=>some []
 |.v x::l=>match Aae l with|some r=>some (x::r)|none=>none
 |_=>none
def Jr (P:Program)(t:TypeId):Option Bool :=
 match P.underlying t with
 |some (.struct _)|some (.array _ _)=>some true
 |some _=>some false
 |none=>none
def szB (P:Program)(t:TypeId):Option Nat:=match P.info? t with|some i=>some i.size|none=>none
def ldv (P:Program)(t:TypeId)(cells:List SV)(off:Nat):Option SV :=
 match Jr P t with
 |some true =>
  match szB P t with
  |some n=>match Aae ((cells.drop off).take n) with
   |some l=>cond (A17 l.length n) (some (.v (.agg l.toArray))) none
   |none=>none
  |none=>none
 |some false=>match cells[off]? with
  |some (.v x)=>some (.v x)
  |some (.p k o)=>some (.p k o)
  |_=>none
 |none=>none
def Ic:SV->Option (List SV)
 |.v x=>cond (x.cells.toList.all Be) (some (x.cells.toList.map .v)) none
 |.p k off=>some [.p k off]
 |.junk=>none
def Ld (l:List SV)(off:Nat)(r:List SV):List SV:=l.take off++r++l.drop (off+r.length)
def Lq (P:Program)(t:TypeId)(f:Nat):Option Nat :=
 match P.underlying t with
 |some (.struct fs)=>match fs[f]? with
  |some fd=>match szB P fd.type with
   |some (_+1)=>some fd.offset
   |_=>none
  |none=>none
 |_=>none
def Kg (s:S)(x:Operand):Value:=match s.ev x with|.v y=>y|_=>undef
def isV:SV->Bool|.v _=>true|_=>false
def Ko (s:S)(o:Op):Bool:=o.operands.toList.all fun x=>isV (s.ev x)
def pv (P:Program)(env:Operand->Value)(o:Op):Option Value :=
 match o with
 |.extract x i=>match env x with|.tuple vs=>vs[i]?|_=>none
 |.pick c a b=>match env c with|.bool true=>some (env a)|.bool false=>some (env b)|_=>none
 |.makeFunc fn first captured=>some (.func fn (first.map env) (captured.map env))
 |.unOp .not _ x=>match env x with|.bool b=>some (.bool !b)|_=>none
 |.convert src dst x=>match P.underlying src with
  |some .string=>match P.underlying dst with
   |some .string=>match env x with|.string y=>some (.string y)|_=>none
   |_=>none
  |_=>none
 |.call { callee:=.builtin .len,args:=args,argTypes:=ts } =>
  match args[0]?,ts[0]? with
  |some x,some t=>match P.underlying t with
   |some (.slice _)=>match env x with|.slice _ n _=>some (.int .i64 n)|_=>none
   |some .string=>match env x with|.string y=>some (.int .i64 y.size)|_=>none
   |_=>none
  |_,_=>none
 |.nilCheck x=>match env x with|.pointer (some a)=>some (.pointer (some a))|_=>none
 |.build t ps=>match P.info? t with
  |some i=>match i.zero with
   |some z=>match P.underlying t with
    |some (.struct fs)=>match N1 P fs.toList with
     |some pl=>match Yx pl z.cells.toList (ps.toList.map fun (i,x)=>(i,env x)) with|some l=>some (.agg l.toArray)|none=>none
     |none=>none
    |_=>none
   |none=>none
  |none=>none
 |.field t x f=>match P.underlying t with
  |some (.struct fs)=>match fs[f]? with
   |some fd=>match Jr P fd.type with
    |some false=>match env x with|.agg cs=>cs[fd.offset]?|_=>none
    |some true=>match szB P fd.type with
     |some n=>match env x with|.agg cs=>some (.agg (cs.extract fd.offset (fd.offset+n)))|_=>none
     |none=>none
    |none=>none
   |none=>none
  |_=>none
 |_=>none
def eff (P:Program)(name:Nat)(s:S)(o:Op):Option (SV×Option (Nat×Blk)) :=
 match o with
 |.move x=>some (s.ev x,none)
 |.assign x=>some (s.ev x,none)
 |.alloc t=>match P.info? t with
  |some i=>match i.zero with
   |some z=>match s.hp name with
    |none=>match Ic (.v z) with
     |some l=>some (.p name 0,some (name,⟨t,l⟩))
     |none=>none
    |some _=>none
   |none=>none
  |none=>none
 |.box t x=>match s.hp name with
  |none=>match Ic (s.ev x) with
   |some l=>some (.p name 0,some (name,⟨t,l⟩))
   |none=>none
  |some _=>none
 |.load t x=>match s.ev x with
  |.p k off=>match s.hp k with
   |some b=>match ldv P t b.cells off with|some y=>some (y,none)|none=>none
   |none=>none
  |_=>none
 |.store t x y=>match s.ev x with
  |.p k off=>match s.hp k with
   |some b=>match Ic (s.ev y) with
    |some l=>match szB P t with
     |some n=>cond (A17 l.length n&&A55 (off+n) b.cells.length) (some (.v undef,some (k,⟨b.t,Ld b.cells off l⟩))) none
     |none=>none
    |none=>none
   |none=>none
  |_=>none
 |.fieldAddr t x f=>match s.ev x with
  |.p k off=>match Lq P t f with|some fo=>some (.p k (off+fo),none)|none=>none
  |_=>none
 |o=>match Ko s o with
  |true=>match pv P (Kg s) o with|some y=>some (.v y,none)|none=>none
  |false=>none
section sound
variable {P:Program} {c:Cx} {s:S} {u m:PH} {ρ:Nat->Nat} {a:Act} {w:World}
theorem Vr:∀ {l:List SV} {r:List Value},Aae l=some r->l=r.map .v
 |[],r,h=>by simp[Aae]at h;simp[h]
 |.v x::l,r,h=>by
  unfold Aae at h;cases hl:Aae l with
  |none=>simp[hl]at h
  |some r'=>simp[hl]at h;subst h;simp[<-Vr hl]
 |.junk::l,r,h=>by simp[Aae]at h
 |.p k off::l,r,h=>by simp[Aae]at h
theorem Dg {b:Bool}(h:Jr P t=some b)(w:World):(isAgg t).run P w=.ok b w:=by
 unfold Jr at h;unfold isAgg;cases hd:P.underlying t with
 |none=>simp[hd]at h
 |some d=>simp only[A1n,run_underlying hd,A0y];cases d<;>simp_all
theorem Bf {n:Nat}(h:szB P t=some n)(w:World):(sizeOf t).run P w=.ok n w:=by
 unfold szB at h;unfold sizeOf typeInfo;cases hi:P.info? t with
 |none=>simp[hi]at h
 |some i=>simp[hi]at h⊢;exact h
theorem Db (g off j:Nat):(⟨g,off,none⟩:Addr).add j=⟨g,off+j,none⟩:=by unfold Addr.add;split<;>simp_all
theorem Rm {o:Option Obj}(h:Ahz ρ b o)(hg:w.heap[g]?=o)(hi:b.cells[i]?=some x)(hx:x≠.junk):w.cell? ⟨g,i,none⟩=some (x.den ρ):=by
 obtain⟨cs,e,_,e3⟩:=h;simp[World.cell?,hg,e,e3 i x hi hx]
theorem Aen {g off:Nat}{y:SV}(h:Ahz ρ b (w.heap[g]?))(hy:ldv P t b.cells off=some y) :
 (loadVar t ⟨g,off,none⟩).run P w=.ok (y.den ρ) w/\y≠.junk/\(∀ k o,y=.p k o->SV.p k o∈b.cells):=by
 unfold ldv at hy;unfold loadVar;split at hy
 ·rename_i ha;split at hy
  ·rename_i n hn;split at hy
   ·rename_i l hl;cases hlen:A17 l.length n with
    |false=>simp[hlen]at hy
    |true =>
     simp[hlen]at hy;subst hy;have hln:l.length=n:=A1h hlen;have hv:=Vr hl;have hcells:∀ j v,l[j]?=some v->w.cell? ((⟨g,off,none⟩:Addr).add j)=some v:=by
      intro j v hj;rw[Db];have h1:((b.cells.drop off).take n)[j]?=some (.v v):=by rw[hv];simp[hj]
      rw[A3m]at h1;split at h1
      ·rw[A4n]at h1;exact Rm h rfl h1 mV
      ·cases h1
     have:=run_loadCells_list (P:=P) w ⟨g,off,none⟩ l hcells;refine⟨?_,mV,mV⟩;simp only[A1n,Dg ha,A0y,if_true,Bf hn];rw[<-hln,this];rfl
   ·cases hy
  ·cases hy
 ·rename_i ha;split at hy
  ·rename_i x hx;simp at hy;subst hy;have:=Rm h rfl hx mV;exact⟨by simp[Dg ha,this],mV,mV⟩
  ·rename_i k o hx;simp at hy;subst hy;have:=Rm h rfl hx mV;exact⟨by simp[Dg ha,this],mV,fun k' o' e=>by simp at e;obtain⟨rfl,rfl⟩:=e;exact A1b hx⟩
  ·cases hy
 ·cases hy
theorem D8 (h:Ic x=some l)(ρ:Nat->Nat) :
 l.map (·.den ρ)=(x.den ρ).cells.toList/\(∀ y∈l,y≠.junk)/\(∀ v∈l.map (SV.den ρ),Be v=true)/\(∀ k o,SV.p k o∈l->x=.p k o)/\x≠.junk:=by
 cases x with
 |junk=>simp[Ic]at h
 |v x =>
  unfold Ic at h;cases hc:x.cells.toList.all Be with
  |false=>simp[hc]at h
  |true =>
   simp only[hc,cond_true,A0t]at h;subst h;refine⟨by simp[SV.den,Function.comp_def],mV,?_,mV,mV⟩;intro v hv;simp[SV.den]at hv;rw[A08]at hc;exact hc v (by simpa using hv)
 |p k off =>
  simp[Ic]at h;subst h;refine⟨by simp[SV.den,Value.cells],mV,by simp[SV.den,Be],?_,mV⟩;intro k' o' hm;simp at hm;rw[hm.1,hm.2]
theorem Afn {v:List Value}(ρ:Nat->Nat)(h:l.map (·.den ρ)=v)(hi:l[i]?=some x):v.toArray[i]?=some (x.den ρ):=by
 subst h;simp[hi]
theorem Akn {l:List Value}(h:∀ v∈l,Be v=true)(j:Nat)(z:Int):l.toArray[j]?≠some (.int .u64 z):=by
 intro e;rw[A2x]at e;exact Ig (h _ (A1b e)) z rfl
theorem Tv (t:TypeId)(v:Value):(newVar t v).run P w=.ok ⟨w.heap.size,0,none⟩ (w.alloc (.cells v.cells t)):=by
 simp[newVar,newRow,World.alloc_eq]
theorem Rel.box_new (h:Rel c s u m ρ a w){k:Nat}(hk:s.hp k=none)(hl:Ic x=some l)(hx:∀ j off,x=.p j off->s.hp j≠none)(t:TypeId){d:Option Nat}(hd:∀ e,d=some e->e<s.n) :
 ∃ ρ',Rel c ((s.put d (.p k 0)).setb (some (k,⟨t,l⟩))) u m ρ' (a.put d (.pointer (some ⟨w.heap.size,0,none⟩))) (w.alloc (.cells (x.den ρ).cells t)):=by
 obtain⟨e1,e2,e3,e4,_⟩:=D8 hl ρ;have h1:=h.alloc (k:=k) (b:=⟨t,l⟩) (cs:=(x.den ρ).cells) hk (by rw[<-A29,<-e1];simp)
  (fun i y hi _=>by have:=Afn ρ e1 hi;simpa using this) (fun j off hm=>hx j off (e4 j off hm))
  (fun j z=>by have:=Akn e3 j z;rw[e1]at this;simpa using this)
 refine⟨fun j=>if j=k then w.heap.size else ρ j,?_⟩;rw[<-O4];refine h1.put (fun _=>by simp[SV.den]) (fun j off e=>?_) (by rw[Pc];exact hd);simp only[SV.p.injEq]at e;rw[<-e.1,Bg];simp
theorem Nc (h:Rel c s u m ρ a w)(hs:∀ cs b,o.op≠.select cs b)(hv:Ko s o.op=true):execOp a.eval o=execOp (Kg s) o:=by
 refine execOp_congr o hs fun x hx=>?_;unfold Ko at hv;rw[A08]at hv;have:=hv x (by simpa using hx);unfold isV at this;split at this
 ·rename_i y hy;rw[h.eval x (by rw[hy];simp),hy];simp[SV.den,Kg,hy]
 ·cases this
theorem Aju {env:Operand->Value}{y:Value}(h:pv P env o.op=some y)(w:World):(execOp env o).run P w=.ok (.value y) w:=by
 obtain⟨dst,op,type,pos,after,guard⟩:=o;unfold pv at h;simp only at h;split at h
 ·rename_i x i;split at h
  ·rename_i vs hvs;simp[execOp,Instr.extract,hvs,h]
  ·cases h
 ·rename_i c x y';split at h
  ·rename_i hc;simp at h;subst h;simp[execOp,hc,asBool]
  ·rename_i hc;simp at h;subst h;simp[execOp,hc,asBool]
  ·cases h
 ·simp at h;subst h;simp[execOp,Instr.makeFunc]
 ·rename_i t x;split at h
  ·rename_i b hb;simp at h;subst h;simp[execOp,Op.unary,hb]
  ·cases h
 ·rename_i src dst' x;split at h
  ·rename_i h1;split at h
   ·rename_i h2;split at h
    ·rename_i z hz;simp at h;subst h;simp[execOp,convert,run_underlying h1,run_underlying h2,hz]
    ·cases h
   ·cases h
  ·cases h
 ·rename_i args ts;split at h
  ·rename_i x t hx ht;have hx':(args.map env)[0]?=some (env x):=by simp[hx]
   split at h
   ·rename_i e hu;split at h
    ·rename_i hz;simp at h;subst h;simp[execOp,resolve,invoke,builtin,Builtin.len_,hx',ht,run_underlying hu,hz,goInt]
    ·cases h
   ·rename_i hu;split at h
    ·rename_i hz;simp at h;subst h;simp[execOp,resolve,invoke,builtin,Builtin.len_,hx',ht,run_underlying hu,hz,goInt]
    ·cases h
   ·cases h
  ·cases h
 ·rename_i x;split at h
  ·rename_i z hz;simp at h;subst h;simp[execOp,hz]
  ·cases h
 ·rename_i t ps;split at h
  ·rename_i i hi;split at h
   ·rename_i z hz;split at h
    ·rename_i fs hu;split at h
     ·rename_i pl hpl;split at h
      ·rename_i l hl;simp at h;subst h;have h1:=Rl pl _ _ _ hl;have h2:=Ro (w:=w) fs.toList pl hpl;have e:(ps.map fun (p:Nat×Operand)=>(p.1,env p.2)).toList=ps.toList.map fun (p:Nat×Operand)=>(p.1,env p.2):=mV
       simp only[execOp,Instr.build,zeroValue,typeInfo,A1n,A9n,run_program,A0y,hi,hz,A3g,run_underlying hu];rw[<-A5v (xs:=fs),List.mapM_toArray];simp only[A9n,h2,A0y,A2x];simp only[A5v]at h1;rw[e,h1];rfl
      ·cases h
     ·cases h
    ·cases h
   ·cases h
  ·cases h
 ·rename_i t x f;split at h
  ·rename_i fs hu;split at h
   ·rename_i fd hf;split at h
    ·rename_i ha;split at h
     ·rename_i cs hx;simp[execOp,Bcq,run_underlying hu,hf,asAgg,hx,part,Dg ha,h]
     ·cases h
    ·rename_i ha;split at h
     ·rename_i n hn;split at h
      ·rename_i cs hx;simp at h;subst h;simp[execOp,Bcq,run_underlying hu,hf,asAgg,hx,part,Dg ha,Bf hn]
      ·cases h
     ·cases h
    ·cases h
   ·cases h
  ·cases h
 ·cases h
end sound
end
section
variable {l r:List SV}{off:Nat}{x:SV}
variable [Cc] [Dy]
section sound
variable {P:Program} {c:Cx} {s:S} {u m:PH} {ρ:Nat->Nat} {a:Act} {w:World}
def Aph (P:Program)(a:Act)(o:Oper)(w:World)(y:Value)(w':World):Prop :=
 (execOp a.eval o).run P w=.ok (.value y) w'\/((execOp a.eval o).run P w=.ok .skip w'/\y=undef)
theorem Aa7 (l r:List SV)(off:Nat)(h:off+r.length<=l.length):(Ld l off r).length=l.length:=by
 unfold Ld;simp;omega
theorem Se (h:x∈Ld l off r):x∈l\/x∈r:=by
 unfold Ld at h;rcases A01.1 h with h|h
 ·rcases A01.1 h with h|h
  ·exact .inl (A2r h)
  ·exact .inr h
 ·exact .inl (A3k h)
theorem Acs (h:off+r.length<=l.length)(i:Nat):(Ld l off r)[i]?=if i<off then l[i]? else if i<off+r.length then r[i-off]? else l[i]?:=by
 unfold Ld;rw[A1j,A5w];simp only[A00,A32 (show off<=l.length by omega)];split
 ·rw[A3m,if_pos (by assumption)]
 ·rw[A5w];by_cases h2:i<off+r.length
  ·rw[if_pos oV,if_pos h2]
  ·rw[if_neg oV,if_neg h2,A4n];congr 1;omega
theorem Aeb {cs:List Value}{r:List Value}(h:off+r.length<=cs.length)(i:Nat):(cs.take off++r++cs.drop (off+r.length))[i]?=if i<off then cs[i]? else if i<off+r.length then r[i-off]? else cs[i]?:=by
 rw[A1j,A5w];simp only[A00,A32 (show off<=cs.length by omega)];split
 ·rw[A3m,if_pos (by assumption)]
 ·rw[A5w];by_cases h2:i<off+r.length
  ·rw[if_pos oV,if_pos h2]
  ·rw[if_neg oV,if_neg h2,A4n];congr 1;omega
theorem Afa (h:Rel c s u m ρ a w){name:Nat}{o:Oper}{hw:Option (Nat×Blk)}(he:eff P name s o.op=some (x,hw))(hd:∀ e,o.dst=some e->e<s.n) :
 ∃ ρ' w' y,Aph P a o w y w'/\Rel c ((s.put o.dst x).setb hw) u m ρ' (a.put o.dst y) w':=by
 obtain⟨dst,op,type,pos,after,guard⟩:=o;simp only at he hd⊢;have mv:∀ z:Operand,∃ ρ' w' y,(Bcz (Next.value (a.eval z)) w=Bcz (Next.value y) w')/\Rel c (s.put dst (s.ev z)) u m ρ' (a.put dst y) w':=by
  intro z;refine⟨ρ,w,a.eval z,rfl,h.put (fun hz=>h.eval z hz) (fun k off hz=>?_) hd⟩;cases z with
  |tmp t=>exact h.lv.1 t k off hz
  |const v=>cases hz
  |global g=>cases hz
  |func f=>cases hz
 have lvev:∀ (z:Operand) (k off:Nat),s.ev z=.p k off->s.hp k≠none:=by
  intro z k off hz;cases z with
  |tmp t=>exact h.lv.1 t k off hz
  |const v=>cases hz
  |global g=>cases hz
  |func f=>cases hz
 unfold eff at he;split at he
 ·rename_i z;simp only[A0t,A1r]at he;obtain⟨rfl,rfl⟩:=he;obtain⟨ρ',w',y,e,r⟩:=mv z;exact⟨ρ',w',y,.inl (by simpa[execOp] using e),r⟩
 ·rename_i z;simp only[A0t,A1r]at he;obtain⟨rfl,rfl⟩:=he;obtain⟨ρ',w',y,e,r⟩:=mv z;exact⟨ρ',w',y,.inl (by simpa[execOp] using e),r⟩
 ·rename_i t;split at he
  ·rename_i i hi;split at he
   ·rename_i z hz;split at he
    ·rename_i hn;split at he
     ·rename_i l hl;simp only[A0t,A1r]at he;obtain⟨rfl,rfl⟩:=he;obtain⟨ρ',r⟩:=h.box_new hn hl mV t hd;refine⟨ρ',_,_,.inl ?_,r⟩;simp[execOp,Instr.alloc,zeroValue,typeInfo,hi,hz,Tv,SV.den]
     ·cases he
    ·cases he
   ·cases he
  ·cases he
 ·rename_i t z;split at he
  ·rename_i hn;split at he
   ·rename_i l hl;simp only[A0t,A1r]at he;obtain⟨rfl,rfl⟩:=he;obtain⟨ρ',r⟩:=h.box_new hn hl (fun j off hz=>lvev z j off hz) t hd;refine⟨ρ',_,_,.inl ?_,r⟩;have hz:=h.eval z (D8 hl ρ).2.2.2.2;simp[execOp,Instr.box,Tv,hz]
   ·cases he
  ·cases he
 ·rename_i t z;split at he
  ·rename_i k off hz;split at he
   ·rename_i b hb;split at he
    ·rename_i y hy;simp only[A0t,A1r]at he;obtain⟨rfl,rfl⟩:=he;obtain⟨h1,h2,h3⟩:=Aen (P:=P) (w:=w) (h.box k b hb).1 hy;have hzv:=h.eval z (by rw[hz];simp);rw[hz]at hzv;refine⟨ρ,w,y.den ρ,.inl ?_,h.put (fun _=>rfl) (fun k' o' e=>h.lv.2 k b k' o' hb (h3 k' o' e)) hd⟩;simp[execOp,Instr.loadAt,A3x,hzv,SV.den,h1]
    ·cases he
   ·cases he
  ·cases he
 ·rename_i t z y;split at he
  ·rename_i k off hz;split at he
   ·rename_i b hb;split at he
    ·rename_i l hl;split at he
     ·rename_i n hn;cases hc:(A17 l.length n&&A55 (off+n) b.cells.length) with
      |false=>simp[hc]at he
      |true =>
       simp only[hc,cond_true,A0t,A1r]at he;obtain⟨rfl,rfl⟩:=he;simp only[A05]at hc;have hln:l.length=n:=A1h hc.1;have hle:off+n<=b.cells.length:=A7y hc.2;obtain⟨e1,e2,e3,e4,e5⟩:=D8 hl ρ;have hzv:=h.eval z (by rw[hz];simp);rw[hz]at hzv;have hyv:=h.eval y e5;obtain⟨⟨cs,c1,c2,c3⟩,r0,r1,r2⟩:=h.box k b hb;have hvl:((s.ev y).den ρ).cells.toList.length=n:=by rw[<-e1];simpa using hln
       have hst:=run_storeCells_at P (ρ k) off b.t ((s.ev y).den ρ).cells.toList 0 cs w c1 oV (fun v hv=>Aqt (e3 v (by rw[e1];exact hv)));have hfit:off+((s.ev y).den ρ).cells.toList.length<=cs.toList.length:=by simp at hvl⊢;omega
       refine⟨ρ,w.setRow (ρ k) (cs.toList.take off++((s.ev y).den ρ).cells.toList++cs.toList.drop (off+((s.ev y).den ρ).cells.toList.length)).toArray,undef,.inr ⟨?_,rfl⟩,?_⟩
       ·have hsz:((s.ev y).den ρ).cells.size=n:=by simpa using hvl
        have hzv':a.eval z=.pointer (some ⟨ρ k,off,none⟩):=hzv;simp only[execOp,Instr.storeAt,A3x,hzv',hyv,storeVar,A1n,A3g,A0y,Bf hn,hsz,ne_eq,not_true_eq_false,if_false];simp only[A3f]at hst;simp[hst]
       ·rw[<-O4];refine Rel.put (x:=.v undef) ?_ (fun _=>rfl) mV (by rw[Pc];exact hd);refine h.store (b':=⟨b.t,Ld b.cells off l⟩) hb rfl ?_ (fun i x hi hx=>?_) (fun j o hm=>?_) (fun j zz=>?_)
        ·simp only[List.size_toArray];rw[Aa7 _ _ _ oV];simp at hvl⊢;omega
        ·rw[A2x,Aeb hfit];rw[Acs oV]at hi;rw[hvl];rw[hln]at hi;split
         ·rename_i hlt;rw[if_pos hlt]at hi;have:=c3 i x hi hx;simpa using this
         ·rename_i hlt;rw[if_neg hlt]at hi;split
          ·rename_i hlt2;rw[if_pos hlt2]at hi;rw[<-e1];simp[hi]
          ·rename_i hlt2;rw[if_neg hlt2]at hi;have:=c3 i x hi hx;simpa using this
        ·rcases Se hm with hm|hm
         ·exact h.lv.2 k b j o hb hm
         ·exact lvev y j o (e4 j o hm)
        ·intro e;rw[A2x,Aeb hfit]at e;have hnw:∀ (i:Nat),cs.toList[i]?≠some (Value.int .u64 zz):=fun i hi=>by
          have:=h.gd.cl (ρ k) cs b.t (0,0) i zz c1 (by simpa using hi);rw[r1]at this;cases this
         split at e
         ·exact hnw _ e
         ·split at e
          ·exact Ig (e3 _ (by rw[e1];exact A1b e)) zz rfl
          ·exact hnw _ e
     ·cases he
    ·cases he
   ·cases he
  ·cases he
 ·rename_i t z f;split at he
  ·rename_i k off hz;split at he
   ·rename_i fo hf;simp only[A0t,A1r]at he;obtain⟨rfl,rfl⟩:=he;have hzv:=h.eval z (by rw[hz];simp);rw[hz]at hzv;refine⟨ρ,w,_,.inl ?_,h.put (y:=.pointer (some ⟨ρ k,off+fo,none⟩)) (fun _=>rfl) (fun k' o' e=>?_) hd⟩
    ·unfold Lq at hf;split at hf
     ·rename_i fs hfs;split at hf
      ·rename_i fd hfd;split at hf
       ·rename_i n hn;simp only[A0t]at hf;subst hf;simp[execOp,Instr.fieldAt,run_underlying hfs,hfd,A3x,hzv,SV.den,fieldPlace,Bf hn,Db]
       ·cases hf
      ·cases hf
     ·cases hf
    ·simp only[SV.p.injEq]at e;rw[<-e.1];exact lvev z k off hz
   ·cases he
  ·cases he
 ·rename_i hn1 hn2 hn3 hn4 hn5 hn6 hn7;split at he
  ·rename_i hall;split at he
   ·rename_i y hy;simp only[A0t,A1r]at he;obtain⟨rfl,rfl⟩:=he;refine⟨ρ,w,y,.inl ?_,h.put (fun _=>rfl) mV hd⟩;rw[Nc (o:=⟨dst,op,type,pos,after,guard⟩) h (fun cs b hsel=>?_) hall]
    ·exact Aju (o:=⟨dst,op,type,pos,after,guard⟩) hy w
    ·simp only at hsel;subst hsel;simp[pv]at hy
   ·cases he
  ·cases he
end sound
end
section
variable {a:Act}{d:Option Nat}{hw:Option (Nat×Blk)}{i name y:Nat}{m u:PH}{o:Oper}{s s':S}{w:World}{x:SV}{z:Operand}{ρ:Nat->Nat}
variable [Cc] [Dy]
def gv (s:S)(ops:Array Oper)(o:Oper):Option Bool :=
 match o.guard with
 |none=>some true
 |some (j,want)=>match ops[j]? with
  |some oj=>match oj.dst with
   |some d=>match s.tm d with
    |.v (.bool b)=>some (b==want)
    |.v (.tuple _)=>some false
    |_=>none
   |none=>none
  |none=>none
def Fw (s:S)(o:Oper):Bool:=match o.dst with|none=>true|some d=>A8g d s.n
def Ald (d:TypeId):Bool:=A17 d 3
def D6:Op->Bool
 |.convert _ d _=>Ald d
 |.move _|.assign _|.pick ..|.alloc _|.box ..|.build ..|.load ..|.nilCheck _|.binOp ..|.unOp ..|.fieldAddr ..|.field ..|.indexAddr ..|.index ..|.slice ..|.extract ..|.makeFunc ..|.makeInterface ..=>true
 |.lookup ..=>true
 |.call { callee:=.builtin .len,.. }|.call { callee:=.builtin .cap,.. }|.call { callee:=.builtin .max,.. }|.call { callee:=.builtin .min,.. }=>true
 |_=>false
def F2:Op->Bool
 |.convert _ d _=>!Ald d
 |.load ..|.lookup ..=>true
 |_=>false
def Ke:Op->Bool
 |.store ..=>true
 |.call { callee:=.builtin .append,.. }|.call { callee:=.builtin .copy,.. }=>true
 |_=>false
def bef (ops:Array Oper):Nat->Nat->Nat->Bool
 |0,_,_=>false
 |f+1,i,x=>match ops[i]? with
  |some o=>o.after.toList.any fun e=>Region.binds .any e&&(A17 e.on x||bef ops f e.on x)
  |none=>false
def Ap2:Op->Bool
 |.call { callee:=.value _,.. }=>true
 |.mapUpdate ..|.insert ..=>true
 |_=>false
def Apr (ops:Array Oper)(y:Nat):Bool:=(A1q ops.size).all fun x=>A17 x y||bef ops ops.size y x
def Oo (ops:Array Oper)(y:Nat)(o:Op):Bool:=Ke o||(Ap2 o&&Apr ops y)
theorem Afj {ops:Array Oper}{o:Op}(h:Ke o=true):Oo ops y o=true:=by unfold Oo;rw[h];rfl
theorem Ajt {ops:Array Oper}{o:Op}(h:Oo ops y o=false):Ke o=false:=by
 unfold Oo at h;cases hm:Ke o with
 |true=>rw[hm]at h;simp at h
 |false=>rfl
def Mg (ops:Array Oper)(t:Nat):Bool:=ops.toList.all fun o=>match o.dst with|some d=>!A17 d t|none=>true
def isP:SV->Bool
 |.p _ _=>true
 |_=>false
def faB (ops:Array Oper)(s:S)(o:Oper):Bool:=o.guard.isNone&&match o.op with
 |.fieldAddr _ (.tmp b) _=>Mg ops b&&isP (s.tm b)
 |_=>false
def wrB (t:Nat)(o:Oper):Bool:=match o.dst with|some d=>A17 d t|none=>false
def Ue (ops:Array Oper)(s:S)(t:Nat):Bool:=ops.toList.any (wrB t)&&ops.toList.all fun o=>!wrB t o||faB ops s o
def Zb (ops:Array Oper)(s:S)(o:Oper):Bool:=match o.op with
 |.load _ (.tmp t)=>(Mg ops t&&isP (s.tm t))||Ue ops s t
 |_=>false
def J0 (ops:Array Oper)(s:S):Bool:=ops.toList.all fun o=>!F2 o.op||Zb ops s o
def Ea:Op->Bool
 |.alloc _|.box ..=>true
 |_=>false
def Ls:Op->Bool
 |.select ..=>false
 |_=>true
theorem I0 {o:Op}(h:Ls o=true)(cs:Array SelectCase)(b:Bool):o≠.select cs b:=by rintro rfl;simp[Ls]at h
def D3 (P:Program)(env:Operand->Value)(o:Oper)(w:World)(K:Value->World->Prop):Prop :=
 match (execOp env o).run P w with
 |.ok (.value v) w'=>K v w'
 |.ok .skip w'=>K undef w'
 |.ok (.enter f args) w'=>Calls P f args w' fun e w''=>∃ v,e=.returned v/\K v w''
 |_=>False
inductive Ob (P:Program)(id:Nat)(ops:Array Oper)(dr:Bool)(Fin:S->PH->PH->Prop):List Nat->S->PH->PH->Prop
 |nil {s:S} {u m:PH}:Fin s u m->Ob P id ops dr Fin [] s u m
 |auto {i:Nat} {l:List Nat} {s:S} {u m:PH} {o:Oper} {x:SV} {hw:Option (Nat×Blk)}:ops[i]?=some o->gv s ops o=some true->Fw s o=true->eff P (id*1000+i) s o.op=some (x,hw) ->
  Ob P id ops dr Fin l ((s.put o.dst x).setb hw) u m->Ob P id ops dr Fin (i::l) s u m
 |skip {i:Nat} {l:List Nat} {s:S} {u m:PH} {o:Oper}:ops[i]?=some o->gv s ops o=some false->Fw s o=true ->
  Ob P id ops dr Fin l (s.put o.dst (.v undef)) u m->Ob P id ops dr Fin (i::l) s u m
 |ask {i:Nat} {l:List Nat} {s:S} {u m:PH} {o:Oper} {v:Value}:ops[i]?=some o->gv s ops o=some true->Fw s o=true->Ko s o.op=true->Ls o.op=true->Ea o.op=false ->
  (∀ w,(F2 o.op=true->Eb u w/\Eb m w)->(execOp (Kg s) o).run P w=.ok (.value v) w) ->
  Ob P id ops dr Fin l (s.put o.dst (.v v)) u m->Ob P id ops dr Fin (i::l) s u m
 |big {i:Nat} {l:List Nat} {s:S} {u m:PH} {o:Oper} {K:Value->PH->PH->Prop}:ops[i]?=some o->gv s ops o=some true->Fw s o=true->Ko s o.op=true->Ls o.op=true->D6 o.op=false ->
  (∀ v u' m',K v u' m'->PH.le m m'\/dr=false\/Oo ops i o.op=true\/J0 ops s=true) ->
  (∀ w,Bx u m w->D3 P (Kg s) o w fun v w'=>∃ u' m',Bx u' m' w'/\Bz u m w u' m' w'/\K v u' m') ->
  (∀ v u' m',PH.le u u'->K v u' m'->Ob P id ops dr Fin l (s.put o.dst (.v v)) u' m')->Ob P id ops dr Fin (i::l) s u m
section sound
variable {P:Program} {id:Nat} {ops:Array Oper} {dr:Bool} {Fin:S->PH->PH->Prop} {c:Cx} {Q:Exit->Act->World->Prop}
theorem L0 (h:Rel c s u m ρ a w){b:Bool}(hg:gv s ops o=some b):Region.wanted o (yielded ops a.tmps)=b:=by
 unfold gv at hg;unfold Region.wanted;split at hg
 ·rename_i e;rw[e];simpa using hg
 ·rename_i j want e;rw[e];split at hg
  ·rename_i oj hj;split at hg
   ·rename_i d hd;split at hg
    ·rename_i b' hb;have:=h.tm d (by rw[hb];simp);rw[hb]at this;simp[yielded,hj,hd,this,SV.den]at hg⊢;exact hg
    ·rename_i vs hb;have:=h.tm d (by rw[hb];simp);rw[hb]at this;simp only[A0t]at hg;subst hg;simp[yielded,hj,hd,this,SV.den]
    ·cases hg
   ·cases hg
  ·cases hg
theorem Wt (h:Fw s o=true):∀ e,o.dst=some e->e<s.n:=by
 intro e he;unfold Fw at h;rw[he]at h;exact A68▸h
theorem Vk {w w':World}{y:Value}{K:Act->World->Prop}(h:Aph P a o w y w')(hk:K (a.put o.dst y) w'):o.wp P a w K Q:=by
 unfold Oper.wp;rcases h with h|⟨h,rfl⟩<;>rw[h]<;>exact hk
theorem Vl {ops:Array Oper}(h:∀ t,Mg ops t=true->s'.tm t=s.tm t)(o:Oper):faB ops s' o=faB ops s o:=by
 unfold faB;split
 ·rename_i b f hop;cases hn:Mg ops b with
  |false=>rfl
  |true=>rw[h b hn]
 ·rfl
theorem Kd {ops:Array Oper}(h:∀ t,Mg ops t=true->s'.tm t=s.tm t)(t:Nat):Ue ops s' t=Ue ops s t:=by
 unfold Ue;simp only[Vl h]
theorem Aa2 {ops:Array Oper}(h:∀ t,Mg ops t=true->s'.tm t=s.tm t)(o:Oper):Zb ops s' o=Zb ops s o:=by
 unfold Zb;split
 ·rename_i t' t hop;rw[Kd h];cases hn:Mg ops t with
  |false=>rfl
  |true=>rw[h t hn]
 ·rfl
theorem Xj {ops:Array Oper}(h:∀ t,Mg ops t=true->s'.tm t=s.tm t):J0 ops s'=J0 ops s:=by
 unfold J0;simp only[Aa2 h]
def ixB (o:Oper):Bool:=match o.op with
 |.indexAddr ..=>true
 |_=>false
def alB (ops:Array Oper)(t:Nat):Bool:=ops.toList.all fun o=>!wrB t o||(Ea o.op&&o.guard.isNone)
def Ae1 (ops:Array Oper)(s:S)(t:Nat):Bool:=ops.toList.all fun o=>!wrB t o||ixB o||faB ops s o
theorem Acj {ops:Array Oper}(h:∀ t,Mg ops t=true->s'.tm t=s.tm t)(t:Nat):Ae1 ops s' t=Ae1 ops s t:=by
 unfold Ae1;simp only[Vl h]
structure Ei (ops:Array Oper)(s s':S):Prop where
 eq:∀ t,Mg ops t=true->s'.tm t=s.tm t
 pt:∀ t,Ue ops s t=true->isV (s.tm t)=false->isV (s'.tm t)=false
 nw:∀ t,alB ops t=true->isV (s.tm t)=false->isV (s'.tm t)=false
 ol:∀ t k off,Ae1 ops s t=true->s'.tm t=.p k off->s.tm t=.p k off\/∃ b off',Mg ops b=true/\s.tm b=.p k off'
 fr:∀ t k off,alB ops t=true->s'.tm t=.p k off->s.tm t=.p k off\/s.hp k=none
 hm:∀ k,s.hp k≠none->s'.hp k≠none
theorem Ei.refl (ops:Array Oper)(s:S):Ei ops s s:=⟨fun _ _=>rfl,fun _ _ h=>h,fun _ _ h=>h,fun _ _ _ _ h=>.inl h,fun _ _ _ _ h=>.inl h,fun _ h=>h⟩
theorem Ei.trans {ops:Array Oper}{s s' s'':S}(h:Ei ops s s')(h':Ei ops s' s''):Ei ops s s'' :=
 ⟨fun t ht=>(h'.eq t ht).trans (h.eq t ht),fun t ht hv=>h'.pt t (by rw[Kd h.eq];exact ht) (h.pt t ht hv),fun t ht hv=>h'.nw t ht (h.nw t ht hv),
  fun t k off ht hp=>by
   rcases h'.ol t k off (by rw[Acj h.eq];exact ht) hp with e|⟨b,o2,e1,e2⟩
   ·exact h.ol t k off ht e
   ·exact .inr ⟨b,o2,e1,by rw[<-h.eq b e1];exact e2⟩,
  fun t k off ht hp=>by
   rcases h'.fr t k off ht hp with e|e
   ·exact h.fr t k off ht e
   ·refine .inr (Classical.byContradiction fun hn=>h.hm k hn e),fun k hk=>h'.hm k (h.hm k hk)⟩
structure Fit (ops:Array Oper)(s:S)(o:Oper)(x:SV):Prop where
 fa:faB ops s o=true->isV x=false
 al:Ea o.op=true->o.guard.isNone=true->isV x=false
 ol:ixB o=true\/faB ops s o=true->∀ k off,x=.p k off->∃ b off',Mg ops b=true/\s.tm b=.p k off'
 fr:Ea o.op=true->∀ k off,x=.p k off->s.hp k=none
theorem W6 {ops:Array Oper}(ho:ops[i]?=some o):o∈ops.toList:=by obtain⟨hlt,rfl⟩:=A4z.1 ho;simp
theorem E4 (ho:ops[i]?=some o)(x:SV)(hw:Option (Nat×Blk))(hx:Fit ops s o x):Ei ops s ((s.put o.dst x).setb hw):=by
 have wr:∀ {t:Nat} {q:Oper->Bool},(ops.toList.all fun o=>!wrB t o||q o)=true->o.dst=some t->q o=true:=fun {t q} ht hd=>by
  rw[A08]at ht;have:=ht o (W6 ho);have hwr:wrB t o=true:=by unfold wrB;rw[hd];simp
  rw[hwr]at this;simpa using this
 refine⟨fun t ht=>?_,fun t ht hv=>?_,fun t ht hv=>?_,fun t k off ht hp=>?_,fun t k off ht hp=>?_,fun k hk=>?_⟩
 ·rw[D7,Es];intro hd;unfold Mg at ht;rw[A08]at ht;have:=ht o (W6 ho);rw[hd]at this;simp at this
 ·rw[D7];by_cases hd:o.dst=some t
  ·rw[hd,B5];unfold Ue at ht;rw[A05]at ht;exact hx.fa (wr ht.2 hd)
  ·rw[Es s _ _ hd];exact hv
 ·rw[D7];by_cases hd:o.dst=some t
  ·rw[hd,B5];have:=wr ht hd;rw[A05]at this;exact hx.al this.1 this.2
  ·rw[Es s _ _ hd];exact hv
 ·rw[D7]at hp;by_cases hd:o.dst=some t
  ·rw[hd,B5]at hp;have ht':(ops.toList.all fun o=>!wrB t o||(ixB o||faB ops s o))=true:=by unfold Ae1 at ht;simpa only[Bool.or_assoc] using ht
   have:=wr ht' hd;rw[A3o]at this;exact .inr (hx.ol this k off hp)
  ·rw[Es s _ _ hd]at hp;exact .inl hp
 ·rw[D7]at hp;by_cases hd:o.dst=some t
  ·rw[hd,B5]at hp;have:=wr ht hd;rw[A05]at this;exact .inr (hx.fr this.1 k off hp)
  ·rw[Es s _ _ hd]at hp;exact .inl hp
 ·rcases hw with _|⟨j,b⟩
  ·show (s.put o.dst x).hp k≠none;rw[Ct];exact hk
  ·by_cases e:k=j
   ·subst e;rw[Bg];simp
   ·rw[A6 _ _ _ e,Ct];exact hk
theorem V9 (h:faB ops s o=true):o.guard=none/\∃ T b f,o.op=.fieldAddr T (.tmp b) f/\isP (s.tm b)=true:=by
 unfold faB at h;rw[A05]at h;obtain⟨h1,h2⟩:=h;refine⟨by simpa using h1,?_⟩;split at h2
 ·rename_i T b f hop;rw[A05]at h2;exact⟨_,_,_,hop,h2.2⟩
 ·cases h2
theorem Alh (he:eff P name s o.op=some (x,hw))(h:faB ops s o=true):isV x=false:=by
 obtain⟨_,T,b,f,hop,hp⟩:=V9 h;rw[hop]at he;unfold eff at he;simp only[show s.ev (.tmp b)=s.tm b from rfl]at he;cases hb:s.tm b with
 |junk=>rw[hb]at hp;cases hp
 |v y=>rw[hb]at hp;cases hp
 |p k off =>
  rw[hb]at he;simp only at he;split at he
  ·simp only[A0t,A1r]at he;rw[<-he.1];rfl
  ·cases he
theorem Akh (hg:gv s ops o=some false)(h:faB ops s o=true):False:=by
 obtain⟨h1,_⟩:=V9 h;unfold gv at hg;rw[h1]at hg;simp at hg
theorem Amg (hv:Ko s o.op=true)(h:faB ops s o=true):False:=by
 obtain⟨_,T,b,f,hop,hp⟩:=V9 h;unfold Ko at hv;rw[A08]at hv;have:=hv (.tmp b) (by rw[hop];simp[Op.operands]);rw[show s.ev (.tmp b)=s.tm b from rfl]at this;cases hb:s.tm b with
 |junk=>rw[hb]at hp;cases hp
 |v y=>rw[hb]at hp;cases hp
 |p k off=>rw[hb]at this;cases this
theorem Aj8 {o:Op}(he:eff P name s o=some (x,hw))(ha:Ea o=true):x=.p name 0/\s.hp name=none:=by
 unfold Ea at ha;split at ha
 ·unfold eff at he;simp only at he;split at he
  ·split at he
   ·split at he
    ·rename_i hn;split at he
     ·simp at he;exact⟨he.1.symm,hn⟩
     ·cases he
    ·cases he
   ·cases he
  ·cases he
 ·unfold eff at he;simp only at he;split at he
  ·rename_i hn;split at he
   ·simp at he;exact⟨he.1.symm,hn⟩
   ·cases he
  ·cases he
 ·cases ha
theorem Fit.auto (he:eff P name s o.op=some (x,hw)):Fit ops s o x:=by
 refine⟨Alh he,fun ha _=>by rw[(Aj8 he ha).1];rfl,fun h k off hx=>?_,fun ha k off hx=>?_⟩
 ·subst hx;rcases h with h|h
  ·unfold ixB at h;split at h
   ·rename_i t a b hop;rw[hop]at he;unfold eff at he;simp only at he;split at he
    ·split at he
     ·simp at he
     ·cases he
    ·cases he
   ·cases h
  ·have h0:=h;unfold faB at h;rw[A05]at h;obtain⟨_,h⟩:=h;split at h
   ·rename_i T b f hop;rw[A05]at h;rw[hop]at he;unfold eff at he;simp only[show s.ev (.tmp b)=s.tm b from rfl]at he;cases hb:s.tm b with
    |junk=>rw[hb]at he;cases he
    |v y=>rw[hb]at he;cases he
    |p k' off' =>
     rw[hb]at he;simp only at he;split at he
     ·simp at he;exact⟨b,off',h.1,by rw[hb,he.1.1]⟩
     ·cases he
   ·cases h
 ·obtain⟨e1,e2⟩:=Aj8 he ha;rw[e1]at hx;cases hx;exact e2
theorem Fit.skip (hg:gv s ops o=some false):Fit ops s o (.v undef) :=
 ⟨fun h=>(Akh hg h).elim,fun _ h=>by
  unfold gv at hg;rw[show o.guard=none by simpa using h]at hg;simp at hg,fun _ k off e=>(by cases e),fun _ k off e=>(by cases e)⟩
theorem Fit.val (hv:Ko s o.op=true)(ha:Ea o.op=false)(y:Value):Fit ops s o (.v y) :=
 ⟨fun h=>(Amg hv h).elim,fun h=>(by rw[ha]at h;cases h),fun _ k off e=>(by cases e),fun _ k off e=>(by cases e)⟩
theorem Ac4 {o:Op}(h:D6 o=false):Ea o=false:=by
 cases o<;>first|rfl|(simp[D6]at h)
theorem Ob.step {l:List Nat}(h:Ob P id ops dr Fin (i::l) s u m)(hr:Rel c s u m ρ a w) :
 wpOp P ops Q i (fun a' w'=>∃ s' u' m' ρ',Rel c s' u' m' ρ' a' w'/\Ei ops s s'/\Ob P id ops dr Fin l s' u' m') a w:=by
 cases h with
 |auto ho hg hd he hl =>
  simp only[wpOp,ho,L0 hr hg,if_true];obtain⟨ρ',w',y,h1,h2⟩:=Afa (P:=P) hr he (Wt hd);exact .inl (Vk h1 ⟨_,_,_,_,h2,E4 ho _ _ (Fit.auto he),hl⟩)
 |skip ho hg hd hl =>
  simp only[wpOp,ho,L0 hr hg,if_false,Bool.false_eq_true];exact⟨_,_,_,_,hr.put (x:=.v undef) (fun _=>rfl) mV (Wt hd),E4 ho _ none (Fit.skip hg),hl⟩
 |ask ho hg hd hv hs hal hw hl =>
  simp only[wpOp,ho,L0 hr hg,if_true];refine .inl (Vk (.inl ?_) ⟨_,_,_,_,hr.put (fun _=>rfl) mV (Wt hd),E4 ho _ none (Fit.val hv hal _),hl⟩);rw[Nc hr (I0 hs) hv];exact hw w (fun _=>⟨hr.gd.pu,hr.gd.pm⟩)
 |big ho hg hd hv hs hf hk hw hl =>
  rename_i o K;simp only[wpOp,ho,L0 hr hg,if_true];refine .inl ?_;have h1:=hw w hr.gd;have fin:∀ v w',(∃ u' m',Bx u' m' w'/\Bz u m w u' m' w'/\K v u' m')->∃ s' u' m' ρ',Rel c s' u' m' ρ' (a.put o.dst v) w'/\Ei ops s s'/\Ob P id ops dr Fin l s' u' m':=by
   rintro v w' ⟨u',m',g1,g2,g3⟩;refine⟨_,u',m',ρ,?_,E4 ho _ none (Fit.val hv (Ac4 hf) _),hl v u' m' (g2.le hr.gd.pu) g3⟩;refine Rel.put (x:=.v v) ?_ (fun _=>rfl) mV (Wt hd);refine⟨hr.sz,hr.tm,hr.df.of fun r e _ hu hm=>⟨by rw[g2.old _ (Bw e) hm];exact e,by rw[g2.us _ (Bw e)];exact hu,g2.ms _ (Bw e) hm⟩,fun k b hb=>?_,hr.inj,hr.lv,g1,hr.gr.trans g2⟩;obtain⟨e1,e2,e3,e4⟩:=hr.box k b hb;have hlt:ρ k<w.heap.size:=by obtain⟨cs,e,_⟩:=e1;exact Bw e
   refine⟨?_,e2,?_,?_⟩
   ·rw[g2.old _ hlt e4];exact e1
   ·rw[g2.us _ hlt];exact e3
   ·exact g2.ms _ hlt e4
  unfold D3 at h1;unfold Oper.wp;rw[Nc hr (I0 hs) hv];split at h1
  ·rename_i v w' e;rw[e];exact fin _ _ h1
  ·rename_i w' e;rw[e];exact fin _ _ h1
  ·rename_i f args w' e;rw[e];refine Calls.mono h1 fun e' w'' he=>?_;obtain⟨v,rfl,h2⟩:=he;exact fin _ _ h2
  ·exact h1.elim
theorem Ob.wpOps (hF:∀ s u m ρ a w,Fin s u m->Rel c s u m ρ a w->Q .normal a w):∀ {l:List Nat} {s:S} {u m:PH} {ρ:Nat->Nat} {a:Act} {w:World},Ob P id ops dr Fin l s u m->Rel c s u m ρ a w->Go.wpOps P ops Q l a w
 |[],s,u,m,ρ,a,w,h,hr=>by
  cases h with
  |nil h=>exact hF _ _ _ _ _ _ h hr
 |i::l,s,u,m,ρ,a,w,h,hr=>by
  rw[wpOps_cons];refine wpOp_mono (fun a' w' ⟨s',u',m',ρ',h1,_,h2⟩=>?_) (h.step (Q:=Q) hr);exact Ob.wpOps hF h2 h1
theorem Anz (h:∀ e,d=some e->z≠.tmp e):(s.put d x).ev z=s.ev z:=by
 cases z with
 |tmp t=>exact Es s d x (fun e=>h t e rfl)
 |_=>rfl
theorem Alw {w:Option (Nat×Blk)}:(s.setb w).ev z=s.ev z:=by
 cases z with
 |tmp t=>show (s.setb w).tm t=s.tm t;rw[D7]
 |_=>rfl
theorem Ty {w:Option (Nat×Blk)}(h:∀ e,d=some e->e∉o.looksAt ops)(hz:z∈o.op.operands):((s.put d x).setb w).ev z=s.ev z:=by
 rw[Alw];refine Anz fun e he hze=>h e he ?_;subst hze;exact List.mem_append_left _ (List.mem_filterMap.2 ⟨.tmp e,by simpa using hz,rfl⟩)
theorem Sk {w:Option (Nat×Blk)}(h:∀ e,d=some e->e∉o.looksAt ops):gv ((s.put d x).setb w) ops o=gv s ops o:=by
 unfold gv;cases hg:o.guard with
 |none=>rfl
 |some p =>
  obtain⟨j,want⟩:=p;simp only;cases hj:ops[j]? with
  |none=>rfl
  |some oj =>
   simp only;cases hd:oj.dst with
   |none=>rfl
   |some e =>
    simp only;rw[D7,Es s d x (fun he=>h e he (by simp[Oper.looksAt,hg,hj,hd]))]
theorem Ij {o:Op}(h:∀ z∈o.operands,s'.ev z=s.ev z):∀ z∈o.operands,Kg s' z=Kg s z:=fun z hz=>by unfold Kg;rw[h z hz]
theorem Fy {o:Op}(h:∀ z∈o.operands,s'.ev z=s.ev z):Ko s' o=Ko s o:=by
 unfold Ko;rw[Bool.eq_iff_iff,A08,A08];constructor
 ·intro k z hz;have:=k z hz;rw[h z (by simpa using hz)]at this;exact this
 ·intro k z hz;rw[h z (by simpa using hz)];exact k z hz
theorem Ais {e e':Operand->Value}{o:Op}(h:∀ z∈o.operands,e' z=e z):pv P e' o=pv P e o:=by
 unfold pv;split
 ·rename_i x i;rw[h x (by simp[Op.operands])]
 ·rename_i c x y;rw[h c (by simp[Op.operands]),h x (by simp[Op.operands]),h y (by simp[Op.operands])]
 ·rename_i fn first captured
  rw[A94 (xs:=first) fun x hx=>h x (by simp[Op.operands,hx]),A94 (xs:=captured) fun x hx=>h x (by simp[Op.operands,hx])]
 ·rename_i t x;rw[h x (by simp[Op.operands])]
 ·rename_i src dst x;rw[h x (by simp[Op.operands])]
 ·rename_i args ts;cases hx:args[0]? with
  |none=>rfl
  |some x =>
   have:x∈args:=by obtain⟨hlt,rfl⟩:=A4z.1 hx;exact Array.getElem_mem hlt
   cases ht:ts[0]? with
   |none=>rfl
   |some t=>simp only;rw[h x (by simp[Op.operands,Call.operands,this])]
 ·rename_i x;rw[h x (by simp[Op.operands])]
 ·rename_i t ps;have:(ps.toList.map fun (p:Nat×Operand)=>(p.1,e' p.2))=ps.toList.map fun (p:Nat×Operand)=>(p.1,e p.2):=List.map_congr_left fun p hp=>by
   rw[h p.2 (by simp only[Op.operands,A83,List.mem_map];exact⟨p,hp,rfl⟩)]
  rw[this]
 ·rename_i t x f;rw[h x (by simp[Op.operands])]
 ·rfl
theorem U7 {s s':S}{name:Nat}{o:Op}(h:∀ z∈o.operands,s'.ev z=s.ev z)(hn:Ea o=true->s'.hp name=s.hp name)
 (hp:(F2 o=true\/Ke o=true)->∀ z∈o.operands,∀ k off,s.ev z=.p k off->s'.hp k=s.hp k):eff P name s' o=eff P name s o:=by
 unfold eff;split
 ·rename_i x;rw[h x (by simp[Op.operands])]
 ·rename_i x;rw[h x (by simp[Op.operands])]
 ·rw[hn rfl]
 ·rename_i t x;rw[hn rfl,h x (by simp[Op.operands])]
 ·rename_i t x;rw[h x (by simp[Op.operands])];split
  ·rename_i k off hk;rw[hp (.inl rfl) x (by simp[Op.operands]) k off hk]
  ·rfl
 ·rename_i t x y;rw[h x (by simp[Op.operands]),h y (by simp[Op.operands])];split
  ·rename_i k off hk;rw[hp (.inr rfl) x (by simp[Op.operands]) k off hk]
  ·rfl
 ·rename_i t x f;rw[h x (by simp[Op.operands])]
 ·rw[Fy h,Ais (Ij h)]
end sound
end
section
variable {hw:Option (Nat×Blk)}{name:Nat}{o:Op}{s:S}{x:SV}
variable [Cc] [Dy]
section swap
variable {P:Program} {id:Nat} {ops:Array Oper} {dr:Bool} {Fin:S->PH->PH->Prop}
theorem Ol {k:Nat}{b:Blk}(h:eff P name s o=some (x,some (k,b))) :
 (k=name/\s.hp name=none/\Ke o=false/\F2 o=false)\/(Ke o=true/\s.hp k≠none/\∃ z∈o.operands,∃ off,s.ev z=.p k off):=by
 unfold eff at h;split at h
 ·simp at h
 ·simp at h
 ·split at h
  ·split at h
   ·split at h
    ·split at h
     ·simp at h;exact .inl ⟨h.2.1.symm,by assumption,rfl,rfl⟩
     ·cases h
    ·cases h
   ·cases h
  ·cases h
 ·split at h
  ·split at h
   ·simp at h;exact .inl ⟨h.2.1.symm,by assumption,rfl,rfl⟩
   ·cases h
  ·cases h
 ·split at h
  ·split at h
   ·split at h<;>simp at h
   ·cases h
  ·cases h
 ·rename_i t z y;split at h
  ·rename_i k' off hz;split at h
   ·rename_i b' hb;split at h
    ·split at h
     ·rename_i l _ _ n _;cases hc:(A17 l.length n&&A55 (off+n) b'.cells.length) with
      |false=>simp[hc]at h
      |true =>
       simp[hc]at h;obtain⟨_,rfl,_⟩:=h;exact .inr ⟨rfl,by rw[hb];simp,z,by simp[Op.operands],off,hz⟩
     ·cases h
    ·cases h
   ·cases h
  ·cases h
 ·split at h
  ·split at h<;>simp at h
  ·cases h
 ·split at h
  ·split at h<;>simp at h
  ·cases h
theorem Aew (h:eff P name s o=some (x,hw))(ha:Ea o=true):hw≠none:=by
 unfold eff at h;unfold Ea at ha;split at ha
 ·simp only at h;split at h
  ·split at h
   ·split at h
    ·split at h
     ·simp at h;rw[<-h.2];simp
     ·cases h
    ·cases h
   ·cases h
  ·cases h
 ·simp only at h;split at h
  ·split at h
   ·simp at h;rw[<-h.2];simp
   ·cases h
  ·cases h
 ·cases ha
theorem Od (h:D6 o=true):Ke o=false:=by
 unfold Ke;split
 ·simp[D6]at h
 ·simp[D6]at h
 ·simp[D6]at h
 ·rfl
theorem Ob.redo {x:Nat}{l:List Nat}{u m:PH}{ox:Oper}(h:Ob P id ops dr Fin (x::l) s u m)(hx:ops[x]?=some ox)(hf:D6 ox.op=true) :
 ∃ vx hwx,Ob P id ops dr Fin l ((s.put ox.dst vx).setb hwx) u m/\(∀ k b,hwx=some (k,b)->k=id*1000+x/\s.hp k=none/\F2 ox.op=false) /\
  ∀ (s':S) (u' m':PH) (L:List Nat),(∀ z∈ox.op.operands,s'.ev z=s.ev z)->gv s' ops ox=gv s ops ox->s'.n=s.n->(hwx≠none->s'.hp (id*1000+x)=s.hp (id*1000+x)) ->
   (F2 ox.op=true->∀ z∈ox.op.operands,∀ k off,s.ev z=.p k off->s'.hp k=s.hp k)->PH.le u u'->(F2 ox.op=true->PH.le m m'\/∃ t tx,ox.op=.load t (.tmp tx)/\isV (s.tm tx)=false) ->
   Ob P id ops dr Fin L ((s'.put ox.dst vx).setb hwx) u' m'->Ob P id ops dr Fin (x::L) s' u' m':=by
 have dk:∀ (s':S),s'.n=s.n->Fw s ox=true->Fw s' ox=true:=fun s' hn hd=>by unfold Fw at hd⊢;rw[hn];exact hd
 cases h with
 |auto ho hg hd he hl =>
  rw[hx]at ho;obtain rfl:=A2d ho;refine⟨_,_,hl,fun k b hb=>?_,fun s' u' m' L h1 h2 h3 h4 h5 _ _ hL=>?_⟩
  ·subst hb;rcases Ol he with ⟨rfl,e,_,e'⟩|⟨e,_⟩
   ·exact⟨rfl,e,e'⟩
   ·rw[Od hf]at e;cases e
  ·refine .auto hx (h2.trans hg) (dk s' h3 hd) ?_ hL;rw[U7 h1 (fun ha=>h4 (Aew he ha)) (fun hm=>?_),he];rcases hm with hm|hm
   ·exact h5 hm
   ·rw[Od hf]at hm;cases hm
 |skip ho hg hd hl =>
  rw[hx]at ho;obtain rfl:=A2d ho;refine⟨.v undef,none,hl,mV,fun s' u' m' L h1 h2 h3 h4 h5 _ _ hL=>.skip hx (h2.trans hg) (dk s' h3 hd) hL⟩
 |ask ho hg hd hv hs hal hw hl =>
  rw[hx]at ho;obtain rfl:=A2d ho;rename_i v;refine⟨.v v,none,hl,mV,fun s' u' m' L h1 h2 h3 h4 h5 h6 h7 hL=>.ask hx (h2.trans hg) (dk s' h3 hd) (by rw[Fy h1];exact hv) hs hal (fun w hp=>?_) hL⟩;rw[execOp_congr _ (I0 hs) (Ij h1)];refine hw w fun hload=>⟨fun g o hg=>(hp hload).1 g o (h6 g o hg),fun g o hg=>?_⟩;rcases h7 hload with h7|⟨t,tx,e1,e2⟩
  ·exact (hp hload).2 g o (h7 g o hg)
  ·exfalso;unfold Ko at hv;rw[A08]at hv;have:=hv (.tmp tx) (by rw[e1];simp[Op.operands]);rw[show s.ev (.tmp tx)=s.tm tx from rfl,e2]at this;cases this
 |big ho hg hd hv hs hf' hk hw hl =>
  rw[hx]at ho;obtain rfl:=A2d ho;rw[hf]at hf';cases hf'
def Two (s:S)(ox oy:Oper):Prop:=∃ t tx t' ty v kx ox' ky oy',ox.op=.load t (.tmp tx)/\oy.op=.store t' (.tmp ty) v/\s.tm tx=.p kx ox'/\s.tm ty=.p ky oy'/\kx≠ky
def New (s:S)(ox oy:Oper):Prop:=∃ t tx t' ty v,ox.op=.load t (.tmp tx)/\oy.op=.store t' (.tmp ty) v/\isV (s.tm ty)=false/\∀ k off k' off',s.tm tx=.p k off->s.tm ty=.p k' off'->k≠k'
def Ada:Op->Bool
 |.call { callee:=.builtin .append,.. }|.call { callee:=.builtin .copy,.. }=>true
 |_=>false
def Own (s:S)(ox oy:Oper):Prop:=Ada oy.op=true/\∃ t tx,ox.op=.load t (.tmp tx)/\isV (s.tm tx)=false
theorem Aml (he:eff P name s o=some (x,hw))(h:Ada o=true):hw=none:=by
 unfold Ada at h;split at h
 ·unfold eff at he;simp only at he;split at he
  ·split at he
   ·simp at he;exact he.2.symm
   ·cases he
  ·cases he
 ·unfold eff at he;simp only at he;split at he
  ·split at he
   ·simp at he;exact he.2.symm
   ·cases he
  ·cases he
 ·cases h
theorem Ob.swap {x y:Nat}{l:List Nat}{s:S}{u m:PH}{ox oy:Oper}(hL:La s)(h:Ob P id ops true Fin (x::y::l) s u m)(hx:ops[x]?=some ox)(hy:ops[y]?=some oy)(hne:x≠y)
 (hf:D6 ox.op=true) (hap:Oper.apart ops ox oy=true) (hlm:F2 ox.op=true->Oo ops y oy.op=false\/Own s ox oy\/Two s ox oy\/New s ox oy) (hcalm:∀ t tx,ox.op=.load t (.tmp tx)->Ue ops s tx=true->isV (s.tm tx)=false):Ob P id ops true Fin (y::x::l) s u m:=by
 obtain⟨vx,hwx,h1,hn,redo⟩:=h.redo hx hf;obtain⟨a1,a2,a3⟩:=Oper.apart_spec hap;have hnm:id*1000+x≠id*1000+y:=oV
 have evy:∀ z∈oy.op.operands,((s.put ox.dst vx).setb hwx).ev z=s.ev z:=fun z hz=>Ty a1 hz;have gvy:gv ((s.put ox.dst vx).setb hwx) ops oy=gv s ops oy:=Sk a1;have lvx:∀ z:Operand,∀ k off,s.ev z=.p k off->s.hp k≠none:=by
  intro z k off hz;cases z with
  |tmp t=>exact hL.1 t k off hz
  |const v=>cases hz
  |global g=>cases hz
  |func f=>cases hz
 have hpx:∀ k,(∀ b,hwx≠some (k,b))->((s.put ox.dst vx).setb hwx).hp k=s.hp k:=by
  intro k hk;rcases hwx with _|⟨j,b⟩
  ·show (s.put ox.dst vx).hp k=s.hp k;rw[Ct]
  ·rw[A6 _ _ _ (fun e=>hk b (by rw[e])),Ct]
 have nmx:∀ k,s.hp k≠none->∀ b,hwx≠some (k,b):=fun k hk b e=>hk (hn k b e).2.1;have dky:Fw ((s.put ox.dst vx).setb hwx) oy=Fw s oy:=by unfold Fw;rw[Pc,Uk]
 have comm:∀ (vy:SV) (hwy:Option (Nat×Blk)),(∀ k b,hwy=some (k,b)->∀ b',hwx≠some (k,b')) ->
  ((((s.put ox.dst vx).setb hwx).put oy.dst vy).setb hwy)=(((s.put oy.dst vy).setb hwy).put ox.dst vx).setb hwx:=by
  intro vy hwy hk;rw[O4,O4,Aid s vx vy a2,Afe];rintro k b k' b' e1 e2 rfl;exact hk k b' e2 b e1
 cases h1 with
 |auto ho hg hd he hl =>
  rw[hy]at ho;obtain rfl:=A2d ho;rename_i vy hwy;have he':eff P (id*1000+y) s oy.op=some (vy,hwy):=by
   rw[<-he];refine (U7 evy (fun _=>hpx _ (fun b e=>hnm.symm ((hn _ b e).1))) (fun _ z hz k off hk=>hpx k (nmx k (lvx z k off hk)))).symm
  have hdisj:∀ k b,hwy=some (k,b)->∀ b',hwx≠some (k,b'):=by
   intro k b e b' e';subst e;rcases Ol he' with ⟨rfl,_⟩|⟨_,hk,_⟩
   ·exact hnm.symm (hn _ b' e').1
   ·exact hk (hn k b' e').2.1
  refine .auto hy (by rw[<-gvy];exact hg) (by rw[<-dky];exact hd) he' ?_;have hpy:∀ k,(∀ b,hwy≠some (k,b))->((s.put oy.dst vy).setb hwy).hp k=s.hp k:=by
   intro k hk;rcases hwy with _|⟨j,b⟩
   ·show (s.put oy.dst vy).hp k=s.hp k;rw[Ct]
   ·rw[A6 _ _ _ (fun e=>hk b (by rw[e])),Ct]
  refine redo _ u m l (fun z hz=>Ty a3 hz) (Sk a3) (by rw[Pc,Uk]) ?_ ?_ (PH.le_refl _) (fun _=>.inl (PH.le_refl _)) ?_
  ·intro hsome;by_cases hk:∃ b,hwy=some (id*1000+x,b)
   ·obtain⟨b,hb⟩:=hk;subst hb;rcases Ol he' with ⟨e,_⟩|⟨em,hk,z,hz,off,hzk⟩
    ·exact absurd e hnm
    ·rcases hwx with _|⟨j,b'⟩
     ·exact absurd rfl hsome
     ·obtain⟨rfl,e,_⟩:=hn j b' rfl;exact absurd e hk
   ·exact hpy _ (fun b e=>hk ⟨b,e⟩)
  ·intro hlo z hz k off hk;refine hpy k (fun b e=>?_);subst e;rcases Ol he' with ⟨rfl,e,_⟩|⟨em,_⟩
   ·exact lvx z _ off hk e
   ·rcases hlm hlo with h|⟨q0,_⟩|⟨t,tx,t',ty,v,kx,o1,ky,o2,q1,q2,q3,q4,q5⟩|⟨t,tx,t',ty,v,q1,q2,q3,q4⟩
    ·rw[Ajt h]at em;cases em
    ·cases Aml he' q0
    case inr.inr.inr =>
     rw[q1]at hz;simp only[Op.operands,A83,A1t]at hz;subst hz;rw[q2]at he';cases hty:s.tm ty with
     |junk=>simp only[eff,show s.ev (.tmp ty)=s.tm ty from rfl,hty]at he';cases he'
     |v y=>simp only[eff,show s.ev (.tmp ty)=s.tm ty from rfl,hty]at he';cases he'
     |p ky o2 =>
      have hne:=q4 k off ky o2 hk hty;simp only[eff,show s.ev (.tmp ty)=s.tm ty from rfl,hty]at he';split at he'
      ·split at he'
       ·split at he'
        ·rename_i n _
         revert he'
         cases (A17 _ _&&A55 _ _) with
         |false=>simp
         |true=>simp;intro _ e _;exact absurd e.symm hne
        ·cases he'
       ·cases he'
      ·cases he'
    ·rw[q1]at hz;simp only[Op.operands,A83,A1t]at hz;subst hz;have:SV.p k off=.p kx o1:=hk.symm.trans q3;simp only[SV.p.injEq]at this;rw[q2]at he';have q4':s.ev (.tmp ty)=.p ky o2:=q4;simp only[eff,q4']at he';split at he'
     ·split at he'
      ·split at he'
       ·rename_i n _
        revert he'
        cases (A17 _ _&&A55 _ _) with
        |false=>simp
        |true=>simp;intro _ e _;exact absurd (this.1.symm.trans e.symm) q5
       ·cases he'
      ·cases he'
     ·cases he'
  ·rw[<-comm vy hwy hdisj];exact hl
 |skip ho hg hd hl =>
  rw[hy]at ho;obtain rfl:=A2d ho;refine .skip hy (by rw[<-gvy];exact hg) (by rw[<-dky];exact hd) ?_;refine redo _ u m l (fun z hz=>Ty (w:=none) a3 hz) (Sk (w:=none) a3) (by rw[Uk]) (fun _=>by rw[Ct]) (fun _ _ _ _ _ _=>by rw[Ct]) (PH.le_refl _) (fun _=>.inl (PH.le_refl _)) ?_;have:=comm (.v undef) none mV;rw[show (s.put oy.dst (.v undef))=(s.put oy.dst (.v undef)).setb none from rfl,<-this];exact hl
 |ask ho hg hd hv hs hal hw hl =>
  rw[hy]at ho;obtain rfl:=A2d ho;rename_i v;refine .ask (v:=v) hy (by rw[<-gvy];exact hg) (by rw[<-dky];exact hd) (by rw[<-Fy evy];exact hv) hs hal (fun w hp=>?_) ?_
  ·rw[<-execOp_congr _ (I0 hs) (Ij evy)];exact hw w hp
  ·refine redo _ u m l (fun z hz=>Ty (w:=none) a3 hz) (Sk (w:=none) a3) (by rw[Uk]) (fun _=>by rw[Ct]) (fun _ _ _ _ _ _=>by rw[Ct]) (PH.le_refl _) (fun _=>.inl (PH.le_refl _)) ?_;have:=comm (.v v) none mV;rw[show (s.put oy.dst (.v v))=(s.put oy.dst (.v v)).setb none from rfl,<-this];exact hl
 |big ho hg hd hv hs hf' hk hw hl =>
  rw[hy]at ho;obtain rfl:=A2d ho;rename_i K;have hown:J0 ops ((s.put ox.dst vx).setb hwx)=J0 ops s:=Xj fun t ht=>by
   rw[D7,Es];intro hd';unfold Mg at ht;rw[A08]at ht;have:=ht ox (W6 hx);rw[hd']at this;simp at this
  refine .big (K:=K) hy (by rw[<-gvy];exact hg) (by rw[<-dky];exact hd) (by rw[<-Fy evy];exact hv) hs hf' (by rw[<-hown];exact hk) (fun w hgd=>?_) (fun v u' m' hle hK=>?_)
  ·have:=hw w hgd;unfold D3 at this⊢;rw[<-execOp_congr _ (I0 hs) (Ij evy)];exact this
  ·refine redo _ u' m' l (fun z hz=>Ty (w:=none) a3 hz) (Sk (w:=none) a3) (by rw[Uk]) (fun _=>by rw[Ct]) (fun _ _ _ _ _ _=>by rw[Ct]) hle (fun hlo=>?_) ?_
   ·rcases hk v u' m' hK with h|h|h|h
    ·exact .inl h
    ·cases h
    ·rcases hlm hlo with h'|⟨_,q0⟩|⟨t,tx,t',ty,v,kx,o1,ky,o2,q1,q2,q3,q4,q5⟩|⟨t,tx,t',ty,v,q1,q2,q3,q4⟩
     ·rw[h']at h;cases h
     ·exact .inr q0
     case inr.inr.inr =>
      exfalso;rw[Fy evy]at hv;unfold Ko at hv;rw[A08]at hv;have:=hv (.tmp ty) (by rw[q2];simp[Op.operands]);rw[show s.ev (.tmp ty)=s.tm ty from rfl]at this;cases hty:s.tm ty with
      |junk=>rw[hty]at this;cases this
      |v y=>rw[hty]at q3;cases q3
      |p k off=>rw[hty]at this;cases this
     ·exfalso;rw[Fy evy]at hv;unfold Ko at hv;rw[A08]at hv;have:=hv (.tmp ty) (by rw[q2];simp[Op.operands]);rw[show s.ev (.tmp ty)=.p ky o2 from q4]at this;cases this
    ·right;rw[hown]at h;unfold J0 at h;rw[A08]at h;have h2:=h ox (W6 hx);rw[hlo]at h2;simp only[A56,Baa]at h2;unfold Zb at h2;split at h2
     ·rename_i t tx hop;refine⟨t,tx,hop,?_⟩;rw[A3o,A05]at h2;rcases h2 with ⟨_,h2⟩|h2
      ·cases hb:s.tm tx with
       |junk=>rfl
       |v y=>rw[hb]at h2;cases h2
       |p k off=>rfl
      ·exact hcalm t tx hop h2
     ·cases h2
   ·have:=comm (.v v) none mV;rw[show (s.put oy.dst (.v v))=(s.put oy.dst (.v v)).setb none from rfl,<-this];exact hl v u' m' hle hK
end swap
end
section
variable {ox oy:Oper}{s s':S}{x:Nat}
variable [Cc] [Dy]
section live
variable {P:Program}
theorem Aiw {name:Nat}{o:Op}{x:SV}{hw:Option (Nat×Blk)}(h:eff P name s o=some (x,hw))(hL:La s)(d:Option Nat):La ((s.put d x).setb hw):=by
 have lvev:∀ (z:Operand) (k off:Nat),s.ev z=.p k off->s.hp k≠none:=by
  intro z k off hz;cases z with
  |tmp t=>exact hL.1 t k off hz
  |const v=>cases hz
  |global g=>cases hz
  |func f=>cases hz
 have key:∀ (x:SV) (hw:Option (Nat×Blk)),(∀ k off,x=.p k off->s.hp k≠none\/∃ b,hw=some (k,b))->(∀ j b,hw=some (j,b)->∀ k off,SV.p k off∈b.cells->s.hp k≠none)->La ((s.put d x).setb hw):=by
  intro x hw h1 h2;have hp:∀ k,s.hp k≠none->((s.put d x).setb hw).hp k≠none:=by
   intro k hk;rcases hw with _|⟨j,b⟩
   ·show (s.put d x).hp k≠none;rw[Ct];exact hk
   ·by_cases e:k=j
    ·rw[e,Bg];simp
    ·rw[A6 _ _ _ e,Ct];exact hk
  refine⟨fun e k off he=>?_,fun j b k off hj hm=>?_⟩
  ·rw[D7]at he;by_cases hde:d=some e
   ·subst hde;rw[B5]at he;rcases h1 k off he with h|⟨b,rfl⟩
    ·exact hp k h
    ·rw[Bg];simp
   ·rw[Es _ _ _ hde]at he;exact hp k (hL.1 e k off he)
  ·rcases hw with _|⟨i,b'⟩
   ·change (s.put d x).hp j=some b at hj;rw[Ct]at hj;exact hp k (hL.2 j b k off hj hm)
   ·by_cases e:j=i
    ·subst e;rw[Bg]at hj;obtain rfl:=A2d hj;exact hp k (h2 j b' rfl k off hm)
    ·rw[A6 _ _ _ e,Ct]at hj;exact hp k (hL.2 j b k off hj hm)
 unfold eff at h;split at h
 ·rename_i z;simp at h;obtain⟨rfl,rfl⟩:=h;exact key _ _ (fun k off e=>.inl (lvev z k off e)) mV
 ·rename_i z;simp at h;obtain⟨rfl,rfl⟩:=h;exact key _ _ (fun k off e=>.inl (lvev z k off e)) mV
 ·split at h
  ·split at h
   ·split at h
    ·split at h
     ·rename_i l hl;simp at h;obtain⟨rfl,rfl⟩:=h;obtain⟨_,_,_,e4,_⟩:=D8 hl (fun _=>0);exact key _ _ (fun k off e=>.inr (by simp at e;exact⟨_,by rw[e.1]⟩)) (fun j b e k off hm=>by simp at e;obtain⟨_,rfl⟩:=e;cases e4 k off hm)
     ·cases h
    ·cases h
   ·cases h
  ·cases h
 ·rename_i t z;split at h
  ·split at h
   ·rename_i l hl;simp at h;obtain⟨rfl,rfl⟩:=h;obtain⟨_,_,_,e4,_⟩:=D8 hl (fun _=>0);exact key _ _ (fun k off e=>.inr (by simp at e;exact⟨_,by rw[e.1]⟩)) (fun j b e k off hm=>by simp at e;obtain⟨_,rfl⟩:=e;exact lvev z k off (e4 k off hm))
   ·cases h
  ·cases h
 ·split at h
  ·split at h
   ·rename_i k off hz b hb;split at h
    ·rename_i y hy;simp at h;obtain⟨rfl,rfl⟩:=h;have hmem:∀ k' o',y=.p k' o'->SV.p k' o'∈b.cells:=by
      intro k' o' e;subst e;unfold ldv at hy;split at hy
      ·split at hy
       ·split at hy
        ·rename_i l _ n _ _ _
         revert hy;cases (A17 _ _)<;>simp
        ·cases hy
       ·cases hy
      ·split at hy
       ·simp at hy
       ·rename_i hx;simp at hy;obtain⟨rfl,rfl⟩:=hy;exact A1b hx
       ·cases hy
      ·cases hy
     exact key _ _ (fun k' o' e=>.inl (hL.2 _ b k' o' hb (hmem k' o' e))) mV
    ·cases h
   ·cases h
  ·cases h
 ·rename_i t z y;split at h
  ·rename_i k' off hz;split at h
   ·rename_i b' hb;split at h
    ·rename_i l hl;split at h
     ·rename_i n _;cases hc:(A17 l.length n&&A55 (off+n) b'.cells.length) with
      |false=>simp[hc]at h
      |true =>
       simp[hc]at h;obtain⟨rfl,rfl⟩:=h;obtain⟨_,_,_,e4,_⟩:=D8 hl (fun _=>0);refine key _ _ mV (fun j b e k off hm=>?_);simp at e;obtain⟨rfl,rfl⟩:=e;rcases Se hm with hm|hm
       ·exact hL.2 k' b' k off hb hm
       ·exact lvev y k off (e4 k off hm)
     ·cases h
    ·cases h
   ·cases h
  ·cases h
 ·rename_i t z f;split at h
  ·rename_i k off hz;split at h
   ·simp at h;obtain⟨rfl,rfl⟩:=h;exact key _ _ (fun k' o' e=>.inl (by simp at e;rw[<-e.1];exact lvev z k off hz)) mV
   ·cases h
  ·cases h
 ·split at h
  ·split at h
   ·simp at h;obtain⟨rfl,rfl⟩:=h;exact key _ _ mV mV
   ·cases h
  ·cases h
theorem R2 (hL:La s)(d:Option Nat)(v:Value):La (s.put d (.v v)):=by
 refine⟨fun e k off he=>?_,fun j b k off hj hm=>?_⟩
 ·rw[Ct];by_cases hde:d=some e
  ·subst hde;rw[B5]at he;cases he
  ·rw[Es _ _ _ hde]at he;exact hL.1 e k off he
 ·rw[Ct]at hj⊢;exact hL.2 j b k off hj hm
end live
section drawn
variable {P:Program} {id:Nat} {ops:Array Oper} {Fin:S->PH->PH->Prop} {c:Cx} {Q:Exit->Act->World->Prop}
theorem Ob.mapTail {dr:Bool}{L L':List Nat}{u m:PH}(hL:La s)(h:Ob P id ops dr Fin (x::L) s u m)(f:∀ s' u m,La s'->Ei ops s s'->Ob P id ops dr Fin L s' u m->Ob P id ops dr Fin L' s' u m):Ob P id ops dr Fin (x::L') s u m:=by
 cases h with
 |auto ho hg hd he hl=>exact .auto ho hg hd he (f _ _ _ (Aiw he hL _) (E4 ho _ _ (Fit.auto he)) hl)
 |skip ho hg hd hl=>exact .skip ho hg hd (f _ _ _ (R2 hL _ _) (E4 ho _ none (Fit.skip hg)) hl)
 |ask ho hg hd hv hs hal hw hl=>exact .ask ho hg hd hv hs hal hw (f _ _ _ (R2 hL _ _) (E4 ho _ none (Fit.val hv hal _)) hl)
 |big ho hg hd hv hs hf hk hw hl=>exact .big ho hg hd hv hs hf hk hw (fun v u' m' h1 h2=>f _ _ _ (R2 hL _ _) (E4 ho _ none (Fit.val hv (Ac4 hf) _)) (hl v u' m' h1 h2))
def Aoc (ops:Array Oper)(s:S)(ox oy:Oper):Bool :=
 match ox.op with
 |.load _ (.tmp tx)=>match oy.op with
  |.store _ (.tmp ty) _=>Mg ops tx&&Mg ops ty&&(match s.tm tx with
   |.p kx _=>match s.tm ty with|.p ky _=>!A17 kx ky|_=>false
   |_=>false)
  |_=>false
 |_=>false
theorem Aoa {ops:Array Oper}(h:Aoc ops s ox oy=true)(ha:Ei ops s s'):Two s' ox oy:=by
 unfold Aoc at h;split at h
 ·rename_i t tx e1;split at h
  ·rename_i t' ty v e2;simp only[A05]at h;obtain⟨⟨h1,h2⟩,h3⟩:=h;split at h3
   ·rename_i kx o1 e3;split at h3
    ·rename_i ky o2 e4;refine⟨t,tx,t',ty,v,kx,o1,ky,o2,e1,e2,by rw[ha.eq tx h1];exact e3,by rw[ha.eq ty h2];exact e4,fun e=>?_⟩;rw[e]at h3;simp at h3
    ·cases h3
   ·cases h3
  ·cases h
 ·cases h
def Aon (ops:Array Oper)(s:S)(ox oy:Oper):Bool :=
 match ox.op with
 |.load _ (.tmp tx)=>match oy.op with
  |.store _ (.tmp ty) _=>Ae1 ops s tx&&alB ops ty&&(match s.tm ty with|.junk=>true|_=>false)
  |_=>false
 |_=>false
theorem Ao2 {ops:Array Oper}(h:Aon ops s ox oy=true)(ha:Ei ops s s')(hL:La s):New s' ox oy:=by
 unfold Aon at h;split at h
 ·rename_i t tx e1;split at h
  ·rename_i t' ty v e2;simp only[A05]at h;obtain⟨⟨h1,h2⟩,h3⟩:=h;have h4:s.tm ty=.junk:=by
    split at h3
    ·assumption
    ·cases h3
   refine⟨t,tx,t',ty,v,e1,e2,ha.nw ty h2 (by rw[h4];rfl),fun k off k' off' q1 q2 e=>?_⟩;subst e;have o1:s.hp k≠none:=by
    rcases ha.ol tx k off h1 q1 with q|⟨b,o2,_,q⟩
    ·exact hL.1 _ _ _ q
    ·exact hL.1 _ _ _ q
   rcases ha.fr ty k off' h2 q2 with q|q
   ·rw[h4]at q;cases q
   ·exact o1 q
  ·cases h
 ·cases h
theorem Anp {ops:Array Oper}(h:Zb ops s ox=true)(ha:Ei ops s s')(hc:∀ t tx,ox.op=.load t (.tmp tx)->Ue ops s' tx=true->isV (s'.tm tx)=false):∃ t tx,ox.op=.load t (.tmp tx)/\isV (s'.tm tx)=false:=by
 unfold Zb at h;split at h
 ·rename_i t tx hop;refine⟨t,tx,hop,?_⟩;rw[A3o,A05]at h;rcases h with ⟨h1,h2⟩|h
  ·rw[ha.eq tx h1];cases hb:s.tm tx with
   |junk=>rfl
   |v y=>rw[hb]at h2;cases h2
   |p k off=>rfl
  ·exact hc t tx hop (by rw[Kd ha.eq];exact h)
 ·cases h
def Amx (ops:Array Oper)(s:S)(o:Oper):Bool:=match o.op with
 |.load _ (.tmp t)=>!(isV (s.tm t)&&Ue ops s t)
 |_=>true
def Yv (ops:Array Oper)(s:S)(x y:Nat):Bool :=
 match ops[x]? with
 |some ox=>match ops[y]? with
  |some oy=>D6 ox.op&&Oper.apart ops ox oy&&(!(F2 ox.op&&Oo ops y oy.op)||Aoc ops s ox oy||Aon ops s ox oy||(Zb ops s ox&&Ada oy.op)) && !A17 x y&&Amx ops s ox
  |none=>false
 |none=>false
def dir (ops:Array Oper)(i x:Nat):Bool:=match ops[i]? with
 |some o=>o.after.toList.any fun e=>Region.binds .any e&&A17 e.on x
 |none=>false
def Eg (ops:Array Oper)(s:S)(x y:Nat):Bool:=!(dir ops x y) && !(A17 x y)&&(dir ops y x||Yv ops s x y||bef ops ops.size y x)
def Lk (ops:Array Oper)(s:S):List Nat->Bool
 |[]=>true
 |x::l=>l.all (Eg ops s x)&&Lk ops s l
def Hq (ops:Array Oper)(i:Nat):Bool:=match ops[i]? with
 |some o=>o.after.toList.all fun e=>!Region.binds .any e||(A8g e.on ops.size && !A17 e.on i)
 |none=>false
def Aho (ops:Array Oper)(s:S)(T:List Nat):Bool :=
 A17 T.length ops.size&&(A1q ops.size).all (fun i=>T.contains i)&&T.all (fun i=>A8g i ops.size)&&Lk ops s T&&(A1q ops.size).all (Hq ops)
theorem D4 {ops:Array Oper}{s:S}:∀ {T:List Nat},Lk ops s T=true->T.Pairwise (fun x y=>Eg ops s x y=true)
 |[],_=>List.Pairwise.nil
 |x::l,h=>by
  simp only[Lk,A05,A08]at h;exact List.Pairwise.cons h.1 (D4 h.2)
def Aco (ops:Array Oper)(listed:Array Bool):Prop:=∀ i,listed.getD i false=true->∀ o,ops[i]?=some o->∀ e∈o.after,Region.binds .any e=true->listed.getD e.on false=true
theorem Aqq {listed:Array Bool}(hc:Aco ops listed){x:Nat}:∀ (f i:Nat),(∀ o,ops[i]?=some o->∀ e∈o.after,Region.binds .any e=true->listed.getD e.on false=true)->bef ops f i x=true->listed.getD x false=true
 |0,i,_,h=>by simp[bef]at h
 |f+1,i,hi,h=>by
  unfold bef at h;cases ho:ops[i]? with
  |none=>simp[ho]at h
  |some o =>
   simp only[ho,A6l,A05,A3o]at h;obtain⟨e,he,hb,h⟩:=h;have hl:=hi o ho e (by simpa using he) hb;rcases h with h|h
   ·rw[<-A1h h];exact hl
   ·exact Aqq hc f e.on (hc e.on hl) h
theorem Tn {listed:Array Bool}{i x:Nat}(hi:∀ o,ops[i]?=some o->∀ e∈o.after,Region.binds .any e=true->listed.getD e.on false=true)(h:dir ops i x=true):listed.getD x false=true:=by
 unfold dir at h;cases ho:ops[i]? with
 |none=>simp[ho]at h
 |some o =>
  simp only[ho,A6l,A05]at h;obtain⟨e,he,hb,h⟩:=h;rw[<-A1h h];exact hi o ho e (by simpa using he) hb
theorem Ob.bubble {s0:S}(hL0:La s0){i:Nat}{B:List Nat}:∀ (A:List Nat),(∀ x∈A,Yv ops s0 x i=true)->∀ {s:S} {u m:PH},La s->Ei ops s0 s->Ob P id ops true Fin (A++i::B) s u m->Ob P id ops true Fin (i::(A++B)) s u m
 |[],_,s,u,m,_,_,h=>h
 |x::A,hx,s,u,m,hL,hag,h=>by
  have h1:Ob P id ops true Fin (x::i::(A++B)) s u m:=h.mapTail hL fun s' u m hl ha hh=>Ob.bubble hL0 A (fun y hy=>hx y (List.mem_cons_of_mem _ hy)) hl (hag.trans ha) hh;have hs:=hx x mV;unfold Yv at hs;cases hox:ops[x]? with
  |none=>simp[hox]at hs
  |some ox =>
   cases hoy:ops[i]? with
   |none=>simp[hox,hoy]at hs
   |some oy =>
    simp only[hox,hoy,A05,A3o,A21,Bool.and_eq_false_iff]at hs;obtain⟨⟨⟨⟨e1,e2⟩,e3⟩,e4⟩,e5⟩:=hs;have hcm:∀ t tx,ox.op=.load t (.tmp tx)->Ue ops s tx=true->isV (s.tm tx)=false:=fun t tx hop hpt=>by
     rw[Kd hag.eq]at hpt;unfold Amx at e5;rw[hop]at e5;simp only[hpt,Bool.and_true,A21]at e5;exact hag.pt tx hpt e5
    refine h1.swap hL hox hoy (fun e=>?_) e1 e2 (fun hl=>?_) hcm
    ·rw[e]at e4;simp at e4
    ·rcases e3 with (((e3|e3)|e3)|e3)|e3
     ·rw[hl]at e3;cases e3
     ·exact .inl e3
     ·exact .inr (.inr (.inl (Aoa e3 hag)))
     ·exact .inr (.inr (.inr (Ao2 e3 hag hL0)))
     ·exact .inr (.inl ⟨e3.2,Anp e3.1 hag hcm⟩)
theorem Ob.wpAny {s0:S}(hL0:La s0)(hE:(A1q ops.size).all (Hq ops)=true)(hF:∀ s u m ρ a w,Fin s u m->Rel c s u m ρ a w->Q .normal a w) :
 ∀ (n:Nat) (T:List Nat) (listed:Array Bool) {s:S} {u m:PH} {ρ:Nat->Nat} {a:Act} {w:World},T.length=n->listed.size=ops.size->(∀ i,i<ops.size->(listed.getD i true=false↔i∈T))->(∀ i∈T,i<ops.size)->T.Nodup->Aco ops listed ->
  T.Pairwise (fun x y=>Eg ops s0 x y=true)->Ei ops s0 s->Ob P id ops true Fin T s u m->Rel c s u m ρ a w->Go.wpAny P .any ops Q n listed a w:=by
 have ready_spec:∀ (listed:Array Bool) (i:Nat),i∈Region.ready .any ops listed↔i<ops.size/\listed.getD i true=false/\∃ o,ops[i]?=some o/\∀ e∈o.after,Region.binds .any e=true->listed.getD e.on false=true:=by
  intro listed i;simp only[Region.ready,List.mem_filter,List.mem_range,A05,A21];refine and_congr_right fun hi=>and_congr_right fun _=>?_;have ho:ops[i]?=some ops[i]:=A2g hi;rw[ho];simp only[Option.map_some,A2y,Array.all_eq_true',A0t,exists_eq_left',A3o,A21];constructor
  ·intro h e he hb;rcases h e he with h|h
   ·rw[hb]at h;cases h
   ·exact h
  ·intro h e he;cases hb:Region.binds .any e with
   |false=>exact .inl rfl
   |true=>exact .inr (h e he hb)
 intro n;induction n with
 |zero =>
  intro T listed s u m ρ a w hlen hsz hT hTl hnd hcl hP hag hO hr;have:T = []:=A13 hlen;subst this;refine⟨?_,?_⟩
  ·rw[List.eq_nil_iff_forall_not_mem];intro i hi;obtain⟨h1,h2,_⟩:=(ready_spec listed i).1 hi;exact absurd ((hT i h1).1 h2) mV
  ·cases hO with
   |nil h=>exact hF _ _ _ _ _ _ h hr
 |succ n ih =>
  intro T listed s u m ρ a w hlen hsz hT hTl hnd hcl hP hag hO hr;refine⟨fun hnil=>?_,fun i hi=>?_⟩
  ·cases T with
   |nil=>simp at hlen
   |cons t T' =>
    exfalso;have ht:=hTl t mV;have:t∈Region.ready .any ops listed:=by
     refine (ready_spec listed t).2 ⟨ht,(hT t ht).2 mV,ops[t],A2g ht,fun e he hb=>?_⟩;rw[A08]at hE;have hed:=hE t (by simpa using ht);unfold Hq at hed;rw[A2g ht]at hed;simp only[A08]at hed;have:=hed e (by simpa using he);simp only[hb,A56,Baa,A05,A21]at this;have hlt:e.on<ops.size:=A68▸this.1;have hne:e.on≠t:=fun h=>by rw[h]at this;simp at this
     cases hl:listed.getD e.on true with
     |true =>
      have h1:e.on<listed.size:=oV
      simp only[A1f,A2g h1,A2y]at hl⊢;exact hl
     |false =>
      have hm:=(hT e.on hlt).1 hl;rcases A02.1 hm with hm|hm
      ·exact absurd hm hne
      ·have:=List.rel_of_pairwise_cons hP hm;unfold Eg at this;simp only[A05,A21]at this;have hb':dir ops t e.on=true:=by
        unfold dir;rw[A2g ht];simp only[A6l,A05];exact⟨e,by simpa using he,hb,mV⟩
       rw[hb']at this;exact absurd this.1.1 mV
    rw[hnil]at this;cases this
  ·obtain⟨h1,h2,o,ho,hpre⟩:=(ready_spec listed i).1 hi;have hm:=(hT i h1).1 h2;obtain⟨A,B,rfl⟩:=List.append_of_mem hm;have hAB:(A++B).length=n:=by simp at hlen⊢;omega
   have hlt:i<listed.size:=oV
   have hsw:∀ x∈A,Yv ops s0 x i=true:=by
    intro x hx;have hp:=(List.pairwise_append.1 hP).2.2 x hx i mV;unfold Eg at hp;simp only[A05,A3o]at hp;have hpi:∀ o',ops[i]?=some o'->∀ e∈o'.after,Region.binds .any e=true->listed.getD e.on false=true:=fun o' ho'=>by rw[ho]at ho';obtain rfl:=A2d ho';exact hpre
    have hno:listed.getD x false=true->False:=by
     intro hl;have hxl:=hTl x (by simp[hx]);have:=(hT x hxl).2 (by simp[hx]);have h3:x<listed.size:=oV
     simp only[A1f,A2g h3,A2y]at hl this;rw[this]at hl;cases hl
    rcases hp.2 with (h|h)|h
    ·exact (hno (Tn hpi h)).elim
    ·exact h
    ·exact (hno (Aqq hcl ops.size i hpi h)).elim
   have hO':=Ob.bubble hL0 A hsw hr.lv hag hO;refine wpOp_mono (fun a' w' ⟨s',u',m',ρ',r1,ra,r2⟩=>?_) (hO'.step (Q:=Q) hr);have hnd':(A++B).Nodup/\i∉A++B:=by
    rw[List.nodup_append]at hnd⊢;simp only[List.nodup_cons,A02,A01]at hnd⊢;obtain⟨n1,⟨n2,n3⟩,n4⟩:=hnd;exact⟨⟨n1,n3,fun x hx y hy=>n4 x hx y (.inr hy)⟩,fun h=>h.elim (fun h=>n4 i h i (.inl rfl) rfl) n2⟩
   refine ih (A++B) _ hAB (by simpa using hsz) (fun j hj=>?_) (fun j hj=>hTl j ?_) hnd'.1 ?_ ?_ (hag.trans ra) r2 r1
   ·by_cases hji:j=i
    ·subst hji;simp only[A1f,A4b hlt,A2y];exact⟨fun h=>absurd h mV,fun h=>absurd h hnd'.2⟩
    ·have:=hT j hj;simp only[A1f,A2l (fun h=>hji h.symm)]at this⊢;rw[this];simp[hji]
   ·simp only[A01,A02]at hj⊢;rcases hj with h|h
    ·exact .inl h
    ·exact .inr (.inr h)
   ·intro j hj o' ho' e he hb;have keep:∀ k,listed.getD k false=true->(listed.setIfInBounds i true).getD k false=true:=by
     intro k hk;by_cases hki:k=i
     ·subst hki;simp only[A1f,A4b hlt,A2y]
     ·simp only[A1f,A2l (fun h=>hki h.symm)]at hk⊢;exact hk
    by_cases hji:j=i
    ·subst hji;rw[ho]at ho';obtain rfl:=A2d ho';exact keep _ (hpre e he hb)
    ·refine keep _ (hcl j ?_ o' ho' e he hb);simp only[A1f,A2l (fun h=>hji h.symm)]at hj⊢;exact hj
   ·exact hP.sublist (List.Sublist.append_left (List.sublist_cons_self i B) A)
end drawn
end
end Go.Proofs.YtanfagpabkdmiaaGreatDoor
