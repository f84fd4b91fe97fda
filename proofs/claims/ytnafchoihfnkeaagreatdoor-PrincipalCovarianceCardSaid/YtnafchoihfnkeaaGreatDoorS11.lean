/- Parts of one proof, joined by a program. -/
import Derived.Test.YtnafchoihfnkeaaGreatDoorS10
set_option linter.defProp false
set_option linter.unusedVariables false
set_option linter.unusedSimpArgs false
set_option linter.unusedSectionVars false
set_option maxHeartbeats 16000000
namespace Go.Proofs.YtnafchoihfnkeaaGreatDoor
open Go.Proofs.Tryz
open Go.RowKit Go.MapKept
open _root_.Array renaming getElem?_append_left -> Axr, getElem?_modify -> Az1, length_toList -> Awc, size_modify -> A0u
open Classical renaming byContradiction -> Au2
open Int renaming natAbs_mul -> Au7, natAbs_natCast -> Atv, toNat_natCast -> Avo
open List renaming any_eq_false -> Azp, any_eq_true -> Ax1, append_assoc -> Au1, append_nil -> Auu, filter_append -> A2l, flatMap_cons -> Azl, getD_eq_getElem?_getD -> As7, getElem?_append_left -> Atl, getElem?_append_right -> At1, getElem?_eq_getElem -> As5, getElem?_eq_some_iff -> Atc, getElem?_map -> Aty, getElem?_range -> A0d, getElem?_replicate -> Avg, getElem?_toArray -> Avh, getElem_mem -> Ath, getElem_of_mem -> Avy, length_append -> Atg, length_cons -> Auh, length_eq_zero_iff -> A1b, length_filter_le -> Aw8, length_map -> Ata, length_replicate -> Aur, length_set -> Avx, length_take -> Atm, map_append -> Atk, map_congr_left -> Ay6, map_cons -> Auk, map_map -> A3x, mem_append -> Ati, mem_append_left -> Avn, mem_filter -> Axo, mem_flatMap -> Ax3, mem_map -> Ate, mem_of_getElem? -> Ato, nil_append -> Ava, nodup_append -> Awq, range -> At3, range_succ -> Ayh, replicate -> As6, set_append_left -> Ayu, set_append_right -> Awm, take_add_one -> At0, take_length -> At9
open Nat renaming add_mul -> At2, add_sub_cancel -> Avv, add_zero -> Avb, eq_zero_or_pos -> At5, le_refl -> Atb, le_trans -> As9, lt_of_le_of_lt -> Aum, mul_le_mul_right -> Ats, one_mul -> Avm, sub_self -> Avc, zero_add -> Aud, zero_le -> Atu
open Option renaming getD_some -> Awo, map_some -> Awh, some.inj -> Auq, some.injEq -> Atd
open Prod renaming mk.injEq -> Aun
open Rat renaming divInt -> Au0, divInt_eq_div -> Awf, intCast_mul -> Av9, intCast_natCast -> Au6, mul_nonneg -> A0i, natCast_add -> Axq, natCast_mul -> Awt, zero_add -> Ax8
open Value renaming cells -> Atw, slice -> Au8, slice.injEq -> Atr
section
variable {j k l:Nat}
def noS:Nat->Bool:=fun _=>false
def N2 (n:Nat)(A:Nat->Nat->Rat)(x:Rat)(j i:Nat):Rat:=qdt n (Bq (dgS noS A x) j (idq i))
theorem Ag5 {n:Nat}{C:Nat->Nat->Rat}{x y:Nat->Rat}(h:∀ i,i<n->x i=y i):qdt n (Bq C j x)=qdt n (Bq C j y):=Dt fun t _ i hi=>by
 unfold Bq;split
 ·exact h i hi
 ·rfl
theorem Ap2 {n:Nat}{A:Nat->Nat->Rat}{x:Rat}(hj:j<n)(hk:k<n):(Aj n fun i=>dgS noS A x k i*N2 n A x j i)=if j=k then E2 n noS A x else 0:=by
 have h1:=Aez (dgS noS A x) hj (dgS noS A x k) idq n;unfold N2;rw[<-h1,Ag5 (y:=dgS noS A x k) fun i hi=>by
  rw[D5 (j:=i) hi fun t ht hne=>by unfold idq;rw[if_neg (fun e=>hne e.symm)];grind,show idq i i=1 from if_pos rfl];grind]
 by_cases e:j=k
 ·rw[if_pos e,<-e,Fa];rfl
 ·rw[if_neg e];exact Abu (a:=j) (b:=k) hj hk e (by rw[Fz,E5 _ (fun h=>e h.symm)])
theorem Aov (n:Nat)(A:Nat->Nat->Rat)(j i:Nat):IsP (n+1) fun x=>N2 n A x j i :=
 (IsP.det n (C:=fun x=>Bq (dgS noS A (0+x)) j (idq i)) fun t s=>by
  unfold Bq;by_cases e:t=j
  ·exact⟨idq i s,0,fun h=>by rw[if_pos e];grind⟩
  ·obtain⟨a,b,q⟩:=Y5 noS A 0 t s;exact⟨a,b,fun h=>by rw[if_neg e,q]⟩).congr fun x=>by
  show qdt n (Bq (dgS noS A x) j (idq i))=qdt n (Bq (dgS noS A (0+x)) j (idq i));rw[Ax8]
theorem Ajg (n:Nat)(A:Nat->Nat->Rat)(x:Rat)(k:Nat):E2 n (Dh noS k) A x=N2 n A x k k:=by
 unfold E2 N2
 congr 1
 funext t i
 unfold Bq;by_cases e:t=k
 ·subst e;rw[if_pos rfl];unfold dgS Dh;rw[if_pos rfl,if_pos rfl]
 ·rw[if_neg e];unfold dgS Dh;rw[if_neg e]
structure Ll (n:Nat)(A:Nat->Nat->Rat)(c:Nat->Rat)(b:Nat->Nat->Nat->Rat):Prop where
 det:∀ x,E2 n noS A x=evP (n+1) c x
 adj:∀ j i x,N2 n A x j i=evP (n+1) (b j i) x
theorem Agv (n:Nat)(A:Nat->Nat->Rat):∃ c b,Ll n A c b:=by
 obtain⟨c,hc⟩:=Ok n noS A;have hb:=fun j i=>Aov n A j i;exact⟨c,fun j i=>(hb j i).choose,hc,fun j i=>(hb j i).choose_spec⟩
section
variable {n:Nat} {A:Nat->Nat->Rat} {c:Nat->Rat} {b:Nat->Nat->Nat->Rat}
theorem Ll.eqs (h:Ll n A c b)(hj:j<n)(hk:k<n)(hl:l<n+2) :
 (if l=0 then 0 else b j k (l-1))+(Aj n fun i=>A i k*(if l=n+1 then 0 else b j i l))=if l=n+1 then 0 else if j=k then c l else 0:=by
 refine Ae0 (d:=n+2) (c:=fun l=>(if l=0 then 0 else b j k (l-1))+(Aj n fun i=>A i k*(if l=n+1 then 0 else b j i l))) (c':=fun l=>if l=n+1 then 0 else if j=k then c l else 0) (fun x=>?_) hl;have h1:=Ap2 (A:=A) (x:=x) hj hk;have up:∀ f:Nat->Rat,evP (n+2) (fun l=>if l=n+1 then 0 else f l) x=evP (n+1) f x:=fun f=>by
  have hz:Aj (n+1) (fun l=>(if l=n+1 then 0 else f l)*pwR x l)=Aj (n+1) (fun l=>f l*pwR x l):=Af fun l hl=>by rw[if_neg oV]
  show Aj (n+1) (fun l=>(if l=n+1 then 0 else f l)*pwR x l)+(if n+1=n+1 then 0 else f (n+1))*pwR x (n+1)=_;rw[hz,if_pos rfl];unfold evP;grind
 have e1:evP (n+2) (fun l=>(if l=0 then 0 else b j k (l-1))+(Aj n fun i=>A i k*(if l=n+1 then 0 else b j i l))) x=x*N2 n A x j k+Aj n fun i=>A i k*N2 n A x j i:=by
  have s1:evP (n+2) (fun l=>if l=0 then 0 else b j k (l-1)) x=x*N2 n A x j k:=by
   rw[h.adj j k x];unfold evP;exact Mx (b j k) x (n+1)
  have s2:∀ m,evP (n+2) (fun l=>Aj m fun i=>A i k*(if l=n+1 then 0 else b j i l)) x=Aj m fun i=>A i k*N2 n A x j i:=fun m=>by
   induction m with
   |zero=>unfold evP;simp only[Aj];rw[B6 fun _ _=>by grind];grind
   |succ m ih =>
    rw[Aj,<-ih,h.adj j m x,<-up (b j m)];unfold evP;rw[<-Bj,<-B2];exact Af fun l _=>by dsimp only;rw[Aj];grind
  rw[<-s1,<-s2 n];unfold evP;rw[<-B2];exact Af fun l _=>by grind
 have e2:evP (n+2) (fun l=>if l=n+1 then 0 else if j=k then c l else 0) x=if j=k then E2 n noS A x else 0:=by
  rw[up fun l=>if j=k then c l else 0];by_cases e:j=k
  ·rw[if_pos e,h.det x];unfold evP;exact Af fun l _=>by dsimp only;rw[if_pos e]
  ·rw[if_neg e];unfold evP;exact B6 fun l _=>by dsimp only;rw[if_neg e];grind
 rw[e1,e2,<-h1];have e3:∀ i,dgS noS A x k i*N2 n A x j i=x*(idq k i*N2 n A x j i)+A i k*N2 n A x j i:=fun i=>by
  unfold dgS noS;rw[if_neg mV];grind
 have e4:(Aj n fun i=>idq k i*N2 n A x j i)=N2 n A x j k:=by
  rw[D5 hk fun t ht hne=>by unfold idq;rw[if_neg hne];grind,show idq k k=1 from if_pos rfl];grind
 rw[Af fun i _=>e3 i,B2,Bj,e4]
theorem Ll.top (h:Ll n A c b)(hj:j<n)(hk:k<n):b j k n=0:=by
 have h1:=h.eqs hj hk (l:=n+1) oV;rw[if_neg oV,if_pos rfl,B6 fun i _=>by rw[if_pos rfl];grind,Avv]at h1;grind
theorem Ll.step (h:Ll n A c b)(hj:j<n)(hk:k<n)(hl:l<n):b j k l+(Aj n fun i=>A i k*b j i (l+1))=if j=k then c (l+1) else 0:=by
 have h1:=h.eqs hj hk (l:=l+1) oV;rw[if_neg oV,if_neg oV,Avv,Af (g:=fun i=>A i k*b j i (l+1)) fun i _=>by rw[if_neg oV]]at h1;exact h1
theorem Ll.last (h:Ll n A c b)(hj:j<n)(hk:k<n):(Aj n fun i=>A i k*b j i 0)=if j=k then c 0 else 0:=by
 have h1:=h.eqs hj hk (l:=0) oV;rw[if_pos rfl,if_neg oV,Af (g:=fun i=>A i k*b j i 0) fun i _=>by rw[if_neg oV]]at h1;grind
theorem Ll.trace (h:Ll n A c b)(hl:l<n):((l+1:Nat):Rat)*c (l+1)=Aj n fun k=>b k k l:=by
 have h1:=H5 h.det (cs:=fun k=>b k k) (fun k _ _ x=>by rw[Ajg];exact h.adj k k x) hl;rw[h1];exact Af fun k _=>by unfold noS;rw[if_neg mV]
end
theorem Afa (S:Nat->Bool)(A:Nat->Nat->Rat):∀ n,(∀ k,k<n->S k=true)->qdt n (mnS S A)=1
 |0,_=>rfl
 |n+1,h=>by rw[Agg (h n oV),Afa S A n fun k hk=>h k oV]
theorem Abk (S:Nat->Bool):∀ n,(Aj n fun k=>if S k then 0 else 1)=((D6 n S:Nat):Rat)
 |0=>rfl
 |n+1=>by
  rw[Aj,Abk S n];unfold D6;rw[Ayh,A2l,Atg];cases e:S n with
  |true=>simp[e];grind
  |false=>simp[e,Axq]
theorem Ab4 {n:Nat}{A:Nat->Nat->Rat}:∀ (m:Nat) (S:Nat->Bool) (c:Nat->Rat),D6 n S=m->m<=n->(∀ x,E2 n S A x=evP (n+1) c x)->c m=1
 |0,S,c,hm,_,hc=>by
  have h0:=hc 0;rw[Uy,Aem,Afa S A n fun k hk=>?_]at h0
  ·exact h0.symm
  ·unfold D6 at hm;have:=List.filter_eq_nil_iff.1 (List.eq_nil_of_length_eq_zero hm) k (List.mem_range.2 hk);simpa using this
 |m+1,S,c,hm,hn,hc=>by
  obtain⟨cs,hcs⟩:=Yo n S A;have h1:=H5 hc (cs:=cs) (fun k _ _ x=>hcs k x) (show m<n by omega);rw[Af (g:=fun k=>if S k then 0 else 1) fun k hk=>?_,Abk,hm]at h1
  ·have h3:(0:Rat)<((m+1:Nat):Rat):=Rat.natCast_pos.2 oV;have h4:((m+1:Nat):Rat)*(c (m+1)-1)=0:=by
    rw[Rat.sub_eq_add_neg,Rat.mul_add,h1];grind
   rcases Rat.mul_eq_zero.1 h4 with h5|h5
   ·rw[h5]at h3;exact absurd h3 fV
   ·grind
  ·cases e:S k with
   |true=>simp
   |false =>
    have hlt:=Aay hk e;have hge:D6 n S<=D6 n (Dh S k)+1:=by
     unfold D6;have hsub:((At3 n).filter fun t=>!Dh S k t)=((At3 n).filter fun t=>!S t).filter fun t=>decide (t≠k):=by
      rw[List.filter_filter];refine List.filter_congr fun t _=>?_;unfold Dh;by_cases et:t=k
      ·simp[et]
      ·simp[et]
     rw[hsub];exact Ac2 k (List.nodup_range.sublist List.filter_sublist)
    have:=Ab4 m (Dh S k) (cs k) oV oV (hcs k);simp[this]
theorem Ll.one {n:Nat}{A:Nat->Nat->Rat}{c:Nat->Rat}{b:Nat->Nat->Nat->Rat}(h:Ll n A c b):c n=1 :=
 Ab4 n noS c (by
  have:((At3 n).filter fun k=>!noS k)=At3 n:=List.filter_eq_self.2 fun _ _=>rfl;unfold D6;rw[this,List.length_range]) (Atb _) h.det
end
def Rec (n w:Nat)(X:List (List Rat)):Prop:=X.length=n/\∀ i,i<n->(gM X i).length=w
def en (X:List (List Rat))(i j:Nat):Rat:=gR (gM X i) j
theorem Apj {n w i:Nat}{X:List (List Rat)}{r:List Rat}(h:Rec n w X)(hi:i<n)(hr:r.length=w):Rec n w (X.set i r):=by
 refine⟨by simp[h.1],fun j hj=>?_⟩;rw[Sl (by rw[h.1];exact hi)];split
 ·exact hr
 ·exact h.2 j hj
section
variable {l:Nat}
def Eo (n:Nat)(X Y:Nat->Nat->Rat)(i k:Nat):Rat:=Aj n fun j=>X i j*Y j k
theorem Vz (f:Nat->Nat->Rat):∀ m n:Nat,(Aj m fun i=>Aj n fun k=>f i k)=Aj n fun k=>Aj m fun i=>f i k
 |0,n=>by simp only[Aj];exact (B6 fun _ _=>rfl).symm
 |m+1,n=>by rw[Aj,Vz f m n,<-B2];rfl
theorem Ad5 {n:Nat}(X Y Z:Nat->Nat->Rat)(i k:Nat):Eo n (Eo n X Y) Z i k=Eo n X (Eo n Y Z) i k:=by
 unfold Eo;rw[Af (g:=fun j=>Aj n fun t=>X i t*Y t j*Z j k) fun j _=>by
  rw[Af (f:=fun t=>X i t*Y t j*Z j k) (g:=fun t=>Z j k*(X i t*Y t j)) fun t _=>by grind,Bj];grind,Vz]
 exact Af fun t _=>by
  rw[<-Bj];exact Af fun j _=>by grind
theorem Te {n:Nat}{X X' Y Y':Nat->Nat->Rat}{i k:Nat}(h:∀ j,j<n->X i j=X' i j)(h':∀ j,j<n->Y j k=Y' j k):Eo n X Y i k=Eo n X' Y' i k :=
 Af fun j hj=>by rw[h j hj,h' j hj]
section
variable {n:Nat} {a:Nat->Nat->Rat} {c:Nat->Rat} {b:Nat->Nat->Nat->Rat}
abbrev Aji (n:Nat)(a:Nat->Nat->Rat)(c:Nat->Rat)(b:Nat->Nat->Nat->Rat):Prop:=Ll n (fun i k=>-(a i k)) c b
theorem Ll.down (h:Aji n a c b)(hl:l<n){j k:Nat}(hj:j<n)(hk:k<n):b j k l=Eo n (fun j i=>b j i (l+1)) a j k+if j=k then c (l+1) else 0:=by
 have h1:=h.step hj hk hl;have e:(Aj n fun i=>-(a i k)*b j i (l+1)) = -(Eo n (fun j i=>b j i (l+1)) a j k):=by
  unfold Eo;rw[Af (g:=fun i=>(-1)*(b j i (l+1)*a i k)) fun i _=>by grind,Bj];grind
 rw[e]at h1;grind
theorem Ll.comm (h:Aji n a c b):∀ (d l:Nat),l+d=n->∀ j k,j<n->k<n->Eo n a (fun j i=>b j i l) j k=Eo n (fun j i=>b j i l) a j k
 |0,l,hl,j,k,hj,hk=>by
  unfold Eo;rw[B6 fun i hi=>by dsimp only;rw[show b i k l=0 from by rw[show l=n by omega];exact h.top hi hk];grind,
   B6 fun i hi=>by dsimp only;rw[show b j i l=0 from by rw[show l=n by omega];exact h.top hj hi];grind]
 |d+1,l,hl,j,k,hj,hk=>by
  have ih:=Ll.comm h d (l+1) oV;have hd:=fun j k (hj:j<n) (hk:k<n)=>h.down (l:=l) oV hj hk;have e1:Eo n a (fun j i=>b j i l) j k=Eo n a (Eo n (fun j i=>b j i (l+1)) a) j k+c (l+1)*a j k:=by
   unfold Eo at hd⊢;rw[Af (g:=fun i=>a j i*(Aj n fun t=>b i t (l+1)*a t k)+(if i=k then c (l+1)*a j i else 0)) fun i hi=>by
    dsimp only;rw[hd i k hi hk];split<;>grind,B2,D5 (f:=fun i=>if i=k then c (l+1)*a j i else 0) hk fun t ht hne=>by rw[if_neg hne],if_pos rfl]
  have e2:Eo n (fun j i=>b j i l) a j k=Eo n (Eo n (fun j i=>b j i (l+1)) a) a j k+c (l+1)*a j k:=by
   unfold Eo at hd⊢;rw[Af (g:=fun i=>(Aj n fun t=>b j t (l+1)*a t i)*a i k+(if i=j then c (l+1)*a i k else 0)) fun i hi=>by
    dsimp only;rw[hd j i hj hi];by_cases e:j=i
    ·rw[if_pos e,if_pos e.symm];grind
    ·rw[if_neg e,if_neg fun h=>e h.symm];grind,B2,D5 (f:=fun i=>if i=j then c (l+1)*a i k else 0) hj fun t ht hne=>by rw[if_neg hne],if_pos rfl]
  rw[e1,e2,<-Ad5,Te (X':=Eo n (fun j i=>b j i (l+1)) a) (fun i hi=>ih j i hj hi) fun _ _=>rfl]
theorem Su (x:Rat):∀ n:Nat,(Aj n fun _=>x)=(n:Rat)*x
 |0=>by simp only[Aj];grind
 |n+1=>by rw[Aj,Su x n,Axq];grind
theorem Ll.tr (h:Aji n a c b)(hl:l<n):(Aj n fun i=>Eo n a (fun j i=>b j i l) i i)=((l:Nat):Rat)*c l-(n:Rat)*c l:=by
 rw[Af fun i hi=>h.comm (n-l) l oV i i hi hi];cases l with
 |zero =>
  have e:∀ i,i<n->Eo n (fun j i=>b j i 0) a i i = -(c 0):=fun i hi=>by
   have h1:=h.last hi hi;rw[if_pos rfl]at h1;unfold Eo;rw[<-h1];rw[Af (g:=fun t=>(-1)*(-(a t i)*b i t 0)) fun t _=>by grind,Bj];grind
  rw[Af e,Su];rw[show (((0:Nat):Nat):Rat)=0 from rfl];grind
 |succ l =>
  have h1:=h.trace (l:=l) oV;rw[Af (g:=fun k=>Eo n (fun j i=>b j i (l+1)) a k k+c (l+1)) fun k hk=>by rw[h.down (l:=l) oV hk hk,if_pos rfl],B2,Su]at h1;rw[h1];grind
end
end
section
variable {A M:List (List Rat)}{n:Nat}
theorem Oh (g:Nat->Rat):∀ f:Nat,Aj (f+1) g=g 0+Aj f fun t=>g (t+1)
 |0=>by simp only[Aj];grind
 |f+1=>by
  have ih:=Oh g f;rw[Aj,ih];simp only[Aj];grind
theorem Abs (row:List Rat)(M:List (List Rat))(j:Nat):∀ (f m:Nat) (s:Rat),Is row M j f m s=s+Aj f fun t=>gR row (m+t)*gR (gM M (m+t)) j
 |0,m,s=>by simp only[Is,Aj];grind
 |f+1,m,s=>by
  rw[Is,Abs row M j f (m+1),Oh];rw[Af (f:=fun t=>gR row (m+1+t)*gR (gM M (m+1+t)) j) (g:=fun t=>gR row (m+(t+1))*gR (gM M (m+(t+1))) j) fun t _=>by
   rw[show m+1+t=m+(t+1) by omega]]
  simp only[Avb];grind
theorem Tt (row:List Rat)(M:List (List Rat))(n:Nat):∀ (f j:Nat) (l:List Rat),Eh row M n f j l=l++(At3 f).map fun t=>Is row M (j+t) n 0 0
 |0,j,l=>by simp[Eh]
 |f+1,j,l=>by
  rw[Eh,Tt row M n f (j+1),List.range_succ_eq_map,Auk,A3x,Au1]
  congr 1
  rw[List.singleton_append]
  congr 1
  refine Ay6 fun t _=>?_;show Is row M (j+1+t) n 0 0=Is row M (j+(t+1)) n 0 0;rw[show j+1+t=j+(t+1) by omega]
theorem Wu (A M:List (List Rat))(n:Nat):∀ (f i:Nat) (N:List (List Rat)) (t:Rat),Fb A M n f i N t=(N++(At3 f).map (fun s=>Eh (gM A (i+s)) M n n 0 []),t+Aj f fun s=>gR (Eh (gM A (i+s)) M n n 0 []) (i+s))
 |0,i,N,t=>by
  simp only[Fb,Aj,List.range_zero,List.map_nil,Auu]
  congr 1;grind
 |f+1,i,N,t=>by
  rw[Fb,Wu A M n f (i+1),Oh,List.range_succ_eq_map,Auk,A3x,Au1,List.singleton_append];have e1:(At3 f).map (fun s=>Eh (gM A (i+1+s)) M n n 0 [])=(At3 f).map ((fun s=>Eh (gM A (i+s)) M n n 0 [])∘Nat.succ):=Ay6 fun s _=>by
   show Eh (gM A (i+1+s)) M n n 0 []=Eh (gM A (i+(s+1))) M n n 0 [];rw[show i+1+s=i+(s+1) by omega]
  have e2:(Aj f fun s=>gR (Eh (gM A (i+1+s)) M n n 0 []) (i+1+s))=Aj f fun s=>gR (Eh (gM A (i+(s+1))) M n n 0 []) (i+(s+1)):=Af fun s _=>by
   rw[show i+1+s=i+(s+1) by omega]
  rw[e1,e2];simp only[Avb]
  congr 1;grind
theorem Xg (x:Rat){n:Nat}:∀ (f i:Nat) (M:List (List Rat)),i+f<=n->Rec n n M->Rec n n (Ez x f i M)/\∀ a b,a<n->b<n->en (Ez x f i M) a b=en M a b+if a=b/\i<=a/\a<i+f then x else 0
 |0,i,M,_,h=>⟨h,fun a b _ _=>by rw[Ez,if_neg oV];grind⟩
 |f+1,i,M,hi,h=>by
  have hil:i<M.length:=by rw[h.1];omega
  have hrl:i<(gM M i).length:=by rw[h.2 i oV];omega
  have h1:Rec n n (M.set i ((gM M i).set i (gR (gM M i) i+x))):=Apj h oV (by rw[Avx];exact h.2 i oV);obtain⟨h2,h3⟩:=Xg x f (i+1) _ oV h1;rw[Ez];refine⟨h2,fun a b ha hb=>?_⟩;rw[h3 a b ha hb];have e:en (M.set i ((gM M i).set i (gR (gM M i) i+x))) a b=en M a b+if a=b/\a=i then x else 0:=by
   unfold en;rw[Sl hil];by_cases e1:i=a
   ·rw[if_pos e1,Xx hrl];by_cases e2:i=b
    ·rw[if_pos e2,if_pos oV,<-e1,<-e2]
    ·rw[if_neg e2,if_neg oV,<-e1];grind
   ·rw[if_neg e1,if_neg oV];grind
  rw[e];by_cases e1:a=b/\i+1<=a/\a<i+1+f
  ·rw[if_pos e1,if_neg oV,if_pos oV];grind
  ·rw[if_neg e1];by_cases e2:a=b/\a=i
   ·rw[if_pos e2,if_pos oV];grind
   ·rw[if_neg e2,if_neg oV];grind
theorem Aau {n i j:Nat}(hj:j<n):gR (Eh (gM A i) M n n 0 []) j=Eo n (en A) (en M) i j:=by
 rw[Tt,Ava];unfold gR;rw[As7,Aty,A0d hj];show Is (gM A i) M (0+j) n 0 0=_;rw[Abs];unfold Eo;rw[Ax8];exact Af fun t _=>by
  rw[Aud,Aud];rfl
theorem Ail :Rec n n (Fb A M n n 0 [] 0).1/\(∀ i j,i<n->j<n->en (Fb A M n n 0 [] 0).1 i j=Eo n (en A) (en M) i j)/\(Fb A M n n 0 [] 0).2=Aj n fun i=>Eo n (en A) (en M) i i:=by
 rw[Wu,Ava];have hrow:∀ i,i<n->gM ((At3 n).map fun s=>Eh (gM A (0+s)) M n n 0 []) i=Eh (gM A i) M n n 0 []:=fun i hi=>by
  unfold gM;rw[As7,Aty,A0d hi];show Eh (A.getD (0+i) []) M n n 0 []=_;rw[Aud]
 refine⟨⟨mV,fun i hi=>?_⟩,fun i j hi hj=>?_,?_⟩
 ·show (gM ((At3 n).map fun s=>Eh (gM A (0+s)) M n n 0 []) i).length=n;rw[hrow i hi,Tt];simp
 ·show gR (gM ((At3 n).map fun s=>Eh (gM A (0+s)) M n n 0 []) i) j=_;rw[hrow i hi,Aau hj]
 ·show (0:Rat)+Aj n _=_;rw[Ax8];exact Af fun i hi=>by
   rw[Aud,Aau hi]
theorem Wq {n:Nat}{A:List (List Rat)}{c:Nat->Rat}{b:Nat->Nat->Nat->Rat}(h:Aji n (en A) c b):∀ (f k:Nat) (M:List (List Rat)) (out:List Rat),k+f=n+1->1<=k->Rec n n M ->
 (∀ i j,i<n->j<n->en M i j=Eo n (en A) (fun j i=>b j i (n+1-k)) i j)->out=(List.range' (n+1-k) k).map c->F1 A n f k M out=(At3 (n+1)).map c
 |0,k,M,out,hk,h1,hM,he,ho=>by
  rw[F1,ho,show n+1-k=0 by omega,show k=n+1 by omega,List.range_eq_range']
 |f+1,k,M,out,hk,h1,hM,he,ho=>by
  have h0:gR out 0=c (n+1-k):=by
   rw[ho];obtain⟨m,rfl⟩:∃ m,k=m+1:=⟨k-1,oV⟩;rw[List.range'_succ];rfl
  obtain⟨hD,hDe⟩:=Xg (gR out 0) (n:=n) n 0 M oV hM;have hN:∀ i j,i<n->j<n->en (Ez (gR out 0) n 0 M) i j=b i j (n-k):=fun i j hi hj=>by
   rw[hDe i j hi hj,he i j hi hj,h0,show n+1-k=n-k+1 by omega,h.comm (k-1) (n-k+1) oV i j hi hj,h.down (l:=n-k) oV hi hj];by_cases e:i=j
   ·rw[if_pos e,if_pos oV]
   ·rw[if_neg e,if_neg oV]
  obtain⟨n1,n2,n3⟩:=Ail (A:=A) (M:=Ez (gR out 0) n 0 M) (n:=n);have hmul:∀ i j,i<n->j<n->Eo n (en A) (en (Ez (gR out 0) n 0 M)) i j=Eo n (en A) (fun j i=>b j i (n-k)) i j:=fun i j hi hj=>Te (fun _ _=>rfl) fun t ht=>hN t j ht hj;have ht:(Fb A (Ez (gR out 0) n 0 M) n n 0 [] 0).2/((-(k:Int):Int):Rat)=c (n-k):=by
   rw[n3,Af fun i hi=>hmul i i hi hi,h.tr (l:=n-k) oV];have e1:((n-k:Nat):Rat)=(n:Rat)-(k:Rat):=by
    have:n=(n-k)+k:=oV
    have e2:(n:Rat)=(((n-k)+k:Nat):Rat):=congrArg (fun m:Nat=>(m:Rat)) this;rw[Axq]at e2;rw[e2];grind
   have e3:((-(k:Int):Int):Rat) = -(k:Rat):=by rw[Rat.intCast_neg,Au6]
   have e4:(0:Rat)<(k:Rat):=Rat.natCast_pos.2 oV;rw[e1,e3];grind
  rw[F1,ht];refine Wq h f (k+1) _ _ oV oV n1 (fun i j hi hj=>?_) ?_
  ·rw[n2 i j hi hj,hmul i j hi hj,show n+1-(k+1)=n-k by omega]
  ·rw[ho,show n+1-(k+1)=n-k by omega,List.range'_succ,Auk,show n+1-k=n-k+1 by omega]
theorem Aax (hA:Rec n n A){c:Nat->Rat}{b:Nat->Nat->Nat->Rat}(h:Aji n (en A) c b):Ao A=(At3 (n+1)).map c:=by
 unfold Ao;rw[hA.1];have hz:∀ i,i<n->gM (As6 n (As6 n (0:Rat))) i=As6 n 0:=fun i hi=>by
  unfold gM;rw[As7,Avg,if_pos hi];rfl
 refine Wq h n 1 _ _ oV oV ⟨Aur ..,fun i hi=>by rw[hz i hi,Aur]⟩ (fun i j hi hj=>?_) ?_
 ·unfold en;rw[hz i hi];unfold gR;rw[As7,Avg,if_pos hj];unfold Eo;rw[B6 fun t ht=>by dsimp only;rw[show n+1-1=n by omega,h.top ht hj];grind];rfl
 ·rw[show n+1-1=n by omega];show [1] = [c n];rw[h.one]
end
section
variable {n:Nat}
theorem Ae1:∀ (r:Nat) (C:Nat->Nat->Rat),qdt r (fun t i=>-(C t i))=qsg r*qdt r C
 |0,_=>by show (1:Rat)=1*1;grind
 |r+1,C=>by
  rw[qdt,qdt,<-Bj];refine Af fun j _=>?_;have e:B9 j (fun t i=>-(C t i))=fun t i=>-(B9 j C t i):=by
   funext t i
   unfold B9;split<;>rfl
  rw[e,Ae1 r (B9 j C),qsg];grind
theorem Af3 (x:Rat):∀ j,pwR (-x) j=qsg j*pwR x j
 |0=>by show (1:Rat)=1*1;grind
 |j+1=>by simp only[pwR,qsg];rw[Af3 x j];grind
theorem Amv {a:Nat->Nat->Rat}{c d:Nat->Rat}(hc:∀ x,E2 n noS (fun i k=>-(a i k)) x=evP (n+1) c x)(hd:∀ x,E2 n noS a x=evP (n+1) d x){j:Nat}(hj:j<n+1):c j=qsg n*qsg j*d j:=by
 refine Ae0 (d:=n+1) (c':=fun j=>qsg n*qsg j*d j) (fun x=>?_) hj;rw[<-hc];have e1:E2 n noS (fun i k=>-(a i k)) x=qsg n*E2 n noS a (-x):=by
  unfold E2;rw[<-Ae1]
  congr 1
  funext t i
  unfold dgS noS;rw[if_neg mV,if_neg mV];grind
 rw[e1,hd];unfold evP;rw[<-Bj];exact Af fun j _=>by rw[Af3];grind
theorem Af0:∀ (l:List Rat) (q:Rat),q≠0->(∀ j,j+1<(q::l).length->gR (q::l) j≠0->gR (q::l) (j+1)≠0/\sg (gR (q::l) (j+1)) = -(sg (gR (q::l) j)))->chg (sg q) l=l.length
 |[],_,_,_=>rfl
 |p::l,q,hq,h=>by
  obtain⟨h1,h2⟩:=h 0 mV hq;have h1':p≠0:=h1;have h2':sg p = -(sg q):=h2;rw[chg,if_pos h2',<-h2',Af0 l p h1' fun j hj hn=>h (j+1) (by simp at hj⊢;omega) hn,Auh]
theorem Agk:∀ (l:List Rat),l≠[]->(∀ j,j+1=l.length->gR l j≠0)->(∀ j,j+1<l.length->gR l j≠0->gR l (j+1)≠0/\sg (gR l (j+1)) = -(sg (gR l j)))->zer l+var l+1=l.length
 |[],h,_,_=>absurd rfl h
 |q::l,_,hl,h=>by
  by_cases e:q=0
  ·subst e;have hne:l≠[]:=fun e=>hl 0 (by rw[e];rfl) rfl;have ih:=Agk l hne (fun j hj=>hl (j+1) (by rw[Auh,hj])) fun j hj hn=>h (j+1) (by rw[Auh];omega) hn;rw[Akn,zer,if_pos rfl,Auh];omega
  ·rw[Aqq l e,zer,if_neg e,Af0 l q e h,Auh];omega
theorem Sn (i:Nat):∀ (k:Nat) (l:List Rat),I3 0 i k l=l
 |0,l=>rfl
 |k+1,l=>by
  rw[I3];split
  ·rfl
  ·have e:gR l k+0*gR l (k+1)=gR l k:=by grind
   rw[e,Sn i k];by_cases hk:k<l.length
   ·refine List.ext_getElem? fun j=>?_;rw[List.getElem?_set];by_cases ej:k=j
    ·rw[if_pos ej,if_pos oV,<-ej,F3 hk,As5 hk]
    ·rw[if_neg ej]
   ·exact List.set_eq_of_length_le oV
theorem Pm:∀ (f i:Nat) (l:List Rat),F8 0 f i l=l
 |0,_,_=>rfl
 |f+1,i,l=>by rw[F8,Sn,Pm f]
theorem Aag (p:List Rat):E9 0 p=p:=Pm _ _ _
theorem Am0 {A:List (List Rat)}(hA:Rec n n A)(hs:M4 n (en A))(hp:O4 n (en A)):C7 (Ao A) 0=0:=by
 obtain⟨c,b,h⟩:=Agv n (fun i k=>-(en A i k));obtain⟨d,hd⟩:=Ok n noS (en A);have hcl:=Aax hA h;have hcd:=fun j (hj:j<n+1)=>Amv h.det hd hj;have hd0:=Sd hs hp n noS d (by unfold D6;exact As9 (Aw8 _ _) mV) hd;have hfree:D6 n noS=n:=by
  have:((At3 n).filter fun k=>!noS k)=At3 n:=List.filter_eq_self.2 fun _ _=>rfl;unfold D6;rw[this,List.length_range]
 have hgap:=fun j (hj:j<n) (hp0:0<d j)=>Zs hs hp n noS d oV hd j hj hp0 ⟨0,oV,rfl⟩ fun _ _ _=>oV
 have hlen:(Ao A).length=n+1:=by rw[hcl];simp
 have hg:∀ j,j<n+1->gR (Ao A) j=qsg n*qsg j*d j:=fun j hj=>by
  rw[<-hcd j hj,hcl];unfold gR;rw[As7,Aty,A0d hj];rfl
 have hsg:∀ j,qsg j=1\/qsg j = -1:=fun j=>by
  induction j with
  |zero=>exact .inl rfl
  |succ j ih=>simp only[qsg];rcases ih with e|e<;>rw[e]<;>simp
 have hone:qsg n*qsg n*d n=1:=by rw[<-hcd n oV];exact h.one
 have hall:=Agk (Ao A) (fun e=>by rw[e]at hlen;cases hlen) (fun j hj=>by
  obtain rfl:j=n:=oV
  rw[hg j oV,hone];decide) fun j hj hn=>by
  rw[hlen]at hj;rw[hg j oV]at hn⊢;rw[hg (j+1) oV];have hdj:0<d j:=by
   have:=hd0 j oV;refine Au2 fun hx=>hn ?_;have:d j=0:=by grind
   rw[this];grind
  have hdj1:=hgap j oV hdj;rcases hsg n with e1|e1<;>rcases hsg j with e2|e2
  ·simp only[qsg];rw[e1,e2,T7 (q:=1*1*d j) (by grind),Qe (q:=1 * -1*d (j+1)) (by grind)];exact⟨by grind,rfl⟩
  ·simp only[qsg];rw[e1,e2,Qe (q:=1 * -1*d j) (by grind),T7 (q:=1 * - -1*d (j+1)) (by grind)];exact⟨by grind,rfl⟩
  ·simp only[qsg];rw[e1,e2,Qe (q:=-1*1*d j) (by grind),T7 (q:=-1 * -1*d (j+1)) (by grind)];exact⟨by grind,rfl⟩
  ·simp only[qsg];rw[e1,e2,T7 (q:=-1 * -1*d j) (by grind),Qe (q:=-1 * - -1*d (j+1)) (by grind)];exact⟨by grind,rfl⟩
 unfold C7;rw[Aag];omega
end
section
variable {i:Nat}
theorem Wf {P:List Par}(hnd:P.Nodup)(g:Par->Rat->Rat)(y:Nat->Rat):C3 (fun p=>g p (y (P.idxOf p))) P=Aj P.length fun i=>g (P.getD i Cd) (y i):=by
 have h:∀ k,k<=P.length->C3 (fun p=>g p (y (P.idxOf p))) (P.take k)=Aj k fun i=>g (P.getD i Cd) (y i):=fun k=>by
  induction k with
  |zero=>intro _;rfl
  |succ k ih =>
   intro hk;have hk':k<P.length:=oV
   rw[At0,As5 hk'];show C3 _ (P.take k++[P[k]])=_;rw[Ahm,ih oV,Aj];have e1:P.idxOf P[k]=k:=List.Nodup.idxOf_getElem hnd k hk';have e2:P.getD k Cd=P[k]:=by rw[As7,As5 hk'];rfl
   rw[e1,e2]
 have:=h P.length (Atb _);rwa[At9]at this
def Ev (C:CF)(p q:Par):Rat:=C.t (A5 p q)/C.c-C.s p/C.c*(C.s q/C.c)
def Cs (C:CF)(P:List Par):List (List Rat):=P.map fun p=>P.map fun q=>Ev C p q
section
variable {C:CF} {P:List Par}
theorem Agx (hi:i<P.length):gM (Cs C P) i=P.map fun q=>Ev C (P.getD i Cd) q:=by
 unfold Cs gM;rw[As7,Aty,As5 hi,As7,As5 hi];rfl
theorem Rz:Rec P.length P.length (Cs C P):=⟨by simp[Cs],fun i hi=>by rw[Agx hi];simp⟩
theorem N9 {i k:Nat}(hi:i<P.length)(hk:k<P.length):en (Cs C P) i k=Ev C (P.getD i Cd) (P.getD k Cd):=by
 unfold en;rw[Agx hi];unfold gR;rw[As7,Aty,As5 hk,As7 (l:=P) (i:=k),As5 hk];rfl
theorem Aio (p q:Par)(h:A5 p q=A5 q p):Ev C p q=Ev C q p:=by
 unfold Ev;rw[h];grind
theorem Afm:M4 P.length (en (Cs C P)):=fun i k hi hk=>by
 rw[N9 hi hk,N9 hk hi];exact Aio _ _ (T8 _ _)
theorem Aec (hnd:P.Nodup)(y:Nat->Rat)(m:Rat):Iv (fun e=>match e with|none=>m|some p=>y (P.idxOf p)) P C =
 C.c*m*m+2*m*(Aj P.length fun i=>C.s (P.getD i Cd)*y i)+Aj P.length fun i=>y i*Aj P.length fun k=>C.t (A5 (P.getD i Cd) (P.getD k Cd))*y k:=by
 unfold Iv Ahv;have hin:∀ e:Option Par,C3 (fun f=>(match e with|none=>m|some p=>y (P.idxOf p))*Gi C e f*(match f with|none=>m|some p=>y (P.idxOf p))) (none::P.map some) =
  (match e with|none=>m|some p=>y (P.idxOf p))*(Gi C e none*m+Aj P.length fun k=>Gi C e (some (P.getD k Cd))*y k):=fun e=>by
  rw[C3,Ph,Wf hnd (fun p z=>(match e with|none=>m|some p=>y (P.idxOf p))*Gi C e (some p)*z) y,Rat.mul_add,<-Bj]
  congr 1
  ·grind
  ·exact Af fun k _=>by grind
 rw[Gr fun e _=>hin e,C3,Ph];have h2:=Wf hnd (fun p z=>z*(Gi C (some p) none*m+Aj P.length fun k=>Gi C (some p) (some (P.getD k Cd))*y k)) y;rw[show C3 (fun p=>(match (some p:Option Par) with|none=>m|some p=>y (P.idxOf p))*(Gi C (some p) none*m+Aj P.length fun k=>Gi C (some p) (some (P.getD k Cd))*y k)) P=_ from h2];have e3:(Aj P.length fun i=>y i*(Gi C (some (P.getD i Cd)) none*m+Aj P.length fun k=>Gi C (some (P.getD i Cd)) (some (P.getD k Cd))*y k))=m*(Aj P.length fun i=>C.s (P.getD i Cd)*y i)+Aj P.length fun i=>y i*Aj P.length fun k=>C.t (A5 (P.getD i Cd) (P.getD k Cd))*y k:=by
  rw[<-Bj,<-B2];refine Af fun i _=>?_;show y i*(C.s (P.getD i Cd)*m+Aj P.length fun k=>C.t (A5 (P.getD i Cd) (P.getD k Cd))*y k)=_;grind
 rw[e3];show m*(C.c*m+Aj P.length fun k=>C.s (P.getD k Cd)*y k)+_=_;grind
theorem Afk (hnd:P.Nodup)(hc:0<C.c)(hp:∀ z,0<=Iv z P C):O4 P.length (en (Cs C P)):=fun y=>by
 have h1:=hp fun e=>match e with|none=>-(Aj P.length fun i=>C.s (P.getD i Cd)*y i)/C.c|some p=>y (P.idxOf p)
 rw[Aec hnd]at h1;have e:rfm P.length (en (Cs C P)) y=(Aj P.length fun i=>y i*Aj P.length fun k=>C.t (A5 (P.getD i Cd) (P.getD k Cd))*y k)/C.c + -((Aj P.length fun i=>C.s (P.getD i Cd)*y i)/C.c*((Aj P.length fun i=>C.s (P.getD i Cd)*y i)/C.c)):=by
  unfold rfm;generalize hS:(Aj P.length fun i=>C.s (P.getD i Cd)*y i)=S;rw[Af (g:=fun i=>(1/C.c)*(y i*Aj P.length fun k=>C.t (A5 (P.getD i Cd) (P.getD k Cd))*y k)+(-(S/C.c)/C.c)*(C.s (P.getD i Cd)*y i)) fun i hi=>by
   rw[Af (g:=fun k=>(1/C.c)*(C.t (A5 (P.getD i Cd) (P.getD k Cd))*y k)+(-(C.s (P.getD i Cd)/C.c)/C.c)*(C.s (P.getD k Cd)*y k)) fun k hk=>by
    rw[N9 hi hk];unfold Ev;grind,B2,Bj,Bj,hS]
   grind,B2,Bj,Bj,hS]
  grind
 rw[e];generalize (Aj P.length fun i=>C.s (P.getD i Cd)*y i)=S at *
 generalize (Aj P.length fun i=>y i*Aj P.length fun k=>C.t (A5 (P.getD i Cd) (P.getD k Cd))*y k)=Q at *
 have e2:C.c*(-S/C.c)*(-S/C.c)+2*(-S/C.c)*S+Q=(Q/C.c + -(S/C.c*(S/C.c)))*C.c:=by grind
 rw[e2]at h1;refine Au2 fun hn=>?_;have h3:0 < -(Q/C.c + -(S/C.c*(S/C.c))):=by grind
 have:=Rat.mul_pos h3 hc;grind
end
end
section
variable {F:CF}{N:Nat}{q:Rat}{u:PH}{v:Value}
theorem Afq (p:Par)(h:Ahz u v F N):Fn0 prog 41 [v,A3 p] u fun r u'=>An u' r (F.s p):=by
 obtain⟨b,a,n,c,b',a',n',c',g1,g2,o1,o2,rfl,hc,e1,e2,h1,h2⟩:=h;obtain⟨l,ho,hl,hz,_⟩:=h1.at;refine Fn0.o func41 ?_;cases hx:Ft p l with
 |none =>
  refine G.mapNot (et:=103) Dr fz g1 o1 l p kV kV (.inl e1) ho hx ?_;refine G.c call56 (Dk (z:=0) oV oV) ?_;intro v1 u1 l1 k1;rw[hz p (Gp.1 hx)];rw[show ((0:Int):Rat)=0 by decide +kernel]at k1;obtain⟨b1,a1,n1,c1,b1',a1',n1',c1',rfl⟩:=k1.opn;exact G.r (.agg #[.bool b1,.slice a1 n1 c1,.bool b1',.slice a1' n1' c1']) ⟨rfl,k1⟩
 |some xv =>
  have hr:=(hl _ (Hz hx)).1;obtain⟨b1,a1,n1,c1,b1',a1',n1',c1',rfl⟩:=hr.opn;refine G.mapHas (et:=103) Dr fz g1 o1 l p (.agg #[.bool b1,.slice a1 n1 c1,.bool b1',.slice a1' n1' c1']) kV kV (.inl e1) ho hx ?_;exact G.r (.agg #[.bool b1,.slice a1 n1 c1,.bool b1',.slice a1' n1' c1']) ⟨rfl,hr⟩
theorem Ajd (p q:Par)(h:Ahz u v F N):Fn0 prog 38 [v,A3 p,A3 q] u fun r u'=>An u' r (F.t (A5 p q)):=by
 obtain⟨b,a,n,c,b',a',n',c',g1,g2,o1,o2,rfl,hc,e1,e2,h1,h2⟩:=h;obtain⟨l,ho,hl,hz,_⟩:=h2.at;refine Fn0.o func38 ?_;refine G.c call98 (Ask p q) ?_;rintro v0 u0 l0 rfl;cases hx:Ft (A5 p q) l with
 |none =>
  refine G.mapNot (et:=103) Akj fz g2 o2 l (A5 p q) kV kV (.inl (l0 _ _ e2)) ho hx ?_;refine G.c call56 (Dk (z:=0) oV oV) ?_;intro v1 u1 l1 k1;rw[hz _ (Gp.1 hx)];rw[show ((0:Int):Rat)=0 by decide +kernel]at k1;obtain⟨b1,a1,n1,c1,b1',a1',n1',c1',rfl⟩:=k1.opn;exact G.r (.agg #[.bool b1,.slice a1 n1 c1,.bool b1',.slice a1' n1' c1']) ⟨rfl,k1⟩
 |some xv =>
  have hr:=(hl _ (Hz hx)).1;obtain⟨b1,a1,n1,c1,b1',a1',n1',c1',rfl⟩:=hr.opn;refine G.mapHas (et:=103) Akj fz g2 o2 l (A5 p q) (.agg #[.bool b1,.slice a1 n1 c1,.bool b1',.slice a1' n1' c1']) kV kV (.inl (l0 _ _ e2)) ho hx ?_;exact G.r (.agg #[.bool b1,.slice a1 n1 c1,.bool b1',.slice a1' n1' c1']) ⟨rfl,hr.mono l0⟩
theorem S4 (h:Tx q):Fn0 prog 36 [.string (mkS (Ap q))] u fun v _=>v=.int .i64 (sgn q.num):=by
 refine Fn0.o func36 ?_;refine G.c call47 (Fn h) ?_;rintro v1 u1 l1 rfl;refine G.c call54 (Ep h) ?_;intro v2 u2 l2 k2;obtain⟨b1,a1,n1,c1,b1',a1',n1',c1',rfl⟩:=k2.opn;refine G.c call96 (W1 k2 (As9 h.sz.1 oV)) ?_;rintro v3 u3 l3 rfl;exact G.r _ ⟨rfl,rfl⟩
theorem Amk (h:Tx q):Fn0 prog 15 [.string (mkS (Ap q))] u fun v _=>v=.int .i64 (sgn q.num):=by
 refine Fn0.o func15 ?_;refine G.c call59 (Hw h) ?_;rintro v1 u1 l1 rfl;refine G.c call17 (Tk h) ?_;intro v3 u3 l3 k3;obtain⟨b3,a3,n3,c3,a3',n3',c3',rfl,_⟩:=k3.opn;refine G.c call60 (Akg k3 (As9 h.sz.1 oV)) ?_;rintro v6 u6 l6 rfl;exact G.r _ ⟨rfl,rfl⟩
end
section
variable {C:CF}{k:Nat}
structure M5 (C:CF)(k:Nat):Prop where
 c:C.c=(k:Rat)
 lt:k<100
 s:∀ p,De 75 18 (C.s p)
 t:∀ p,De 75 18 (C.t p)
theorem M5.tx {C:CF}{k:Nat}(h:M5 C k):Tx C.c:=by
 rw[h.c];exact (De.nat (a:=2) (by have:=h.lt;omega)).tx oV oV oV oV
theorem M5.cpos (h:M5 C k)(h0:k≠0):0<C.c:=by
 rw[h.c];have h1:=Adr k;refine Rat.lt_of_le_of_ne h1 fun e=>N7 (D:=k) oV e.symm
theorem M5.cne (h:M5 C k)(h0:k≠0):C.c≠0:=by
 rw[h.c];exact N7 oV
theorem M5.csz (h:M5 C k):Sz C.c 1000:=h.tx.sz.mono oV
theorem M5.mean (h:M5 C k)(h0:k≠0)(p:Par):De 75 20 (C.s p/C.c):=by
 rw[h.c];exact (h.s p).divn (n:=k) (m:=2) oV (by have:=h.lt;omega)
theorem M5.tn (h:M5 C k)(h0:k≠0)(p:Par×Par):De 75 20 (C.t p/C.c):=by
 rw[h.c];exact (h.t p).divn (n:=k) (m:=2) oV (by have:=h.lt;omega)
def Asw (C:CF)(p q:Par):Rat:=C.t (A5 p q)/C.c-C.s p/C.c*(C.s q/C.c)
theorem M5.cov (h:M5 C k)(h0:k≠0)(p q:Par):De 171 60 (Asw C p q) :=
 (h.tn h0 _).sub ((h.mean h0 p).mul (h.mean h0 q)) (f:=170) oV oV
theorem De.s1000 {a b:Nat}{q:Rat}(h:De a b q)(ha:0<a)(ha2:a<=400)(hb:0<b)(hb2:b<=400):Sz q 1000000000000:=(h.szn ha ha2 hb hb2).mono oV
end
section
variable {N d:Nat}{q:Rat}
theorem Dn.lift (j:Nat)(h:Dn d N q):Dn (d+j) (N*12^j) q:=by
 obtain⟨k,e,hk⟩:=h;refine⟨k*((12^j:Nat):Int),?_,?_⟩
 ·rw[Av9,Au6,<-e,Nat.pow_add,Awt];grind
 ·rw[Au7];exact Ats _ hk
theorem Dn.to {d e N M:Nat}(h:Dn d N q)(h1:d<=e)(h2:N*12^(e-d)<=M):Dn e M q:=by
 have:=h.lift (e-d);rw[show d+(e-d)=e by omega]at this;exact this.mono h2
end
section
open Go.RowKit Go.MapKept Go.Shelf Go.Sort
variable {L:List Par}
theorem Ou (L:List Par):Aw (L.map A3)=L.flatMap Bv:=by
 unfold Aw;rw[List.flatMap_map];rfl
theorem Er (L:List Par):(L.flatMap Bv).length=L.length*2:=by
 induction L with
 |nil=>rfl
 |cons x L ih=>rw[Azl,Atg,ih,Ky,Auh,At2];omega
theorem Zh {L L':List Par}(hl:L'.length=L.length)(rest:List Value):putCells id 0 (flatK Bv 2 L'.toArray) (L.flatMap Bv++rest).toArray=(L'.flatMap Bv++rest).toArray:=by
 have h1:=Er L;have h2:=Er L';have hs:(flatK Bv 2 L'.toArray).size=L'.length*2:=by rw[size_flatK];simp
 apply Array.ext_getElem?;intro t;unfold putCells;rw[Array.getElem?_mapIdx,Avh,Avh,hs];by_cases ht:t<L'.length*2
 ·rw[Atl oV,Atl oV,Nw Ky L' t ht];have:(L.flatMap Bv)[t]?=some (L.flatMap Bv)[t]:=As5 oV;rw[this];simp only[Awh,Atu,Aud,true_and,if_pos ht,id,Nat.sub_zero];rw[get_flatK Bv 2 _ t (by simpa using ht)]
 ·rw[At1 oV,At1 oV,h1,h2,hl];cases hr:rest[t-L.length*2]? with
  |none=>rfl
  |some x =>
   simp only[Awh,Atu,Aud,true_and];rw[if_neg oV]
theorem Abi (L:List Par):Ax 2 (L.map A3):=by
 intro e he;obtain⟨x,_,rfl⟩:=Ate.1 he;exact⟨rfl,fun y hy=>by simp[A3,Atw]at hy;rcases hy with rfl|rfl<;>rfl⟩
theorem Al8 {u m0 m:PH}{v:Value}(hA:Ae m0 m v 110 2 (L.map A3))(hnd:L.Nodup)(hl:L.length<=1000000) :
 Ak prog 94 [v,.func (.func 95) #[] #[]] u m fun r u' m'=>r=.tuple #[]/\Ae m0 m' v 110 2 ((Ee Bd L).map A3):=by
 have hp:=G5 (c:=Bd) L;have hpl:(Ee Bd L).length=L.length:=hp.length_eq;intro w hg;obtain⟨hok,h⟩:=hA;rcases h with ⟨rfl,he,rfl⟩|⟨g,cap,rest,hm0,rfl,rfl,hcap,hlen,hrest⟩
 ·have hL:L = []:=by simpa using he
  subst hL;refine (AnyF.slices_SortFunc_none Tryz.sortPar none 0 _ w).mono ?_;rintro e w' ⟨rfl,rfl⟩;exact⟨_,u,m,rfl,hg,⟨Atb _,fun _ _ _=>rfl,fun _ _=>rfl,fun _ _ h=>h,⟨rfl,rfl⟩,fun f=>f.elim⟩,rfl,by
   have e:Ee Bd ([]:List Par) = []:=A1b.1 hpl;rw[e];exact Ae.nil _ _ _⟩
 ·rw[Ata]at hcap⊢;rw[Ou]at hlen hg;have hgb:w.heap[g]?=some (.cells (L.flatMap Bv++rest).toArray 110 (0,0)):=hg.pm g _ (Ab _ _ _);have hH:HoldsK Bv 2 w g 0 L.toArray:=Ai4 (enc:=Bv) (k:=2) Ky hgb (by
   show (L.flatMap Bv++rest).take (L.length*2)=_;rw[List.take_append_of_le_length (by rw[Er];omega),List.take_of_length_le (by rw[Er];omega)])
  have hgl:g<w.heap.size:=B0 hgb;have hcon:=AnyQ.slices_SortFunc_total Tryz.sortPar 2 (fun w=>kV) (fun w=>kV) Bv (fun _=>rfl) (fun x v hv=>by simp at hv;rcases hv with rfl|rfl<;>rfl) Bd Fr.swo 95 #[] g 0 cap L.toArray w call95 (Ads g 0 _ w) hH hgl gV Fr.tot
  change Calls prog 94 _ _ _ at hcon;simp only[List.size_toArray]at hcon;refine Calls.mono hcon ?_;rintro e w' ⟨rfl,nn,os,rfl⟩;change Aos _ _ _ (sortWorldK Bv 2 w g 0 nn (Ee Bd L).toArray os);obtain⟨w',hw'⟩:∃ w',w'=sortWorldK Bv 2 w g 0 nn (Ee Bd L).toArray os:=⟨_,rfl⟩;have hheap:w'.heap=w.heap.modify g (onCells (putCells id 0 (flatK Bv 2 (Ee Bd L).toArray)))++os:=by rw[hw'];rfl
  have hos:w'.os=w.os/\w'.output=w.output:=by rw[hw'];exact⟨rfl,rfl⟩
  rw[<-hw'];have hsz:w.heap.size<=w'.heap.size:=by rw[hheap,Array.size_append,A0u];omega
  have hold:∀ k,k<w.heap.size->k≠g->w'.heap[k]?=w.heap[k]?:=fun k hk hne=>by
   rw[hheap,Axr (by rw[A0u];exact hk),Az1,if_neg (fun e=>hne e.symm)]
  have hnew:w'.heap[g]?=some (.cells ((Ee Bd L).flatMap Bv++rest).toArray 110 (0,0)):=by
   rw[hheap,Axr (by rw[A0u];exact hgl),Az1,if_pos rfl,hgb];show some (Obj.cells (putCells id 0 _ _) _ _)=_;rw[Zh hpl]
  have hug:u g=none:=(hg.ap g).resolve_right (by rw[Ab];simp);have hpar:=Abi (Ee Bd L);refine⟨_,fun k=>if k<w.heap.size then u k else w'.heap[k]?,m0.upd g (.cells (Aw ((Ee Bd L).map A3)++rest).toArray 110 (0,0)),rfl,⟨?_,?_,?_,?_⟩,⟨hsz,?_,?_,?_,hos,fun f=>f.elim⟩,rfl,hpar,.inr ⟨g,cap,rest,hm0,rfl,by rw[Ata,hpl],by rw[Ata,hpl];exact hcap,?_,hrest⟩⟩
  ·intro k o hk;simp only at hk;split at hk
   ·rename_i hlt;have hne:k≠g:=fun e=>by subst e;rw[hug]at hk;cases hk
    rw[hold k hlt hne];exact hg.pu k o hk
   ·exact hk
  ·intro k o hk;by_cases e:k=g
   ·subst e;rw[Ab]at hk;cases hk;rw[hnew,Ou]
   ·rw[Ac _ _ e]at hk;have:=hg.pm k o (by rw[Ac _ _ e];exact hk);rw[hold k (B0 this) e];exact this
  ·intro k;simp only;by_cases hlt:k<w.heap.size
   ·rw[if_pos hlt];rcases hg.ap k with h|h
    ·exact .inl h
    ·by_cases e:k=g
     ·subst e;rw[Ab]at h;cases h
     ·right;rw[Ac _ _ e]at h⊢;exact h
   ·right;have e:k≠g:=fun e=>oV
    rw[Ac _ _ e];have:=hg.pm.none (g:=k) (by show w.heap.size<=k;omega);rw[Ac _ _ e]at this;exact this
  ·intro k cs t fr j z hk hj;simp only;by_cases hlt:k<w.heap.size
   ·rw[if_pos hlt];by_cases e:k=g
    ·subst e;rw[hnew]at hk;cases hk;exfalso;have hmem:Value.int .u64 z∈(Ee Bd L).flatMap Bv++rest:=by
      rw[Avh]at hj;exact Ato hj
     have hall:∀ x∈(Ee Bd L).flatMap Bv++rest,Bh x=true:=fun x hx=>by
      rcases Ati.1 hx with h|h
      ·rw[<-Ou]at h;exact E7 hpar x h
      ·exact hrest x h
     have:=hall _ hmem;cases this
    ·rw[hold k hlt e]at hk;exact hg.cl k cs t fr j z hk hj
   ·rw[if_neg hlt];exact hk
  ·intro k hk hmk;refine hold k hk fun e=>?_;subst e;simp only at hmk;rw[Ab]at hmk;cases hmk
  ·intro k hk;simp only;exact if_pos hk
  ·intro k hk hmk;by_cases e:k=g
   ·subst e;simp only at hmk;rw[Ab]at hmk;cases hmk
   ·simp only at hmk;rw[Ac _ _ e]at hmk⊢;exact hmk
  ·rw[Ou,Atg,Er,hpl];rw[Atg,Er]at hlen;exact hlen
end
section
variable {F:List Aq}{R:List Ch}{T:List (List UInt8×Nat)}{lab:Int}{n:Nat}{u:PH}{v:Value}
def Aa3 (F:List Aq)(lab:Int)(p:Par):Prop:=(p.1 = -1/\0<=lab/\p.2 = [])\/(∃ (k:Nat) (f:Aq),p.1=(k:Int)/\F[k]?=some f/\(f.2.1=2\/p.2 = []))
theorem Aj4 {p:Par}(hX:Ir u v T R F lab)(ok:Bz u T R F lab)(hp:Aa3 F lab p) :
 Fn0 prog 92 [v,A3 p] u fun r _=>r=.bool true:=by
 obtain⟨xa,xc,xb,xd,xe,xf,rfl,hTL,hRL,hFL⟩:=hX;have hf8:=ok.f2;refine Fn0.o func92 ?_;rcases hp with ⟨h1,h2,h3⟩|⟨k,f,h1,hf,h3⟩
 ·refine G.eT' p.1 (-1) h1 ?_;refine G.hT' lab 0 h2 ?_;refine G.q p.2 [] h3 ?_;exact G.r (.bool true) ⟨rfl,rfl⟩
 ·obtain⟨p1,p2⟩:=p;simp only at h1 h3;subst h1;have hk:=(Atc.1 hf).1;obtain⟨bb,ob,rfl,eb⟩:=Ad.at' hFL (j:=k) (e:=Ce f) (by simp[hf]);obtain⟨f1,f2,f3⟩:=f;simp only at h3;refine G.eF (k:Int) (-1) ?_;refine G.hF (k:Int) (F.length:Int) ?_;refine G.a bb ob F.length xf k 3 hk ?_;refine G.f 82 bb (ob+k*3) 1 1 ?_;refine G.lU none bb (ob+k*3+1) (.int .i64 (f2:Int)) (eb.fld (j:=1) (xs:=#[.int .i64 (f1:Int),.int .i64 (f2:Int),.int .i64 (f3:Int)]) rfl rfl) ?_;by_cases h2:f2=2
  ·refine G.eT (f2:Int) 2 ?_;exact G.r (.bool true) ⟨rfl,rfl⟩
  ·refine G.eF (f2:Int) 2 ?_;refine G.q p2 [] (h3.resolve_left h2) ?_;exact G.r (.bool true) ⟨rfl,rfl⟩
theorem An0 {u m:PH}{b:Nat}{x:Par×Rat}(hb:ElP m b 0 v)(hX:Ir u v T R F lab)(ok:Bz u T R F lab)(hp:Aa3 F lab x.1) :
 FnK prog 91 [Bk x,.pointer (some ⟨b,0,none⟩)] u m fun v _=>v=.bool false:=by
 have hbel:=Aj4 hX ok hp;obtain⟨xa,xc,xb,xd,xe,xf,rfl,hTL,hRL,hFL⟩:=hX;refine FnK.of func91 kV kV ?_;refine G.lM (some 4) b 0 (.agg #[.slice xa T.length xc,.slice xb R.length xd,.slice xe F.length xf,.int .i64 lab]) hb ?_;refine G.c call92 hbel ?_;rintro v1 u1 l1 rfl;exact G.r (.bool false) ⟨rfl,rfl⟩
theorem Ai9 {u m:PH}{v cap:Value}{T:List (Par×Rat)}{fid:Nat}(h:Ad u v 3 (T.map Bk))(hl:T.length<=1000000)
 (hcall:∀ args w,(callFunc fid args).run prog w=.ok (.enter fid args) w) (hf:∀ p∈T,∀ u',PH.le u u'->FnK prog fid [Bk p,cap] u' m fun v _=>v=.bool false) :
 FnK prog 155 [v,.func (.func fid) #[] #[cap]] u m fun v' _=>v'=.int .i64 (-1):=by
 obtain⟨a,c,rfl⟩:=h.opn;rw[Ata]at h⊢;refine FnK.of func155 kV kV ?_;refine G.l (ι:=Nat) (fun i=>[(0,sV a T.length c),(1,.v (.func (.func fid) #[] #[cap])),(7,iV T.length),(8,iV i)]) (fun _=>[])
  (fun i u' m'=>i<=T.length/\m'=m) (fun i=>T.length-i) 0 ⟨oV,rfl⟩ ?_
 rintro J i hJ u1 m1 l1 ⟨hi,rfl⟩;by_cases hlt:i<T.length
 ·refine G.lT (i:Int) (T.length:Int) ?_;have hTi:T[i]?=some T[i]:=As5 hlt;obtain⟨ba,oa,rfl,ea⟩:=Ad.at' (h.mono l1) (j:=i) (e:=Bk T[i]) (by simp[hTi]);refine G.a ba oa T.length c i 3 oV ?_;refine G.lU (some 3) ba (oa+i*3) (Bk T[i]) ea ?_;refine G.callK fid [Bk T[i],cap] kV hcall (hf T[i] (Ath hlt) u1 l1) ?_;rintro v2 u2 l2 rfl;refine G.i i ?_;exact G.b (hJ (i+1) _ _ _ cV (l1.trans l2) ⟨oV,rfl⟩ oV)
 ·obtain rfl:i=T.length:=oV
  refine G.lF (T.length:Int) (T.length:Int) ?_;exact G.r (.int .i64 (-1)) ⟨rfl,rfl⟩
theorem Abm {u m:PH}{v cap:Value}{T:List (Par×Rat)}{fid:Nat}(h:Ad u v 3 (T.map Bk))(hl:T.length<=1000000)
 (hcall:∀ args w,(callFunc fid args).run prog w=.ok (.enter fid args) w) (hf:∀ p∈T,∀ u',PH.le u u'->FnK prog fid [Bk p,cap] u' m fun v _=>v=.bool false) :
 FnK prog 90 [v,.func (.func fid) #[] #[cap]] u m fun v' _=>v'=.bool false:=by
 obtain⟨a,c,rfl⟩:=h.opn;refine FnK.of func90 kV kV ?_;refine G.callK _ _ kV call155 (Ai9 h hl hcall hf) ?_;rintro v1 u1 l1 rfl;refine G.hF (-1) 0 ?_;exact G.r (.bool false) ⟨rfl,rfl⟩
def C8 (F:List Aq)(n:Nat):List Nat:=(At3 n).filter fun i=>(F.getD i (0,0,0)).2.1==1
theorem Ait {f:Aq}(hf:F[n]?=some f):C8 F (n+1)=if f.2.1=1 then C8 F n++[n] else C8 F n:=by
 unfold C8;rw[Ayh,A2l];have e:(F.getD n (0,0,0))=f:=by simp[As7,hf]
 by_cases h:f.2.1=1
 ·rw[if_pos h,List.filter_cons_of_pos (by rw[e];simp[h])];rfl
 ·rw[if_neg h,List.filter_cons_of_neg (by rw[e];simp[h])];simp
theorem Abw (F:List Aq)(n:Nat):(C8 F n).length<=n:=by
 unfold C8;exact As9 (Aw8 _ _) mV
theorem Ul {n i:Nat}:i∈C8 F n↔i<n/\(F.getD i (0,0,0)).2.1=1:=by
 unfold C8;simp[Axo]
theorem Aek (F:List Aq)(n:Nat):(C8 F n).Nodup:=List.nodup_range.filter _
theorem Z1 (hX:Ir u v T R F lab)(ok:Bz u T R F lab) :
 Fn0 prog 93 [v] u fun r u'=>Ad u' r 1 (Ah (C8 F F.length)):=by
 have hck:=All hX ok;obtain⟨xa,xc,xb,xd,xe,xf,rfl,hTL,hRL,hFL⟩:=hX;have hf8:=ok.f2;refine Fn0.o func93 ?_;refine G.c call88 hck ?_;rintro v1 u1 l1 rfl;refine G.nF 0 0 ?_;refine G.l (ι:=Nat×(Option Addr×Nat)) (fun i=>[(3,sV i.2.1 (C8 F i.1).length i.2.2),(10,sV xe F.length xf),(11,iV F.length),(12,iV i.1)]) (fun _=>[])
  (fun i u' m'=>i.1<=F.length/\Ae PH.mt m' (.slice i.2.1 (C8 F i.1).length i.2.2) 3 1 (Ah (C8 F i.1))) (fun i=>F.length-i.1) (0,(none,0)) ⟨oV,Ae.nil _ _ _⟩ ?_
 rintro J ⟨i,⟨na,nc⟩⟩ hJ u2 m2 l2 ⟨hi,hA⟩;simp only at hi hA hJ;have le2:=l1.trans l2;have hnl:=Abw F i;by_cases hlt:i<F.length
 ·refine G.lT (i:Int) (F.length:Int) ?_;obtain⟨f,hFi⟩:∃ f,F[i]?=some f:=⟨_,As5 hlt⟩;have hs:=Ait hFi;obtain⟨fb,fo,rfl,ef⟩:=Ad.at' (hFL.mono le2) (j:=i) (e:=Ce f) (by simp[hFi]);obtain⟨p1,p2,p3⟩:=f;simp only at hs;refine G.a fb fo F.length xf i 3 hlt ?_;refine G.lU (some 3) fb (fo+i*3) (.agg #[.int .i64 (p1:Int),.int .i64 (p2:Int),.int .i64 (p3:Int)]) ef ?_;by_cases h1:p2=1
  ·rw[if_pos h1]at hs;refine G.eT (p2:Int) 1 ?_;refine G.buildU 3 1 8 (.int .i64 0) (Ah [i]) kV (Az [i]) rfl oV (by simp[Ah]) (by simp[Ah]) ?_;intro g3 u3 l3 e3;refine G.append 3 1 8 (.int .i64 0) PH.mt (Ah (C8 F i)) (Ah [i]) (.slice na (C8 F i).length nc) g3 0 1 1 kV rfl rfl oV hA e3 (Az [i]) rfl oV (by simp[Ah];omega) (by simp[Ah];omega) ?_;intro v4 m4 hA4;have e4:Ah (C8 F i)++Ah [i]=Ah (C8 F (i+1)):=by rw[hs];simp[Ah]
   rw[e4]at hA4;obtain⟨a4,c4,rfl⟩:=hA4.shape;have e5:(Ah (C8 F (i+1))).length=(C8 F (i+1)).length:=by simp[Ah]
   rw[e5]at hA4⊢;refine G.i i ?_;exact G.b (hJ (i+1,(a4,c4)) _ _ _ cV (l2.trans l3) ⟨dV,hA4⟩ dV)
  ·rw[if_neg h1]at hs;refine G.eF (p2:Int) 1 ?_;refine G.i i ?_;rw[<-hs]at hA⊢;exact G.b (hJ (i+1,(na,nc)) _ _ _ cV l2 ⟨dV,hA⟩ dV)
 ·obtain rfl:i=F.length:=oV
  refine G.lF (F.length:Int) (F.length:Int) ?_;refine G.give _ _ _ kV hA (fun g=>.inl rfl) ?_;intro u3 l3 hL;exact G.r (.slice na (C8 F F.length).length nc) ⟨rfl,hL⟩
end
section
open Go.RowKit Go.MapKept Go.Sort
variable {A:List (Par×Rat)}{C:CF}{F:List Aq}
def M9 (F:List Aq)(p:Par):Bool:=decide (0<=p.1)&&(F.getD p.1.toNat (0,0,0)).2.1==2
def Ia (F:List Aq)(A:List (Par×Rat))(n:Nat):List Par:=((A.take n).map (·.1)).filter (M9 F)
theorem Ag4 {n:Nat}{x:Par×Rat}(h:A[n]?=some x):Ia F A (n+1)=if M9 F x.1=true then Ia F A n++[x.1] else Ia F A n:=by
 unfold Ia;have e:A.take (n+1)=A.take n++[x]:=by rw[At0,h];rfl
 by_cases hh:M9 F x.1=true
 ·grind
 ·grind
theorem Al2 (F:List Aq)(A:List (Par×Rat))(n:Nat):(Ia F A n).length<=A.length:=by
 refine As9 (Aw8 _ _) ?_;rw[Ata,Atm];omega
def Jo (i:Nat):Par:=((i:Int),[])
def I7 (F:List Aq):List Par:=(C8 F F.length).map Jo
theorem I2 (p:Par):Ax 2 [A3 p]:=Abi [p]
theorem Z2 (hA:(A.map (·.1)).Nodup):(I7 F++Ia F A A.length).Nodup:=by
 refine Awq.2 ⟨?_,?_,?_⟩
 ·refine List.Pairwise.map _ (fun a b hne e=>?_) (Aek F F.length);unfold Jo at e;simp only[Aun]at e;exact hne oV
 ·unfold Ia;rw[At9];exact hA.filter _
 ·intro a ha b hb e;subst e;obtain⟨i,hi,rfl⟩:=Ate.1 ha;have h2:=(Axo.1 hb).2;unfold M9 Jo at h2;simp only[Bool.and_eq_true,beq_iff_eq,Avo]at h2;have h1:=(Ul.1 hi).2;omega
theorem Aik (hA:Can Bd C.s A){p:Par}:p∈I7 F++Ia F A A.length↔(∃ (i:Nat) (f:Aq),p=Jo i/\F[i]?=some f/\f.2.1=1)\/(C.s p≠0/\∃ (i:Nat) (f:Aq),p.1=(i:Int)/\F[i]?=some f/\f.2.1=2):=by
 have hmem:p∈A.map (·.1)↔C.s p≠0:=by
  constructor
  ·intro h;obtain⟨x,hx,rfl⟩:=Ate.1 h;obtain⟨h1,h2⟩:=hA.val x hx;rw[<-h1];exact h2
  ·intro h;exact Au2 fun hh=>h (hA.out p hh)
 rw[Ati];refine or_congr ?_ ?_
 ·unfold I7;rw[Ate];constructor
  ·rintro⟨i,hi,rfl⟩;obtain⟨h1,h2⟩:=Ul.1 hi;refine⟨i,F[i],rfl,As5 h1,?_⟩;rw[As7,As5 h1,Awo]at h2;exact h2
  ·rintro⟨i,f,rfl,hf,h1⟩;refine⟨i,Ul.2 ⟨(Atc.1 hf).1,?_⟩,rfl⟩;rw[As7,hf,Awo];exact h1
 ·unfold Ia;unfold M9;constructor
  ·grind
  ·grind
abbrev Uf (F:List Aq)(C:CF)(L:List Par):Prop :=
 Hk Bd L/\∀ p,p∈L↔(∃ (i:Nat) (f:Aq),p=Jo i/\F[i]?=some f/\f.2.1=1)\/(C.s p≠0/\∃ (i:Nat) (f:Aq),p.1=(i:Int)/\F[i]?=some f/\f.2.1=2)
theorem Uf.eq {L L':List Par}(h:Uf F C L)(h':Uf F C L'):L=L' :=
 Acb Fr h.1 h'.1 fun p=>(h.2 p).trans (h'.2 p).symm
def Ary (u:PH)(r:Value)(F:List Aq)(C:CF):Prop :=
 (r=.tuple #[.slice none 0 0,.int .i64 3]/\∃ L,24<L.length/\Uf F C L)\/∃ (ps:Value) (L:List Par),r=.tuple #[ps,.int .i64 0]/\Ad u ps 2 (L.map A3)/\L.length<=24/\Uf F C L
theorem Ny {u:PH}{v w:Value}{T:List (List UInt8×Nat)}{R:List Ch}{lab:Int}{K:Nat}(hX:Ir u v T R F lab)(ok:Bz u T R F lab)(hC:Lw u w C K)(sC:CFS C)(vC:CFV C)(hK:K<=100000)(hb:∀ p,C.s p≠0->Aa3 F lab p) :
 Fn0 prog 35 [v,w] u fun r u'=>Ary u' r F C:=by
 have hck:=fun (u':PH) (l:PH.le u u')=>All (hX.mono l) (ok.mono l);have hvd:=fun (u':PH) (l:PH.le u u')=>Arc (hC.mono l) sC vC oV;obtain⟨xa,xc,xb,xd,xe,xf,rfl,hTL,hRL,hFL⟩:=id hX;obtain⟨A,Q,a1,c1,a2,c2,rfl,hA,hQ,cA,cQ,kA,kQ⟩:=hC;have hf8:=ok.f2;refine Fn0.o func35 ?_;refine G.c call88 (hck u (PH.le_refl _)) ?_;rintro v1 u1 l1 rfl;refine G.nF 0 0 ?_;refine G.c call89 (hvd u1 l1) ?_;rintro v2 u2 l2 rfl;have le2:=l1.trans l2;refine G.pub 0 30 [.slice xa T.length xc,.slice xb R.length xd,.slice xe F.length xf,.int .i64 lab] kV kV ?_;intro b hb1 hb2;have hcb:∀ (m':PH),m' b=some (.cells [Au8 xa T.length xc,.slice xb R.length xd,.slice xe F.length xf,.int .i64 lab].toArray 30 (0,0))->ElP m' b 0 (.agg #[.slice xa T.length xc,.slice xb R.length xd,.slice xe F.length xf,.int .i64 lab]):=fun m' h=>Akd (xs:=[.slice xa T.length xc,.slice xb R.length xd,.slice xe F.length xf,.int .i64 lab]) h rfl;obtain⟨mb,hmb⟩:∃ mb:PH,mb=PH.mt.upd b (.cells [Au8 xa T.length xc,.slice xb R.length xd,.slice xe F.length xf,.int .i64 lab].toArray 30 (0,0)):=⟨_,rfl⟩;have hmbb:mb b=some (.cells [Au8 xa T.length xc,.slice xb R.length xd,.slice xe F.length xf,.int .i64 lab].toArray 30 (0,0)):=by rw[hmb];exact Ab _ _ _
 rw[<-hmb];refine G.callK _ _ kV call90 (Abm (cap:=.pointer (some ⟨b,0,none⟩)) (hA.mono le2) oV call91 fun x hx u' l'=>An0 (hcb mb hmbb) (hX.mono (le2.trans l')) (ok.mono (le2.trans l')) (hb x.1 (by obtain⟨q1,q2⟩:=cA.val x hx;rw[<-q1];exact q2))) ?_;rintro v3 u3 l3 rfl;have le3:=le2.trans l3;refine G.lM (some 4) b 0 (.agg #[.slice xa T.length xc,.slice xb R.length xd,.slice xe F.length xf,.int .i64 lab]) (hcb mb hmbb) ?_;refine G.c call93 (Z1 (hX.mono le3) (ok.mono le3)) ?_;intro v4 u4 l4 hN;obtain⟨na,nc,rfl⟩:=hN.opn;have hni:(Ah (C8 F F.length)).length=(C8 F F.length).length:=by simp[Ah]
 rw[hni]at hN⊢;have hnl:=Abw F F.length;have le4:=le3.trans l4;refine G.l (ι:=Nat×(Option Addr×Nat)) (fun i=>[(2,.v (.pointer (some ⟨b,0,none⟩))),(3,.p 1 0),(6,sV i.2.1 ((C8 F F.length).take i.1).length i.2.2),(28,sV na (C8 F F.length).length nc),(29,iV ((C8 F F.length).length)),(30,iV i.1)])
  (fun _=>[(1,⟨38,[tV (Ap C.c),sV a1 A.length c1,sV a2 Q.length c2]⟩)])
  (fun i u' m'=>i.1<=(C8 F F.length).length/\Ae mb m' (.slice i.2.1 ((C8 F F.length).take i.1).length i.2.2) 110 2 ((((C8 F F.length).take i.1).map Jo).map A3)) (fun i=>(C8 F F.length).length-i.1) (0,(none,0)) ⟨oV,Ae.nil _ _ _⟩ ?_
 rintro J ⟨i,⟨pa,pc⟩⟩ hJ u5 m5 l5 ⟨hi,hP⟩;simp only at hi hP hJ;have le5:=le4.trans l5;by_cases hlt:i<(C8 F F.length).length
 ·refine G.lT (i:Int) ((C8 F F.length).length:Int) ?_;obtain⟨k,hk⟩:∃ k,(C8 F F.length)[i]?=some k:=⟨_,As5 hlt⟩;have htk:(C8 F F.length).take (i+1)=(C8 F F.length).take i++[k]:=by rw[At0,hk];rfl
  obtain⟨bb,ob,rfl,eb⟩:=Ad.at' (hN.mono l5) (j:=i) (e:=.int .i64 (k:Int)) (by simp[Ah,hk]);have htl:((C8 F F.length).take i).length=i:=by rw[Atm];omega
  refine G.a bb ob (C8 F F.length).length nc i 1 hlt ?_;refine G.lU none bb (ob+i*1) (.int .i64 (k:Int)) eb ?_;refine G.B 110 2 24 (.agg #[.int .i64 0,.string (mkS [])]) [.agg #[.int .i64 (k:Int),.string (mkS [])]] (I2 (Jo k)) ?_;intro g6 u6 l6 e6;refine G.k 110 2 24 (.agg #[.int .i64 0,.string (mkS [])]) mb _ [A3 (Jo k)] _ g6 0 1 1 hP e6 (I2 (Jo k)) ?_;intro v7 m7 hA7;have e7:(((C8 F F.length).take i).map Jo).map A3++[A3 (Jo k)]=(((C8 F F.length).take (i+1)).map Jo).map A3:=by rw[htk];simp
  rw[e7]at hA7;obtain⟨a7,c7,rfl⟩:=hA7.shape;rw[Ata,Ata]at hA7⊢;refine G.i i ?_;exact G.b (hJ (i+1,(a7,c7)) _ _ _ cV (l5.trans l6) ⟨dV,hA7⟩ dV)
 obtain rfl:i=(C8 F F.length).length:=oV
 refine G.lF ((C8 F F.length).length:Int) ((C8 F F.length).length:Int) ?_;clear hJ;rw[At9]at hP⊢;have hP0:Ae mb m5 (.slice pa (I7 F++Ia F A 0).length pc) 110 2 ((I7 F++Ia F A 0).map A3):=by
  have e1:Ia F A 0 = []:=rfl;have e2:(I7 F).length=(C8 F F.length).length:=by unfold I7;simp
  rw[e1,Auu,e2];exact hP
 have e0:(C8 F F.length).length=(I7 F++Ia F A 0).length:=by
  have e1:Ia F A 0 = []:=rfl;have e2:(I7 F).length=(C8 F F.length).length:=by unfold I7;simp
  rw[e1,Auu,e2]
 rw[e0];have hnp:(I7 F).length<=8:=by unfold I7;rw[Ata];omega
 refine G.l (ι:=Nat×(Option Addr×Nat)) (fun i=>[(2,.v (.pointer (some ⟨b,0,none⟩))),(6,sV i.2.1 (I7 F++Ia F A i.1).length i.2.2),(41,sV a1 A.length c1),(42,iV A.length),(43,iV i.1)]) (fun _=>[])
  (fun i u' m'=>i.1<=A.length/\Ae mb m' (.slice i.2.1 (I7 F++Ia F A i.1).length i.2.2) 110 2 ((I7 F++Ia F A i.1).map A3)) (fun i=>A.length-i.1) (0,(pa,pc)) ⟨oV,hP0⟩ ?_
 clear hP hP0 e0;rintro J ⟨i,⟨pa,pc⟩⟩ hJ u6 m6 l6 ⟨hi,hP⟩;simp only at hi hP hJ;have le6:=le5.trans l6;have hhl:=Al2 F A i;by_cases hlt:i<A.length
 ·refine G.lT (i:Int) (A.length:Int) ?_;obtain⟨x,hAi⟩:∃ x,A[i]?=some x:=⟨_,As5 hlt⟩;have hs:=Ag4 (F:=F) hAi;have hbel:Aa3 F lab x.1:=hb x.1 (by obtain⟨q1,q2⟩:=cA.val x (Ato hAi);rw[<-q1];exact q2);obtain⟨ba,oa,rfl,ea⟩:=Ad.at' (hA.mono le6) (j:=i) (e:=Bk x) (by simp[hAi]);obtain⟨⟨p1,p2⟩,q⟩:=x;simp only at hs hbel;refine G.a ba oa A.length c1 i 3 hlt ?_;refine G.lU (some 3) ba (oa+i*3) (.agg #[.int .i64 p1,.string (mkS p2),.string (mkS (Ap q))]) ea ?_;have step:∀ {u7:PH},PH.le u6 u7->M9 F (p1,p2)=false->True:=fun _ _=>trivial;by_cases h0:0<=p1
  ·refine G.hT' p1 0 h0 ?_;obtain⟨k,f,hk1,hkf⟩:∃ (k:Nat) (f:Aq),p1=(k:Int)/\F[k]?=some f:=by
    rcases hbel with ⟨h1,_⟩|⟨k,f,h1,hf,_⟩
    ·simp only at h1;omega
    ·exact⟨k,f,h1,hf⟩
   subst hk1;have hkl:=(Atc.1 hkf).1;have hmb6:m6 b=some (.cells [Au8 xa T.length xc,.slice xb R.length xd,.slice xe F.length xf,.int .i64 lab].toArray 30 (0,0)):=hP.see hmbb;refine G.f 30 b 0 2 2 ?_;refine G.lM none b (0+2) (.slice xe F.length xf) ((hcb m6 hmb6).fld (j:=2) (xs:=#[.slice xa T.length xc,.slice xb R.length xd,.slice xe F.length xf,.int .i64 lab]) rfl rfl) ?_;obtain⟨fb,fo,rfl,ef⟩:=Ad.at' (hFL.mono le6) (j:=k) (e:=Ce f) (by simp[hkf]);refine G.a fb fo F.length xf k 3 hkl ?_;obtain⟨f1,f2,f3⟩:=f;refine G.f 82 fb (fo+k*3) 1 1 ?_;refine G.lU none fb (fo+k*3+1) (.int .i64 (f2:Int)) (ef.fld (j:=1) (xs:=#[.int .i64 (f1:Int),.int .i64 (f2:Int),.int .i64 (f3:Int)]) rfl rfl) ?_;have hot:M9 F ((k:Int),p2)=(f2==2):=by
    unfold M9;simp only[Avo,As7,hkf,Awo];rw[decide_eq_true oV];rfl
   rw[hot]at hs;by_cases h2:f2=2
   ·rw[if_pos (by simpa using h2)]at hs;refine G.eT (f2:Int) 2 ?_;refine G.B 110 2 24 (.agg #[.int .i64 0,.string (mkS [])]) [.agg #[.int .i64 (k:Int),.string (mkS p2)]] (I2 ((k:Int),p2)) ?_;intro g7 u7 l7 e7;refine G.k 110 2 24 (.agg #[.int .i64 0,.string (mkS [])]) mb _ [A3 ((k:Int),p2)] _ g7 0 1 1 hP e7 (I2 ((k:Int),p2)) ?_;intro v8 m8 hA8;have e8:(I7 F++Ia F A i).map A3++[A3 ((k:Int),p2)]=(I7 F++Ia F A (i+1)).map A3:=by rw[hs];simp
    rw[e8]at hA8;obtain⟨a8,c8,rfl⟩:=hA8.shape;rw[Ata]at hA8⊢;refine G.i i ?_;exact G.b (hJ (i+1,(a8,c8)) _ _ _ cV (l6.trans l7) ⟨dV,hA8⟩ dV)
   ·rw[if_neg (by simpa using h2)]at hs;refine G.eF (f2:Int) 2 ?_;refine G.i i ?_;rw[<-hs]at hP⊢;exact G.b (hJ (i+1,(pa,pc)) _ _ _ cV l6 ⟨dV,hP⟩ dV)
  ·refine G.hF' p1 0 h0 ?_;have hot:M9 F (p1,p2)=false:=by
    unfold M9;rw[decide_eq_false h0];rfl
   rw[hot,if_neg mV]at hs;refine G.i i ?_;rw[<-hs]at hP⊢;exact G.b (hJ (i+1,(pa,pc)) _ _ _ cV l6 ⟨dV,hP⟩ dV)
 obtain rfl:i=A.length:=oV
 refine G.lF (A.length:Int) (A.length:Int) ?_;have hnd:(I7 F++Ia F A A.length).Nodup:=Z2 (cA.srt.nodup Fr);have hmm:∀ p,p∈I7 F++Ia F A A.length↔_:=fun p=>Aik (F:=F) cA (p:=p);have hll:(I7 F++Ia F A A.length).length<=1000000:=by grind
 generalize I7 F++Ia F A A.length=L at hP hnd hmm hll;by_cases h24:24<L.length
 ·refine G.gT (L.length:Int) 24 ?_;refine G.drop PH.mt kV (PH.mt_le _) ?_;exact G.r (.tuple #[.slice none 0 0,.int .i64 3]) ⟨rfl,.inl ⟨rfl,Ee Bd L,by rw[(G5 (c:=Bd) L).length_eq];exact h24,Q6 Fr hnd,fun p=>(G5 (c:=Bd) L).mem_iff.trans (hmm p)⟩⟩
 ·refine G.gF (L.length:Int) 24 ?_;refine G.callA _ _ kV kV call94 (C6 m6).symm (Ic m6) (Al8 hP hnd hll) ?_;rintro v7 u7 m7 l7 ⟨rfl,hS⟩ _;have hp:=G5 (c:=Bd) L;have hsl:(Ee Bd L).length=L.length:=hp.length_eq;refine G.give _ _ _ kV hS (fun g=>.inl rfl) ?_;intro u8 l8 hL8;refine G.drop PH.mt kV (PH.mt_le _) ?_;exact G.r (.tuple #[.slice pa L.length pc,.int .i64 0]) ⟨rfl,.inr ⟨_,Ee Bd L,rfl,hL8,oV,Q6 Fr hnd,fun p=>hp.mem_iff.trans (hmm p)⟩⟩
end
section
variable {A:List (Par×Rat)}{C:CF}{F:List Aq}{i n:Nat}{p:Par}
def Fw (F:List Aq)(A:List (Par×Rat))(i:Nat):List Par:=if (F.getD i (0,0,0)).2.1=1 then [Jo i] else (A.map (·.1)).filter fun p=>p.1==(i:Int)
def Fv (F:List Aq)(A:List (Par×Rat))(n:Nat):List Par:=(At3 n).flatMap (Fw F A)
theorem P6 (F:List Aq)(A:List (Par×Rat))(n:Nat):Fv F A (n+1)=Fv F A n++Fw F A n:=by
 unfold Fv;rw[Ayh,List.flatMap_append];simp
theorem We (h:p∈Fw F A i):p.1=(i:Int):=by
 unfold Fw at h;split at h
 ·simp at h;subst h;rfl
 ·grind
theorem Aj7 (h:p∈Fv F A n):0<=p.1/\p.1<(n:Int):=by
 obtain⟨i,hi,hp⟩:=Ax3.1 h;have:=We hp;simp at hi;omega
theorem Alo {p q:Par}(h:p.1<q.1):Bd p q<0:=by
 unfold Bd Np;rw[if_pos h,if_pos oV];omega
theorem P8 {F:List Aq}{A:List (Par×Rat)}(hA:Hk Bd (A.map (·.1))):∀ n,Hk Bd (Fv F A n)
 |0=>List.Pairwise.nil
 |n+1=>by
  rw[P6];refine List.pairwise_append.2 ⟨P8 hA n,?_,fun p hp q hq=>?_⟩
  ·unfold Fw;split
   ·exact List.pairwise_singleton _ _
   ·exact hA.filter _
  ·have h1:=Aj7 hp;have h2:=We hq;exact Alo oV
theorem Zw (hA:Can Bd C.s A)(hk:∀ f∈F,f.2.1=1\/f.2.1=2):p∈Fv F A F.length↔(∃ (i:Nat) (f:Aq),p=Jo i/\F[i]?=some f/\f.2.1=1)\/(C.s p≠0/\∃ (i:Nat) (f:Aq),p.1=(i:Int)/\F[i]?=some f/\f.2.1=2):=by
 have hmem:p∈A.map (·.1)↔C.s p≠0:=by
  constructor
  ·intro h;obtain⟨x,hx,rfl⟩:=Ate.1 h;obtain⟨h1,h2⟩:=hA.val x hx;rw[<-h1];exact h2
  ·intro h;exact Au2 fun hh=>h (hA.out p hh)
 unfold Fv;rw[Ax3];constructor
 ·rintro⟨i,hi,hp⟩;unfold Fw at hp;split at hp
  ·grind
  ·grind
 ·rintro (⟨i,f,rfl,hf,h1⟩|⟨h0,i,f,h1,hf,h2⟩)
  ·have e:F.getD i (0,0,0)=f:=by simp[As7,hf]
   refine⟨i,by simpa using (Atc.1 hf).1,?_⟩;unfold Fw;rw[e,if_pos h1];simp
  ·have e:F.getD i (0,0,0)=f:=by simp[As7,hf]
   refine⟨i,by simpa using (Atc.1 hf).1,?_⟩;unfold Fw;rw[e,if_neg oV];exact Axo.2 ⟨hmem.2 h0,by simpa using h1⟩
theorem Aml (n:Nat):(Fv F A n).length<=n*(A.length+1):=by
 induction n with
 |zero=>exact Atu _
 |succ n ih =>
  rw[P6,Atg,At2,Avm];have:(Fw F A n).length<=A.length+1:=by
   unfold Fw;split
   ·simp
   ·grind
  omega
def Gf (A:List (Par×Rat))(i n:Nat):List Par:=((A.take n).map (·.1)).filter fun p=>p.1==(i:Int)
theorem Acz {x:Par×Rat}(h:A[n]?=some x):Gf A i (n+1)=if x.1.1=(i:Int) then Gf A i n++[x.1] else Gf A i n:=by
 unfold Gf;have e:A.take (n+1)=A.take n++[x]:=by rw[At0,h];rfl
 by_cases hh:x.1.1=(i:Int)
 ·grind
 ·grind
theorem Ahg (A:List (Par×Rat))(i n:Nat):(Gf A i n).length<=A.length:=by
 refine As9 (Aw8 _ _) ?_;rw[Ata,Atm];omega
theorem Uc {u:PH}{v w:Value}{T:List (List UInt8×Nat)}{R:List Ch}{lab:Int}{K:Nat}(hX:Ir u v T R F lab)(ok:Bz u T R F lab)(hC:Lw u w C K)(sC:CFS C)(vC:CFV C)(hK:K<=10000)(hb:∀ p,C.s p≠0->Aa3 F lab p) :
 Fn0 prog 10 [v,w] u fun r u'=>Ary u' r F C:=by
 have hck:=fun (u':PH) (l:PH.le u u')=>Qt (hX.mono l) (ok.mono l);have hvd:=fun (u':PH) (l:PH.le u u')=>Aes (hC.mono l) sC vC oV;have hkd:∀ f∈F,f.2.1=1\/f.2.1=2:=fun f hf=>by
  obtain⟨n,k,_,h2,_⟩:=ok.feat.ok f hf;rcases h2 with ⟨h2,_⟩|⟨h2,_⟩
  ·exact .inl h2
  ·exact .inr h2
 obtain⟨xa,xc,xb,xd,xe,xf,rfl,hTL,hRL,hFL⟩:=id hX;obtain⟨A,Q,a1,c1,a2,c2,rfl,hA,hQ,cA,cQ,kA,kQ⟩:=hC;have hf8:=ok.f2;have hRl:∀ n,n<=8->(Fv F A n).length<=100000:=fun n hn=>by
  have:=Aml (F:=F) (A:=A) n;have h2:n*(A.length+1)<=8*(A.length+1):=Ats _ hn;omega
 refine Fn0.o func10 ?_;refine G.c call29 (hck u (PH.le_refl _)) ?_;rintro v1 u1 l1 rfl;refine G.nF 0 0 ?_;refine G.c call44 (hvd u1 l1) ?_;rintro v2 u2 l2 rfl;have le2:=l1.trans l2;refine G.l (ι:=Nat×(Option Addr×Nat)) (fun i=>[(2,.p 0 0),(3,.p 1 0),(7,sV i.2.1 (Fv F A i.1).length i.2.2),(26,sV xe F.length xf),(27,iV F.length),(28,iV i.1)])
  (fun _=>[(0,⟨30,[sV xa T.length xc,sV xb R.length xd,sV xe F.length xf,iV lab]⟩),(1,⟨38,[tV (Ap C.c),sV a1 A.length c1,sV a2 Q.length c2]⟩)])
  (fun i u' m'=>i.1<=F.length/\Ae PH.mt m' (.slice i.2.1 (Fv F A i.1).length i.2.2) 110 2 ((Fv F A i.1).map A3)) (fun i=>F.length-i.1) (0,(none,0)) ⟨oV,Ae.nil _ _ _⟩ ?_
 rintro J ⟨i,⟨pa,pc⟩⟩ hJ u3 m3 l3 ⟨hi,hP⟩;simp only at hi hP hJ;have le3:=le2.trans l3;have hln:=hRl i oV;by_cases hlt:i<F.length
 ·refine G.lT (i:Int) (F.length:Int) ?_;obtain⟨f,hFi⟩:∃ f,F[i]?=some f:=⟨_,As5 hlt⟩;have hgd:F.getD i (0,0,0)=f:=by simp[As7,hFi]
  have hs:=P6 F A i;obtain⟨fb,fo,rfl,ef⟩:=Ad.at' (hFL.mono le3) (j:=i) (e:=Ce f) (by simp[hFi]);obtain⟨f1,f2,f3⟩:=f;refine G.a fb fo F.length xf i 3 hlt ?_;refine G.lU (some 3) fb (fo+i*3) (.agg #[.int .i64 (f1:Int),.int .i64 (f2:Int),.int .i64 (f3:Int)]) ef ?_;by_cases hk1:f2=1
  ·have hp:Fw F A i = [Jo i]:=by unfold Fw;rw[hgd,if_pos hk1]
   rw[hp]at hs;refine G.eT (f2:Int) 1 ?_;refine G.B 110 2 24 (.agg #[.int .i64 0,.string (mkS [])]) [.agg #[.int .i64 (i:Int),.string (mkS [])]] (I2 (Jo i)) ?_;intro g6 u6 l6 e6;refine G.k 110 2 24 (.agg #[.int .i64 0,.string (mkS [])]) PH.mt ((Fv F A i).map A3) [A3 (Jo i)] _ g6 0 1 1 hP e6 (I2 (Jo i)) ?_;intro v7 m7 hA7;rw[show (Fv F A i).map A3++[A3 (Jo i)]=(Fv F A (i+1)).map A3 by rw[hs];simp]at hA7;obtain⟨a7,c7,rfl⟩:=hA7.shape;rw[Ata]at hA7⊢;refine G.i i ?_;exact G.b (hJ (i+1,(a7,c7)) _ _ _ cV (l3.trans l6) ⟨dV,hA7⟩ dV)
  ·have hp:Fw F A i=Gf A i A.length:=by unfold Fw Gf;rw[hgd,if_neg hk1,At9]
   rw[hp]at hs;refine G.eF (f2:Int) 1 ?_;have hP0:Ae PH.mt m3 (.slice pa (Fv F A i++Gf A i 0).length pc) 110 2 ((Fv F A i++Gf A i 0).map A3):=by
    rw[show Gf A i 0 = [] from rfl,Auu];exact hP
   have e0:(Fv F A i).length=(Fv F A i++Gf A i 0).length:=by rw[show Gf A i 0 = [] from rfl,Auu]
   rw[e0];refine G.l (ι:=Nat×(Option Addr×Nat)) (fun n=>[(2,.p 0 0),(3,.p 1 0),(7,sV n.2.1 (Fv F A i++Gf A i n.1).length n.2.2),(8,iV i),(26,sV (some ⟨fb,fo,none⟩) F.length xf),(27,iV F.length),(28,iV i),(42,sV a1 A.length c1),(43,iV A.length),(44,iV n.1)])
    (fun _=>[(0,⟨30,[sV xa T.length xc,sV xb R.length xd,sV (some ⟨fb,fo,none⟩) F.length xf,iV lab]⟩),(1,⟨38,[tV (Ap C.c),sV a1 A.length c1,sV a2 Q.length c2]⟩)])
    (fun n u' m'=>n.1<=A.length/\Ae PH.mt m' (.slice n.2.1 (Fv F A i++Gf A i n.1).length n.2.2) 110 2 ((Fv F A i++Gf A i n.1).map A3)) (fun n=>A.length-n.1) (0,(pa,pc)) ⟨oV,hP0⟩ ?_
   clear hP hP0 e0;rintro J2 ⟨n,⟨pa,pc⟩⟩ hJ2 u4 m4 l4 ⟨hn,hP⟩;simp only at hn hP hJ2;have hpl:=Ahg A i n;by_cases hnl:n<A.length
   ·refine G.lT (n:Int) (A.length:Int) ?_;obtain⟨x,hAn⟩:∃ x,A[n]?=some x:=⟨_,As5 hnl⟩;have hps:=Acz (i:=i) hAn;obtain⟨ba,oa,rfl,ea⟩:=Ad.at' (hA.mono (le3.trans l4)) (j:=n) (e:=Bk x) (by simp[hAn]);obtain⟨⟨p1,p2⟩,q⟩:=x;simp only at hps;refine G.a ba oa A.length c1 n 3 hnl ?_;refine G.lU (some 3) ba (oa+n*3) (.agg #[.int .i64 p1,.string (mkS p2),.string (mkS (Ap q))]) ea ?_;by_cases he:p1=(i:Int)
    ·rw[if_pos he]at hps;refine G.eT' p1 (i:Int) he ?_;refine G.B 110 2 24 (.agg #[.int .i64 0,.string (mkS [])]) [.agg #[.int .i64 p1,.string (mkS p2)]] (I2 (p1,p2)) ?_;intro g6 u6 l6 e6;refine G.k 110 2 24 (.agg #[.int .i64 0,.string (mkS [])]) PH.mt ((Fv F A i++Gf A i n).map A3) [A3 (p1,p2)] _ g6 0 1 1 hP e6 (I2 (p1,p2)) ?_;intro v7 m7 hA7;rw[show (Fv F A i++Gf A i n).map A3++[A3 (p1,p2)]=(Fv F A i++Gf A i (n+1)).map A3 by rw[hps];simp]at hA7;obtain⟨a7,c7,rfl⟩:=hA7.shape;rw[Ata]at hA7⊢;refine G.i n ?_;exact G.b (hJ2 (n+1,(a7,c7)) _ _ _ cV (l4.trans l6) ⟨dV,hA7⟩ dV)
    ·rw[if_neg he]at hps;refine G.eF' p1 (i:Int) he ?_;refine G.i n ?_;rw[<-hps]at hP⊢;exact G.b (hJ2 (n+1,(pa,pc)) _ _ _ cV l4 ⟨dV,hP⟩ dV)
   ·obtain rfl:n=A.length:=oV
    refine G.lF (A.length:Int) (A.length:Int) ?_;refine G.i i ?_;rw[<-hs]at hP⊢;exact G.b (hJ (i+1,(pa,pc)) _ _ _ cV (l3.trans l4) ⟨dV,hP⟩ dV)
 obtain rfl:i=F.length:=oV
 refine G.lF (F.length:Int) (F.length:Int) ?_;clear hJ;have hmm:∀ p,p∈Fv F A F.length↔_:=fun p=>Zw (F:=F) cA hkd (p:=p);have hsrt:Hk Bd (Fv F A F.length):=P8 cA.srt _;generalize hLL:Fv F A F.length=L at hP hmm hsrt hln;have hin:∀ x∈A,(x.1.1 = -1/\0<=lab/\x.1.2 = [])\/(0<=x.1.1/\x.1∈L):=fun x hx=>by
  obtain⟨q1,q2⟩:=cA.val x hx;have hne:C.s x.1≠0:=by rw[<-q1];exact q2
  rcases hb x.1 hne with h|⟨k,f,h1,hf,h3⟩
  ·exact .inl h
  ·refine .inr ⟨oV,(hmm x.1).2 ?_⟩;rcases hkd f (Ato hf) with h4|h4
   ·refine .inl ⟨k,f,?_,hf,h4⟩;obtain⟨⟨p1,p2⟩,q⟩:=x;simp only at h1 h3;rw[h1,h3.resolve_left oV];rfl
   ·exact .inr ⟨hne,k,f,h1,hf,h4⟩
 refine G.l (ι:=Nat) (fun i=>[(2,.p 0 0),(7,sV pa L.length pc),(61,sV a1 A.length c1),(62,iV A.length),(63,iV i)])
  (fun _=>[(0,⟨30,[sV xa T.length xc,sV xb R.length xd,sV xe F.length xf,iV lab]⟩)])
  (fun i u' m'=>i<=A.length/\m'=m3) (fun i=>A.length-i) 0 ⟨oV,rfl⟩ ?_
 rintro J i hJ u4 m4 l4 ⟨hi4,rfl⟩;have le4:=le3.trans l4;by_cases hlt4:i<A.length
 ·refine G.lT (i:Int) (A.length:Int) ?_;obtain⟨x,hAi⟩:∃ x,A[i]?=some x:=⟨_,As5 hlt4⟩;have hx:=hin x (Ato hAi);obtain⟨ba,oa,rfl,ea⟩:=Ad.at' (hA.mono le4) (j:=i) (e:=Bk x) (by simp[hAi]);obtain⟨⟨p1,p2⟩,q⟩:=x;simp only at hx;refine G.a ba oa A.length c1 i 3 hlt4 ?_;refine G.lU (some 3) ba (oa+i*3) (.agg #[.int .i64 p1,.string (mkS p2),.string (mkS (Ap q))]) ea ?_;rcases hx with ⟨h1,h2,h3⟩|⟨h1,h2⟩
  ·refine G.eT' p1 (-1) h1 ?_;refine G.hT' lab 0 h2 ?_;refine G.q p2 [] h3 ?_;refine G.i i ?_;exact G.b (hJ (i+1) _ _ _ cV l4 ⟨oV,rfl⟩ oV)
  ·refine G.eF p1 (-1) ?_;refine G.l (ι:=Nat×Bool) (fun n=>[(2,.p 0 0),(7,sV pa L.length pc),(13,.p 21002 0),(14,bV n.2),(61,sV (some ⟨ba,oa,none⟩) A.length c1),(62,iV A.length),(63,iV i),(82,sV pa L.length pc),(83,iV L.length),(84,iV n.1)])
    (fun _=>[(0,⟨30,[sV xa T.length xc,sV xb R.length xd,sV xe F.length xf,iV lab]⟩),(21002,⟨116,[iV p1,tV p2,tV (Ap q)]⟩)])
    (fun n u' m'=>n.1<=L.length/\m'=m4/\n.2=(L.take n.1).any fun y=>decide (y=(p1,p2))) (fun n=>L.length-n.1) (0,false) ⟨oV,rfl,rfl⟩ ?_
   rintro J2 ⟨n,fnd⟩ hJ2 u5 m5 l5 ⟨hn,rfl,hf⟩;simp only at hn hf hJ2;by_cases hnl:n<L.length
   ·refine G.lT (n:Int) (L.length:Int) ?_;obtain⟨y,hLn⟩:∃ y,L[n]?=some y:=⟨_,As5 hnl⟩;have hany:((L.take (n+1)).any fun y=>decide (y=(p1,p2)))=(((L.take n).any fun y=>decide (y=(p1,p2)))||decide (y=(p1,p2))):=by
     rw[At0,hLn,List.any_append];simp
    obtain⟨gs,cs,hgc⟩:=hP.ptr (fun e=>by
     have:L.length=0:=by simpa using congrArg List.length e
     omega)
    simp only[Atr]at hgc;obtain⟨rfl,_,rfl⟩:=hgc;have hel:ElP m5 gs (0+n*2) (A3 y):=hP.el (by rw[Aty,hLn];rfl);refine G.a gs 0 L.length pc n 2 hnl ?_;refine G.lM (some 2) gs (0+n*2) (.agg #[.int .i64 y.1,.string (mkS y.2)]) hel ?_;cases fnd with
    |true =>
     refine G.i n ?_;rw[<-hf,Bool.true_or]at hany;exact G.b (hJ2 (n+1,true) _ _ _ cV l5 ⟨dV,rfl,hany.symm⟩ dV)
    |false =>
     rw[<-hf,Bool.false_or]at hany;by_cases he:y=(p1,p2)
     ·rw[decide_eq_true he]at hany;refine G.eqAgg 110 #[.int .i64 y.1,.string (mkS y.2)] #[.int .i64 p1,.string (mkS p2)] true kV kV kV (fun w=>by rw[<-decide_eq_true he];exact Dr.eq y (p1,p2) w) ?_;refine G.i n ?_;exact G.b (hJ2 (n+1,true) _ _ _ cV l5 ⟨dV,rfl,hany.symm⟩ dV)
     ·rw[decide_eq_false he]at hany;refine G.eqAgg 110 #[.int .i64 y.1,.string (mkS y.2)] #[.int .i64 p1,.string (mkS p2)] false kV kV kV (fun w=>by rw[<-decide_eq_false he];exact Dr.eq y (p1,p2) w) ?_;refine G.i n ?_;exact G.b (hJ2 (n+1,false) _ _ _ cV l5 ⟨dV,rfl,hany.symm⟩ dV)
   ·obtain rfl:n=L.length:=oV
    refine G.lF (L.length:Int) (L.length:Int) ?_;have hall:((L.take L.length).any fun y=>decide (y=(p1,p2)))=true:=by
     rw[At9];exact Ax1.2 ⟨_,h2,mV⟩
    rw[hall]at hf;subst hf;refine G.i i ?_;exact G.b (hJ (i+1) _ _ _ cV (l4.trans l5) ⟨oV,rfl⟩ oV)
 obtain rfl:i=A.length:=oV
 refine G.lF (A.length:Int) (A.length:Int) ?_;by_cases h24:24<L.length
 ·refine G.gT (L.length:Int) 24 ?_;refine G.drop PH.mt kV (PH.mt_le _) ?_;exact G.r (.tuple #[.slice none 0 0,.int .i64 3]) ⟨rfl,.inl ⟨rfl,L,h24,hsrt,hmm⟩⟩
 ·refine G.gF (L.length:Int) 24 ?_;refine G.give _ _ _ kV hP (fun g=>.inl rfl) ?_;intro u8 l8 hL8;exact G.r (.tuple #[.slice pa L.length pc,.int .i64 0]) ⟨rfl,.inr ⟨_,L,rfl,hL8,oV,hsrt,hmm⟩⟩
end
section
variable [Ca] [Df]
section
variable {P:Program} {id:Nat} {ops:Array Oper} {dr:Bool} {Fin:S->PH->PH->Prop} {c:Cx} {Q:Exit->Act->World->Prop}
end
section
variable {P:Program} {fn:Func} {Post:By}
end
section rules
variable {P:Program} [A7 P] {fn:Func} {Post:By} {st:List KI×S} {u m:PH}
end rules
end
structure Ang (u:PH)(v cv:Value)(T:List (List UInt8×Nat))(R:List Ch)(F:List Aq)(lab:Int)(C:CF)(K k:Nat)(P:List Par):Prop where
 sch:Ir u v T R F lab
 ok:Bz u T R F lab
 cof:Lw u cv C K
 sC:CFS C
 vC:CFV C
 K:K<=10000
 bel:∀ p,C.s p≠0->Aa3 F lab p
 mom:M5 C k
 prm:Uf F C P
 p24:P.length<=24
 lab0:0<=lab
 d:CFD 16 (10^75) C
theorem CFD.to {d e N M:Nat}{F:CF}(h:CFD d N F)(h1:d<=e)(h2:N*12^(e-d)<=M):CFD e M F:=⟨h.c.to h1 h2,fun p=>(h.s p).to h1 h2,fun q=>(h.t q).to h1 h2⟩
theorem Asy {q n d j:Rat}(h2:q=n*j)(hi:d*j=1):q*d=n:=by rw[h2];grind
section
variable {F:List Aq}{lab:Int}{p:Par}
theorem Afb {p:Par}:∀ (L:List LF) (C:CF),(Hf C L).s p≠0->C.s p≠0\/∃ q,some (some (p,q))∈L
 |[],C,h=>.inl h
 |x::L,C,h=>by
  rcases Afb L (C.mul x.cf) h with h1|⟨q,hq⟩
  ·rcases Fk (a:=x.cf.s p*C.c) (b:=C.s p*x.cf.c) h1 with h2|h2
   ·right;have h3:=(Cc h2).1
    match x,h3 with
    |none,h3=>exact absurd rfl h3
    |some none,h3=>exact absurd rfl h3
    |some (some (p',q)),h3 =>
     have h4:(if p=p' then q else 0)≠0:=h3;by_cases e:p=p'
     ·subst e;exact⟨q,List.mem_cons_self ..⟩
     ·rw[if_neg e]at h4;exact absurd rfl h4
   ·exact .inl (Cc h2).1
  ·exact .inr ⟨q,List.mem_cons_of_mem _ hq⟩
theorem Adg {ss:List (List UInt8)}(h:(cfT F lab ss).s p≠0):Aa3 F lab p/\∃ (a:Nat) (q:Rat),(E4 F lab ss)[a]?=some (some (some (p,q)))/\∀ (i:Nat) (f:Aq),p.1=(i:Int)->F[i]?=some f->f.2.1=2->q=1:=by
 rcases Afb _ _ h with h|⟨q,hq⟩
 ·exact absurd rfl h
 obtain⟨a,ha,hae⟩:=Avy hq;have hla:a<ss.length:=by rw[Gj]at ha;exact ha
 have e:=Ii (F:=F) (lab:=lab) (w:=ss[a]) (As5 hla);have e2:Ge F lab a ss[a]=some (some (p,q)):=by
  rw[As5 ha,hae]at e;exact (Auq e).symm
 have e3:(E4 F lab ss)[a]?=some (some (some (p,q))):=by rw[e,e2]
 generalize ss[a]=w at e2;by_cases hl:(a:Int)=lab
 ·have e4:Ge F lab a w=Rk w:=by unfold Ge;rw[if_pos hl]
  rw[e4]at e2;unfold Rk at e2;split at e2
  ·cases e2
  ·simp only[Atd,Aun]at e2;obtain⟨rfl,_⟩:=e2;exact⟨.inl ⟨rfl,oV,rfl⟩,a,q,e3,fun i f h1=>by simp only at h1;omega⟩
 ·rcases Gt (F:=F) (w:=w) hl with h1|⟨i,f,hf,hfa,h1⟩
  ·rw[h1]at e2;cases e2
  ·rw[h1]at e2;unfold Ji at e2;by_cases h2:f.2.1=2
   ·rw[if_pos h2]at e2;simp only[Atd,Aun]at e2;obtain⟨rfl,rfl⟩:=e2;exact⟨.inr ⟨i,f,rfl,hf,.inl h2⟩,a,_,e3,fun _ _ _ _ _=>rfl⟩
   ·rw[if_neg h2]at e2;split at e2
    ·split at e2<;>cases e2
    ·simp only[Atd,Aun]at e2;obtain⟨rfl,_⟩:=e2;refine⟨.inr ⟨i,f,rfl,hf,.inr rfl⟩,a,q,e3,fun j g h3 h4 h5=>?_⟩;simp only at h3;obtain rfl:i=j:=oV
     rw[hf]at h4;cases h4;exact absurd h5 h2
theorem Agr :∀ {L:List G7},(Fq F lab L).s p≠0->∃ y∈L,(cfT F lab y.1).s p≠0:=by
 intro L;induction L using L3 with
 |h0=>exact fun h=>absurd rfl h
 |h1 L y ih =>
  intro h;rw[Hx]at h;rcases Fk (a:=(Fq F lab L).s p) (b:=(cfT F lab y.1).s p*(y.2.1:Rat)) h with h1|h1
  ·obtain⟨z,hz,h2⟩:=ih h1;exact⟨z,Avn _ hz,h2⟩
  ·exact⟨y,mV,(Cc h1).1⟩
end
theorem Asn:Ah0 (CF.num 0):=⟨rfl,fun _=>rfl,fun _=>rfl⟩

section
section
variable {P:List Par} {C:CF} {b d z:Option Par->Rat} {k:Rat}
end
theorem Al9 {T:List (List UInt8×Nat)}{F:List Aq}{lab:Int}(hF:Ef T F lab)(h1:-1<=lab)(h2:∀ l:Nat,lab=(l:Int)->l<T.length)(z:Option Par->Rat)(P:List Par):∀ {L:List G7},(∀ y∈L,Do T y.1)->0<=Iv z P (Fq F lab L):=by
 intro L;induction L using L3 with
 |h0=>exact fun _=>by show 0<=Iv z P (CF.num 0);rw[Asn.norm z P];exact Rat.le_refl
 |h1 L y ih =>
  intro h;have i1:=ih fun z hz=>h z (Avn _ hz);have hy:=h y mV;have hlen:=hy.len;rw[Hx,Ahq];rcases W8 hF hy h1 (fun l hl=>by have:=h2 l hl;omega) with ⟨_,o⟩|⟨_,o⟩
  ·rw[o.norm];generalize Ah6 z P (cfT F lab y.1).s=v;have hw:(0:Rat)<=(y.2.1:Rat):=by grind
   have hv:0<=v*v:=by
    rcases Rat.le_total (a:=0) (b:=v) with h|h
    ·exact A0i h h
    ·have:=A0i (a:=-v) (b:=-v) (by grind) (by grind);grind
   have:=A0i hv hw;grind
  ·rw[o.norm];grind
end
section
variable {F:List Aq}{n:Nat}
section
variable {P:Program} [A7 P] {fn:Func} {Post:By} {st:List KI×S} {u m:PH}
theorem G.storeE {t:TypeId}(sz i:Nat)(m0:PH)(es:List Value)(g n c j:Nat)(e e' x:Value)(h:Al P (adv P st)=.store (some 1) (.pointer (some ⟨g,0+j*sz+i,none⟩)) x)(ha:Ae m0 m (.slice (some ⟨g,0,none⟩) n c) t sz es)(hj:es[j]?=some e)(hi:i<sz)(he:e'.cells.toList=e.cells.toList.set i x)(hx:x.cells = #[x])(hxo:Bh x=true)
 (k:∀ m',Ae m0 m' (.slice (some ⟨g,0,none⟩) n c) t sz (es.set j e')->G P fn Post (nx (adv P st) undef) u m'):G P fn Post st u m:=by
 obtain⟨hok,hh⟩:=ha;obtain⟨hjl,rfl⟩:=Atc.1 hj;rcases hh with ⟨hn,_,_⟩|⟨g',cap,rest,h0,rfl,hv,hc,hl,hr⟩
 ·cases hn
 ·simp only[Atr,Atd,Addr.mk.injEq]at hv;obtain⟨⟨rfl,_⟩,rfl,rfl⟩:=hv;have hsz:=(hok _ (Ath hjl)).1;have hco:=(hok _ (Ath hjl)).2;have hfl:=A4 hok;have hle:j*sz+sz<=es.length*sz:=by
   have:=Ats sz hjl;rw[Nat.succ_mul]at this;exact this
  have hes':e'.cells.size=sz:=by
   rw[<-Awc,he,Avx,Awc];exact hsz
  have hok':Ax sz (es.set j e'):=hok.set ⟨hes',fun y hy=>by
   rw[he]at hy;rcases List.mem_or_eq_of_mem_set hy with hy|rfl
   ·exact hco y hy
   ·exact hxo⟩
  refine G.storeM 1 g (0+j*sz+i) t (Aw es++rest) x h (Ab _ _ _) (fun y hy=>?_) (by rw[Atg,hfl];omega) (by rw[hx];rfl) (by rw[hx];simp[hxo]) ?_
  ·rcases Ati.1 hy with hy|hy
   ·exact E7 hok y hy
   ·exact hr y hy
  ·rw[Dz];have e1:(Aw es++rest).take (0+j*sz+i)++x.cells.toList++(Aw es++rest).drop (0+j*sz+i+1)=Aw (es.set j e')++rest:=by
    have h1:Aw (es.set j e')=(Aw es).set (j*sz+i) x:=by
     have q1:=Pr (e:=e') hok hes' hjl;have q2:=Pr (e:=es[j]) hok hsz hjl;rw[List.set_getElem_self]at q2;rw[q1,he]
     conv=>rhs;rw[q2]
     have hlt:((Aw es).take (j*sz)).length=j*sz:=by rw[Atm,hfl];omega
     have hle2:es[j].cells.toList.length=sz:=by simpa using hsz
     rw[Au1,Au1,Awm _ _ oV,hlt,Nat.add_sub_cancel_left,Ayu _ _ oV]
    have h2:(Aw es++rest).set (j*sz+i) x=(Aw es).set (j*sz+i) x++rest:=Ayu _ _ oV;rw[h1,<-h2,List.set_eq_take_append_cons_drop,if_pos (by rw[Atg];omega),hx,Aud];simp
   rw[e1];refine k _ ⟨hok',.inr ⟨g,c,rest,h0,rfl,by rw[Avx],by rw[Avx];exact hc,?_,hr⟩⟩;rw[Atg,A4 hok',Avx,<-hfl,<-Atg];exact hl
end
theorem Asm {u:PH}{v:Value}{a:Nat}(h:Ad u v 3 (F.map Ce))(hl:F.length<=1000000):Fn0 prog 24 [v,.int .i64 (a:Int)] u fun r _=>r=.bool (F.any fun f=>f.1==a):=by
 obtain⟨xa,xc,rfl⟩:=h.opn;rw[Ata]at h⊢;refine Fn0.o func24 ?_;refine G.l (ι:=Nat) (fun i=>[(1,iV a),(7,sV xa F.length xc),(8,iV F.length),(9,iV i)]) (fun _=>[])
  (fun i u' m'=>i<=F.length/\(∀ j f,j<i->F[j]?=some f->f.1≠a)/\m'=PH.mt) (fun i=>F.length-i) 0 ⟨oV,fun j f hj=>oV,rfl⟩ ?_
 rintro J i hJ u2 m2 l2 ⟨hi,h0,rfl⟩;by_cases hlt:i<F.length
 ·refine G.lT (i:Int) (F.length:Int) ?_;obtain⟨f,hFi⟩:∃ f,F[i]?=some f:=⟨_,As5 hlt⟩;obtain⟨fb,fo,rfl,ef⟩:=Ad.at' (h.mono l2) (j:=i) (e:=Ce f) (by simp[hFi]);obtain⟨p1,p2,p3⟩:=f;refine G.a fb fo F.length xc i 3 hlt ?_;refine G.lU (some 3) fb (fo+i*3) (.agg #[.int .i64 (p1:Int),.int .i64 (p2:Int),.int .i64 (p3:Int)]) ef ?_;by_cases he:p1=a
  ·refine G.eT (p1:Int) (a:Int) ?_;exact G.r (.bool true) ⟨rfl,by
    rw[Ax1.2 ⟨_,Ato hFi,by simpa using he⟩]⟩
  ·refine G.eF (p1:Int) (a:Int) ?_;refine G.i i ?_;exact G.b (hJ (i+1) _ _ _ cV l2 ⟨oV,fun j g hj hg=>by
    rcases (by omega:j<i\/j=i) with e|rfl
    ·exact h0 j g e hg
    ·rw[hFi]at hg;cases hg;exact he,rfl⟩ oV)
 ·obtain rfl:i=F.length:=oV
  refine G.lF (F.length:Int) (F.length:Int) ?_;exact G.r (.bool false) ⟨rfl,by
   rw[Azp.2 fun f hf=>by
    obtain⟨j,hj,rfl⟩:=Avy hf;simpa using h0 j _ hj (As5 hj)]⟩
def nmB (j:Nat):List UInt8:=[98]++[Vk j]
theorem Ajz {j:Nat}(h:j<26):Hl (nmB j)=true:=by
 have h2:∀ n:Fin 26,Hl (nmB n.val)=true:=jV
 exact h2 ⟨j,h⟩
theorem An7 {l:List Nat}(h1:∀ a∈l,a<n)(h2:∀ (k:Nat) x y,l[k]?=some x->l[k+1]?=some y->x<y):l.length<=n:=by
 have h:∀ k (hk:k<l.length),k<=l[k]:=by
  intro k;induction k with
  |zero=>intro _;omega
  |succ k ih =>
   intro hk;have:=ih oV;have:=h2 k _ _ (As5 oV) (As5 hk);omega
 rcases At5 l.length with e|e
 ·omega
 ·have h3:=h (l.length-1) oV;have h4:=h1 _ (Ath (show l.length-1<l.length by omega));omega
theorem Aky {u u':PH}{R0:List Ch}{r:Ch}{a':Option Addr}{c':Nat}(h:Nh u n (R0++[r]))(hl:PH.le u u')(hn:n<=900)(hL:Ad u' (.slice a' (r.2.1++[n]).length c') 1 (Ah (r.2.1++[n]))):Nh u' (n+1) (R0++[(r.1,r.2.1++[n],(a',c'))]):=by
 have hr:r∈R0++[r]:=mV
 have h0:∀ x∈R0,x∈R0++[r]:=fun x hx=>Avn _ hx;have split:∀ x,x∈R0++[(r.1,r.2.1++[n],(a',c'))]->x∈R0\/x=(r.1,r.2.1++[n],(a',c')):=fun x hx=>by
  rcases Ati.1 hx with hx|hx
  ·exact .inl hx
  ·exact .inr (by simpa using hx)
 refine⟨?_,?_,?_,?_,?_,?_,?_⟩
 ·have:=h.names;rw[Atk]at this⊢;exact this
 ·intro x hx;rcases split x hx with hx|rfl
  ·exact h.ne x (h0 x hx)
  ·simp
 ·intro x hx a ha;rcases split x hx with hx|rfl
  ·have:=h.lt x (h0 x hx) a ha;omega
  ·rcases Ati.1 ha with ha|ha
   ·have:=h.lt r hr a ha;omega
   ·simp at ha;omega
 ·intro x hx;rcases split x hx with hx|rfl
  ·exact h.len x (h0 x hx)
  ·have:=An7 (h.lt r hr) (h.asc r hr);simp only[Atg,List.length_singleton];omega
 ·intro x hx k a b ha hb;rcases split x hx with hx|rfl
  ·exact h.asc x (h0 x hx) k a b ha hb
  ·simp only at ha hb;rcases Nat.lt_or_ge (k+1) r.2.1.length with hk|hk
   ·rw[Atl oV]at ha hb;exact h.asc r hr k a b ha hb
   ·rw[At1 hk]at hb;have hk0:k+1-r.2.1.length=0:=by
     obtain⟨q,_⟩:=Atc.1 hb;simp at q;omega
    rw[hk0]at hb;simp at hb;subst hb;rw[Atl oV]at ha;exact h.lt r hr a (Ato ha)
 ·intro a ha;by_cases e:a=n
  ·subst e;exact⟨_,by simp;right;rfl,mV⟩
  ·obtain⟨x,hx,hax⟩:=h.all a oV;rcases Ati.1 hx with hx|hx
   ·exact⟨x,Avn _ hx,hax⟩
   ·simp at hx;subst hx;exact⟨_,by simp;right;rfl,Avn _ hax⟩
 ·intro x hx;rcases split x hx with hx|rfl
  ·exact (h.at' x (h0 x hx)).mono hl
  ·exact hL
theorem Akh {u u':PH}{T:List (List UInt8×Nat)}{R R':List Ch}{lab:Int}(ok:Bz u T R F lab)(hT:T.length<=11)(hn:∀ a∈T,a.1≠nmB T.length)(hR:Nh u' (T.length+1) R')(hRl:R'.length=R.length):Bz u' (T++[(nmB T.length,2)]) R' F lab:=by
 have hw:=Ajz (j:=T.length) oV;refine⟨⟨⟨?_,?_⟩,?_⟩,?_,⟨?_,ok.feat.nodup⟩,?_,?_,?_,?_,ok.f2,ok.l1,?_⟩
 ·intro s hs;rw[Atk]at hs;rcases Ati.1 hs with hs|hs
  ·exact ok.att.names.word s hs
  ·simp at hs;subst hs;exact hw
 ·rw[Atk,Awq];refine⟨ok.att.names.nodup,mV,fun a ha b hb e=>?_⟩;simp at hb;obtain⟨x,hx,rfl⟩:=Ate.1 ha;exact hn x hx (e.trans hb)
 ·intro a ha;rcases Ati.1 ha with ha|ha
  ·exact ok.att.kind a ha
  ·simp at ha;subst ha;exact⟨mV,mV⟩
 ·rw[Atg];exact hR
 ·intro f hf;obtain⟨n,k,h1,h2⟩:=ok.feat.ok f hf;exact⟨n,k,by rw[Atl (Atc.1 h1).1];exact h1,h2⟩
 ·rw[Atg];simp
 ·rw[Atg];simp;omega
 ·rw[hRl];exact ok.r1
 ·rw[hRl];exact ok.r2
 ·intro l hl;obtain⟨n,h1⟩:=ok.l2 l hl;exact⟨n,by rw[Atl (Atc.1 h1).1];exact h1⟩
end
theorem U4 (T:List (List UInt8×Nat)):Ax 2 (T.map Ej):=by
 intro e he;obtain⟨x,_,rfl⟩:=Ate.1 he;exact⟨rfl,fun y hy=>by simp[Ej,Atw]at hy;rcases hy with rfl|rfl<;>rfl⟩
theorem Aku (R:List Ch):Ax 2 (R.map Gw):=by
 intro e he;obtain⟨x,_,rfl⟩:=Ate.1 he;exact O6 x _ mV
theorem Apw {u:PH}{v:Value}{T:List (List UInt8×Nat)}{R:List Ch}{F:List Aq}{lab:Int}(hX:Ir u v T R F lab)(ok:Bz u T R F lab)(hT:T.length<=11)(hn:∀ a∈T,a.1≠nmB T.length) :
 Fn0 prog 25 [v,.int .i64 2] u fun r u'=>∃ R',Ir u' r (T++[(nmB T.length,2)]) R' F lab/\Bz u' (T++[(nmB T.length,2)]) R' F lab:=by
 obtain⟨xa,xc,xb,xd,xe,xf,rfl,hTL,hRL,hFL⟩:=hX;have r1:=ok.r1;have r2:=ok.r2;obtain⟨R0,r,rfl⟩:∃ R0 r,R=R0++[r]:=⟨R.dropLast,R.getLast (fun e=>by rw[e]at r1;simp at r1),(List.dropLast_concat_getLast _).symm⟩;have hrl:=ok.rel.at' r mV;have hll:=ok.rel.len r mV;refine Fn0.o func25 ?_;refine G.appendL 77 2 24 (.agg #[.string (mkS []),.int .i64 0]) PH.mt [] (T.map Ej) (.slice none 0 0) xa T.length xc kV rfl rfl oV (Ae.nil _ _ _) hTL (U4 T) gV gV ?_;intro v1 m1 hA1;rw[Ava]at hA1;obtain⟨a1,c1,rfl⟩:=hA1.shape;rw[Ata]at hA1⊢;refine G.c call75 (O1 (p:=[98]) (i:=T.length) oV mV) ?_;rintro v2 u2 l2 rfl;refine G.B 77 2 24 (.agg #[.string (mkS []),.int .i64 0]) [.agg #[.string (mkS ([98]++[Vk T.length])),.int .i64 2]] (U4 [(nmB T.length,2)]) ?_;intro g3 u3 l3 e3;refine G.k 77 2 24 (.agg #[.string (mkS []),.int .i64 0]) PH.mt (T.map Ej) [Ej (nmB T.length,2)] (.slice a1 T.length c1) g3 0 1 1 hA1 e3 (U4 [(nmB T.length,2)]) ?_;intro v4 m4 hA4;rw[show T.map Ej++[Ej (nmB T.length,2)]=(T++[(nmB T.length,2)]).map Ej by rw[Atk];rfl]at hA4;obtain⟨a4,c4,rfl⟩:=hA4.shape;rw[Ata]at hA4⊢;refine G.appendL 155 2 40 (.agg #[.string (mkS []),.slice none 0 0]) m4 [] ((R0++[r]).map Gw) (.slice none 0 0) xb (R0++[r]).length xd kV rfl rfl oV (Ae.nil _ _ _) (hRL.mono (l2.trans l3)) (Aku _) (by rw[Ata];simp at r2⊢;omega) (by rw[Ata];simp at r2⊢;omega) ?_;intro v5 m5 hA5;rw[Ava]at hA5;obtain⟨b5,c5,rfl⟩:=hA5.ptr mV;rw[Ata]at hA5⊢;have hRl:(R0++[r]).length=R0.length+1:=mV
 refine G.s ((R0++[r]).length:Int) 1 (R0.length:Int) ?_;refine G.a b5 0 (R0++[r]).length c5 R0.length 2 oV ?_;have hel:ElP m5 b5 (0+R0.length*2) (Gw r):=hA5.el mV;refine G.f 155 b5 (0+R0.length*2) 1 1 ?_;refine G.lM none b5 (0+R0.length*2+1) (.slice r.2.2.1 r.2.1.length r.2.2.2) (hel.fld (j:=1) (xs:=#[.string (mkS r.1),.slice r.2.2.1 r.2.1.length r.2.2.2]) rfl rfl) ?_;have hil:(Ah r.2.1).length=r.2.1.length:=by simp[Ah]
 refine G.appendL 3 1 8 (.int .i64 0) m5 [] (Ah r.2.1) (.slice none 0 0) r.2.2.1 r.2.1.length r.2.2.2 kV rfl rfl oV (Ae.nil _ _ _) (hrl.mono (l2.trans l3)) (Az _) (by simp[hil];omega) (by simp[hil];omega) ?_;intro v6 m6 hA6;rw[Ava]at hA6;obtain⟨a6,c6,rfl⟩:=hA6.shape;rw[hil]at hA6⊢;refine G.buildU 3 1 8 (.int .i64 0) (Ah [T.length]) kV (Az [T.length]) rfl oV (by simp[Ah]) (by simp[Ah]) ?_;intro g7 u7 l7 e7;refine G.append 3 1 8 (.int .i64 0) m5 (Ah r.2.1) (Ah [T.length]) (.slice a6 r.2.1.length c6) g7 0 1 1 kV rfl rfl oV hA6 e7 (Az [T.length]) rfl oV (by simp[hil];omega) (by simp[hil];omega) ?_;intro v8 m8 hA8;rw[show Ah r.2.1++Ah [T.length]=Ah (r.2.1++[T.length]) by simp[Ah]]at hA8;obtain⟨a8,c8,rfl⟩:=hA8.shape;have hil2:(Ah (r.2.1++[T.length])).length=(r.2.1++[T.length]).length:=by simp[Ah]
 rw[hil2]at hA8⊢;obtain⟨mx,hy1,hx1,hput⟩:=At.swap (x:=⟨.slice (some ⟨b5,0,none⟩) (R0++[r]).length c5,155,2,(R0++[r]).map Gw⟩) (y:=⟨.slice a8 (r.2.1++[T.length]).length c8,3,1,Ah (r.2.1++[T.length])⟩) hA8 hA5;refine G.f 155 b5 (0+R0.length*2) 1 1 ?_;refine G.storeE (t:=155) 2 1 mx ((R0++[r]).map Gw) b5 (R0++[r]).length c5 R0.length (Gw r) (Gw (r.1,r.2.1++[T.length],(a8,c8))) (.slice a8 (r.2.1++[T.length]).length c8) kV hx1 mV oV rfl rfl rfl ?_;intro m9 hA9;have e9:((R0++[r]).map Gw).set R0.length (Gw (r.1,r.2.1++[T.length],(a8,c8)))=(R0++[(r.1,r.2.1++[T.length],(a8,c8))]).map Gw:=by
  rw[Atk,Atk,Awm _ _ mV,Ata,Avc];rfl
 rw[e9]at hA9;have hlm:PH.le mx m9:=fun g o hg=>hA9.see hg;obtain⟨my,hz1,hz2⟩:=hput ⟨.slice (some ⟨b5,0,none⟩) (R0++[r]).length c5,155,2,(R0++[(r.1,r.2.1++[T.length],(a8,c8))]).map Gw⟩ m9 hA9;have hl4:PH.le m4 m9:=fun g o hg=>hlm g o (hy1.see hg);refine G.giveP (ma:=m9) (sm:=PH.mt) kV (Amq m9).symm (fun g=>.inr rfl) (fun g=>.inl rfl) ?_;intro u10 l10 hm10;have leA:=((l2.trans l3).trans l7).trans l10;have hR':Nh u10 (T.length+1) (R0++[(r.1,r.2.1++[T.length],(a8,c8))]):=Aky ok.rel leA oV (Ae.list hy1 (hlm.trans hm10));have hlen':(R0++[(r.1,r.2.1++[T.length],(a8,c8))]).length=(R0++[r]).length:=mV
 exact G.r (.agg #[.slice a4 (T++[(nmB T.length,2)]).length c4,.slice (some ⟨b5,0,none⟩) (R0++[r]).length c5,.slice xe F.length xf,.int .i64 lab]) ⟨rfl,_,⟨_,_,_,_,_,_,by rw[hlen'],Ae.list hA4 (hl4.trans hm10),by rw[hlen'];exact Ae.list hA9 hm10,hFL.mono leA⟩,Akh ok hT hn hR' hlen'⟩
section
variable {R:List Ch}{T:List (List UInt8×Nat)}{a:Nat}{lab:Int}{n:List UInt8}{u:PH}
def Ah2 (T:List (List UInt8×Nat)):Prop:=∀ a∈T,(∃ j,a.1=nmA j)\/∃ j,j<T.length/\a.1=nmB j
theorem Amu (h:Ah2 T)(hT:T.length<26):∀ a∈T,a.1≠nmB T.length:=by
 intro a ha e;rcases h a ha with ⟨j,hj⟩|⟨j,hj,e2⟩
 ·rw[hj]at e;unfold nmA nmB at e;simp at e
 ·rw[e2]at e;unfold nmB at e;simp only[List.cons_append,Ava,List.cons.injEq,and_true,true_and]at e;have h1:=S8 (i:=j) oV;have h2:=S8 (i:=T.length) hT;rw[e,h2]at h1;omega
theorem Ah2.snoc (h:Ah2 T)(k:Nat):Ah2 (T++[(nmB T.length,k)]):=by
 intro a ha;rcases Ati.1 ha with ha|ha
 ·rcases h a ha with h1|⟨j,hj,e⟩
  ·exact .inl h1
  ·exact .inr ⟨j,gV,e⟩
 ·simp at ha;subst ha;exact .inr ⟨T.length,mV,rfl⟩
theorem TOK.nmOK (h:TOK T):Ah2 T:=by
 intro a ha;have:a.1∈T.map (·.1):=Ate.2 ⟨a,ha,rfl⟩;rw[h.nm]at this;obtain⟨j,_,e⟩:=Ate.1 this;exact .inl ⟨j,e.symm⟩
theorem Af8 {F:List Aq}(ok:Bz u T R F lab)(ha:T[a]?=some (n,2))(hF:∀ f∈F,f.1≠a):Bz u T R F (a:Int):=by
 refine⟨ok.att,ok.rel,⟨fun f hf=>?_,ok.feat.nodup⟩,ok.t1,ok.t2,ok.r1,ok.r2,ok.f2,oV,fun l hl=>?_⟩
 ·obtain⟨n,k,h1,h2,_⟩:=ok.feat.ok f hf;have:=hF f hf;exact⟨n,k,h1,h2,oV⟩
 ·have:l=a:=oV
  subst this;exact⟨n,ha⟩
theorem Alb (ok:Bz u T R [] lab){a mi:Nat}(ha:T[a]?=some (n,2))(hl:(a:Int)≠lab)(hm:mi<=1):Bz u T R [(a,1,mi)] lab:=by
 refine⟨ok.att,ok.rel,⟨fun f hf=>?_,mV⟩,ok.t1,ok.t2,ok.r1,ok.r2,mV,ok.l1,ok.l2⟩;simp at hf;subst hf;exact⟨n,2,ha,.inl ⟨rfl,rfl,hm⟩,hl⟩
theorem Y8 {s:Src}{ts:List Int}{k:Nat}(most:Nat)(hm1:1<=most)(hm6:most<=6)(h:Li u s ts)(hk:k<=s.n) :
 Ak prog 6 [s.ptr,.int .i64 (most:Int)] u (s.M k) fun v u' m'=>∃ (T:List (List UInt8×Nat)) (R:List Ch) (F:List Aq) (lab:Int) (k':Nat),Ir u' v T R F lab/\Bz u' T R F lab/\T.length<=8/\0<=lab/\F≠[]/\k'<=s.n/\m'=s.M k'/\F.length<=most:=by
 refine Ak.o func6 ?_;refine G.A call23 (Aa4 most hm1 hm6 h hk) ?_;rintro v1 u1 m1 l1 ⟨T,R,F,lab,k1,hX,ok,hT6,hk1,rfl,hTOK,_,hFm⟩ _;rw[C6];have hnm:=hTOK.nmOK;obtain⟨xa,xc,xb,xd,xe,xf,rfl,hTL,hRL,hFL⟩:=id hX;have ol1:=ok.l1;have hf8:=ok.f2;refine G.joinF (ι:=Int) (fun st=>Ad3 prog st [.bool false]) (fun z=>[(0,.v s.ptr),(4,.p 0 0),(5,.p 1003 0)])
  (fun z=>[(0,⟨30,[sV none 0 0,sV none 0 0,sV none 0 0,iV 0]⟩),(1003,⟨30,[sV xa T.length xc,sV xb R.length xd,sV xe F.length xf,iV z]⟩)])
  (fun z u' m'=>m'=s.M k1/\Bz u' T R F z) (fun _=>kV) kV ?tail ?way
 case way =>
  intro hjoin;by_cases hl:lab<0
  ·refine G.lT' lab 0 hl ?_;refine G.l (ι:=Nat×Int) (fun i=>[(0,.v s.ptr),(4,.p 0 0),(5,.p 1003 0),(15,sV xa T.length xc),(16,iV T.length),(17,iV i.1)])
    (fun i=>[(0,⟨30,[sV none 0 0,sV none 0 0,sV none 0 0,iV 0]⟩),(1003,⟨30,[sV xa T.length xc,sV xb R.length xd,sV xe F.length xf,iV i.2]⟩)])
    (fun i u' m'=>i.1<=T.length/\m'=s.M k1/\Bz u' T R F i.2) (fun i=>T.length-i.1) (0,lab) ⟨oV,rfl,ok⟩ ?_
   rintro J ⟨i,z⟩ hJ u2 m2 l2 ⟨hi,rfl,ok2⟩;simp only at hi ok2 hJ;by_cases hlt:i<T.length
   ·refine G.lT (i:Int) (T.length:Int) ?_;obtain⟨x,hTi⟩:∃ x,T[i]?=some x:=⟨_,As5 hlt⟩;obtain⟨ba,oa,rfl,ea⟩:=Ad.at' (hTL.mono l2) (j:=i) (e:=Ej x) (by simp[hTi]);obtain⟨xn,xk⟩:=x;refine G.a ba oa T.length xc i 2 hlt ?_;refine G.lU (some 2) ba (oa+i*2) (.agg #[.string (mkS xn),.int .i64 (xk:Int)]) ea ?_;by_cases h2:xk=2
    ·subst h2;refine G.eT ((2:Nat):Int) 2 ?_;refine G.c call24 (Asm (a:=i) (hFL.mono l2) oV) ?_;rintro v3 u3 l3 rfl;cases hu:F.any fun f=>f.1==i with
     |true =>
      refine G.i i ?_;exact G.b (hJ (i+1,z) _ _ _ cV (l2.trans l3) ⟨dV,rfl,ok2.mono l3⟩ dV)
     |false =>
      refine G.i i ?_;exact G.b (hJ (i+1,(i:Int)) _ _ _ cV (l2.trans l3) ⟨dV,rfl,Af8 (ok2.mono l3) hTi fun f hf e=>by
       have:=Azp.1 hu f hf;simp[e]at this⟩ dV)
    ·refine G.eF (xk:Int) 2 ?_;refine G.i i ?_;exact G.b (hJ (i+1,z) _ _ _ cV l2 ⟨dV,rfl,ok2⟩ dV)
   ·obtain rfl:i=T.length:=oV
    refine G.lF (T.length:Int) (T.length:Int) ?_;exact hjoin z _ _ _ kV cV l2 ⟨rfl,ok2⟩
  ·refine G.lF lab 0 ?_;exact hjoin lab _ _ _ kV cV (PH.le_refl _) ⟨rfl,ok⟩
 rintro z u2 m2 l2 ⟨rfl,ok2⟩;have hX2:Ir u2 (.agg #[.slice xa T.length xc,.slice xb R.length xd,.slice xe F.length xf,.int .i64 z]) T R F z:=⟨_,_,_,_,_,_,rfl,hTL.mono l2,hRL.mono l2,hFL.mono l2⟩;have hFL2:=hFL.mono l2;clear hX hTL hRL ok hTOK hFL;refine G.joinF (ι:=(List (List UInt8×Nat)×(Option Addr×Nat))×(List Ch×(Option Addr×Nat))×(Option Addr×Nat)×Int) (fun st=>Ad3 prog st [.bool false]) (fun _=>[(0,.v s.ptr),(4,.p 0 0),(5,.p 1003 0)])
  (fun i=>[(0,⟨30,[sV none 0 0,sV none 0 0,sV none 0 0,iV 0]⟩),(1003,⟨30,[sV i.1.2.1 i.1.1.length i.1.2.2,sV i.2.1.2.1 i.2.1.1.length i.2.1.2.2,sV i.2.2.1.1 F.length i.2.2.1.2,iV i.2.2.2]⟩)])
  (fun i u' m'=>m'=s.M k1/\Bz u' i.1.1 i.2.1.1 F i.2.2.2/\Ir u' (.agg #[.slice i.1.2.1 i.1.1.length i.1.2.2,.slice i.2.1.2.1 i.2.1.1.length i.2.1.2.2,.slice i.2.2.1.1 F.length i.2.2.1.2,.int .i64 i.2.2.2]) i.1.1 i.2.1.1 F i.2.2.2/\Ah2 i.1.1/\i.1.1.length<=7/\0<=i.2.2.2) (fun _=>kV) kV ?tail2 ?way2
 case way2 =>
  intro hjoin;by_cases hl:z<0
  ·refine G.lT' z 0 hl ?_;refine G.c call25 (Apw hX2 ok2 oV (Amu hnm oV)) ?_;rintro v3 u3 l3 ⟨R',hX3,ok3⟩;obtain⟨ya,yc,yb,yd,ye,yf,rfl,hTL3,hRL3,hFL3⟩:=id hX3;have hlen:(T++[(nmB T.length,2)]).length=T.length+1:=mV
   refine G.s ((T++[(nmB T.length,2)]).length:Int) 1 (T.length:Int) ?_;have ok4:Bz u3 (T++[(nmB T.length,2)]) R' F (T.length:Int):=Af8 ok3 (n:=nmB T.length) mV fun f hf e=>by
    obtain⟨n,kd,h1,_⟩:=ok2.feat.ok f hf;have:=(Atc.1 h1).1;omega
   exact hjoin ((T++[(nmB T.length,2)],(ya,yc)),(R',(yb,yd)),(ye,yf),(T.length:Int)) _ _ _ kV cV l3 ⟨rfl,ok4,⟨_,_,_,_,_,_,rfl,hTL3,hRL3,hFL3⟩,hnm.snoc 2,dV,dV⟩
  ·refine G.lF z 0 ?_;exact hjoin ((T,(xa,xc)),(R,(xb,xd)),(xe,xf),z) _ _ _ kV cV (PH.le_refl _) ⟨rfl,ok2,hX2,hnm,dV,dV⟩
 rintro⟨⟨T,⟨xa,xc⟩⟩,⟨R,⟨xb,xd⟩⟩,⟨xe,xf⟩,z⟩ u3 m3 l3 ⟨rfl,ok3,hX3,hnm,hT7,hz⟩;simp only at ok3 hX3 hnm hT7 hz;by_cases hF0:F = []
 ·subst hF0;refine G.eT' ((([]:List Aq).length:Nat):Int) 0 rfl ?_;refine G.c call25 (Apw hX3 ok3 oV (Amu hnm oV)) ?_;rintro v4 u4 l4 ⟨R',hX4,ok4⟩;obtain⟨ya,yc,yb,yd,ye,yf,rfl,hTL4,hRL4,hFL4⟩:=id hX4;have hlen:(T++[(nmB T.length,2)]).length=T.length+1:=mV
  refine G.s ((T++[(nmB T.length,2)]).length:Int) 1 (T.length:Int) ?_;refine G.A call26 (Ka (n:=2) (h.mono (((l1.trans l2).trans l3).trans l4)) hk1 oV oV) ?_;rintro v5 u5 m5 l5 ⟨r,k5,rfl,hr,hk5,rfl⟩ _;rw[C6];refine G.B 82 3 24 (.agg #[.int .i64 0,.int .i64 0,.int .i64 0]) [.agg #[.int .i64 (T.length:Int),.int .i64 1,.int .i64 (r:Int)]] (Id (T.length,1,r)) ?_;intro g6 u6 l6 e6;have hzl:((T.length:Nat):Int)≠z:=by
   intro e;obtain⟨n,hn⟩:=ok3.l2 T.length e.symm;have:=(Atc.1 hn).1;omega
  have ok6:Bz u6 (T++[(nmB T.length,2)]) R' [(T.length,1,r)] z:=Alb (n:=nmB T.length) (ok4.mono (l5.trans l6)) mV hzl oV;exact G.r (.agg #[.slice ya (T++[(nmB T.length,2)]).length yc,.slice yb R'.length yd,.slice (some ⟨g6,0,none⟩) 1 1,.int .i64 z]) ⟨_,R',[(T.length,1,r)],z,k5,⟨_,_,_,_,_,_,rfl,hTL4.mono (l5.trans l6),hRL4.mono (l5.trans l6),e6.listP⟩,ok6,oV,hz,mV,hk5,rfl,hm1⟩
 ·refine G.eqlF (F.length:Int) 0 kV (by
   have:F.length≠0:=fun e=>hF0 (A1b.1 e);omega) ?_
  exact G.r (.agg #[.slice xa T.length xc,.slice xb R.length xd,.slice xe F.length xf,.int .i64 z]) ⟨T,R,F,z,k1,hX3,ok3,oV,hz,hF0,hk1,rfl,hFm⟩
end
section
variable {F:List Aq}{L:List G7}{R:List Ch}{T:List (List UInt8×Nat)}{lab:Int}{u:PH}
theorem Apv {n:Nat}(h:n<=8):1374926400^n*7*100<10^100:=by
 have h1:1374926400^n<=1374926400^8:=Nat.pow_le_pow_right oV h;have h2:1374926400^8<10^80:=jV
 have h3:(10:Nat)^80*100000<10^100:=jV
 omega
theorem Td (ok:Bz u T R F lab)(hT:T.length<=8)(hL:∀ y∈L,Do T y.1/\y.2.1<=7)(hl:L.length<=100):CFS (Fq F lab L)/\CFV (Fq F lab L):=by
 obtain⟨s1,s2⟩:=Xz ok hL;refine⟨s1.cfs oV ?_,s2⟩;have hp:=Apv hT;have:=Ats (1374926400^T.length*7) hl;omega
theorem Ys {v:Value}{a:Option Addr}{c:Nat}(hX:Ir u v T R F lab)(ok:Bz u T R F lab)(hT8:T.length<=8)(hL:Ad u (.slice a L.length c) 2 (L.map Lh))(hW:WOK u T L)(hl:L.length<=6) :
 Fn0 prog 8 [v,.slice a L.length c] u fun r u'=>Ar4 u' r (Fq F lab L) 1530:=by
 have hck:=fun (u':PH) (l:PH.le u u')=>Qt (hX.mono l) (ok.mono l);obtain⟨xa,xc,xb,xd,xe,xf,rfl,hTL,hRL,hFL⟩:=id hX;have hp8:=Apv hT8;have hall:∀ n,∀ y∈L.take n,Do T y.1/\y.2.1<=7:=fun n y hy=>by
  obtain⟨_,q1,_,q2⟩:=hW y (List.mem_of_mem_take hy);exact⟨q1,q2⟩
 have hcfs:∀ n,CFS (Fq F lab (L.take n)):=fun n=>(Td ok hT8 (hall n) (by rw[Atm];omega)).1;refine Fn0.o func8 ?_;refine G.c call29 (hck u (PH.le_refl _)) ?_;rintro v1 u1 l1 rfl;refine G.nF 0 0 ?_;refine G.gF (L.length:Int) 2000 ?_;refine G.callO _ _ kV call30 (H4 (n:=0) oV oV) ?_;intro v2 u2 m2 l2 k2 _;rw[C6];have n0:(⟨((0:Int):Rat),fun _=>0,fun _=>0⟩:CF)=CF.num 0:=by rw[show ((0:Int):Rat)=0 by decide +kernel];rfl
 rw[n0]at k2;obtain⟨b,a2,n,c2,b',a',n',c',g1,g2,rfl⟩:=Lu k2;refine G.l (ι:=Nat×(Bool×SlI)×(Bool×SlI)×Nat×Nat) (fun i=>[(2,.p 0 0),(4,.p 1 0),(7,.p 6001 0),(22,sV a L.length c),(23,iV L.length),(24,iV i.1)])
  (fun i=>[(0,⟨30,[sV xa T.length xc,sV xb R.length xd,sV xe F.length xf,iV lab]⟩),(1,⟨38,[tV [],sV none 0 0,sV none 0 0]⟩),(6001,⟨92,[bV i.2.1.1,sV i.2.1.2.1 i.2.1.2.2.1 i.2.1.2.2.2,bV i.2.2.1.1,sV i.2.2.1.2.1 i.2.2.1.2.2.1 i.2.2.1.2.2.2,.v (.map (some i.2.2.2.1)),.v (.map (some i.2.2.2.2))]⟩)])
  (fun i u' m'=>i.1<=L.length/\Iq m' u' (.agg #[.bool i.2.1.1,.slice i.2.1.2.1 i.2.1.2.2.1 i.2.1.2.2.2,.bool i.2.2.1.1,.slice i.2.2.1.2.1 i.2.2.1.2.2.1 i.2.2.1.2.2.2,.map (some i.2.2.2.1),.map (some i.2.2.2.2)]) (Fq F lab (L.take i.1)) (255*i.1))
  (fun i=>L.length-i.1) (0,(b,a2,n,c2),(b',a',n',c'),g1,g2) ⟨oV,k2⟩ ?_
 rintro J ⟨i,⟨b,a2,n,c2⟩,⟨b',a',n',c'⟩,g1,g2⟩ hJ u3 m3 l3 ⟨hi,hC⟩;simp only at hi hC hJ;have le3:=(l1.trans l2).trans l3;by_cases hlt:i<L.length
 ·refine G.lT (i:Int) (L.length:Int) ?_;obtain⟨y,hLi⟩:∃ y,L[i]?=some y:=⟨_,As5 hlt⟩;obtain⟨hS,hT,hw1,hw2⟩:=hW y (Ato hLi);obtain⟨ba,oa,rfl,ea⟩:=Ad.at' (hL.mono le3) (j:=i) (e:=Lh y) (by simp[hLi]);obtain⟨ss,w,ya,yc⟩:=y;simp only at hS hT hw1 hw2;have htk:L.take (i+1)=L.take i++[(ss,w,ya,yc)]:=by rw[At0,hLi];rfl
  have hP:Ahb u (.agg #[.slice xa T.length xc,.slice xb R.length xd,.slice xe F.length xf,.int .i64 lab]) (.slice ya ss.length yc) T R F lab ss:=⟨hX,ok,hS,hT⟩;have hlen:=hT.len;obtain⟨d1,d2⟩:=Ajy ok hT;have sK:CFS ((cfT F lab ss).scale (w:Rat)):=(d1.scale (Aoc hw2)).cfs oV oV;have hsum:Fq F lab (L.take (i+1))=(Fq F lab (L.take i)).add ((cfT F lab ss).scale (w:Rat)):=by rw[htk,Hx]
  refine G.a ba oa L.length c i 2 hlt ?_;refine G.lU (some 2) ba (oa+i*2) (.agg #[.slice ya ss.length yc,.int .i64 (w:Int)]) ea ?_;refine G.c call31 (Ai3 (hP.mono le3)) ?_;rintro v4 u4 l4 rfl;refine G.nF 0 0 ?_;refine G.lF (w:Int) (-1000000000000) ?_;refine G.gF (w:Int) 1000000000000 ?_;refine G.c call33 (Akq (hP.mono (le3.trans l4)) oV) ?_;rintro v5 u5 l5 ⟨k5,sF⟩;obtain⟨b5,a5,n5,c5,b5',a5',n5',c5',g51,g52,rfl⟩:=Pz k5;refine G.c call14 (Uk (z:=(w:Int)) oV oV) ?_;intro v6 u6 l6 k6;rw[Au6]at k6;obtain⟨b6,a6,n6,c6,a6',n6',c6',rfl,_⟩:=k6.opn;have hwb:SB (w:Rat):=(Aoc hw2).small oV oV;refine G.callA _ _ kV kV call32 (C6 m3).symm (Ic m3)
   (Aly (((hC.grow l4).grow l5).grow l6) (k5.mono l6) k6 hwb (hcfs i) sF sK (by rw[<-hsum];exact hcfs (i+1))) ?_
  intro v7 u7 m7 l7 k7 _;rw[<-hsum]at k7;rw[C6];obtain⟨b7,a7,n7,c7,b7',a7',n7',c7',g71,g72,rfl⟩:=Lu k7;refine G.i i ?_;exact G.b (hJ (i+1,(b7,a7,n7,c7),(b7',a7',n7',c7'),g71,g72) _ _ _ cV ((((l3.trans l4).trans l5).trans l6).trans l7) ⟨dV,k7.congr rfl dV⟩ dV)
 ·obtain rfl:i=L.length:=oV
  refine G.lF (L.length:Int) (L.length:Int) ?_;have hc:=hcfs L.length;rw[At9]at hC hc;refine G.callK _ _ kV call34 (Ahy hC.i hc oV) ?_;rintro v7 u7 l7 ⟨r,rfl,k7⟩;obtain⟨e1,f1,h1,e2,f2,h2,rfl⟩:=k7.opn;refine G.drop PH.mt kV (PH.mt_le _) ?_;exact G.r (.tuple #[.agg #[.string (mkS (Ap (Fq F lab L).c)),.slice e1 f1 h1,.slice e2 f2 h2],.int .i64 0]) ⟨rfl,_,rfl,k7.up oV⟩
end
section
variable {L:List G7}
theorem Ae3 {F:List Aq}{lab:Int}:∀ p,(Fq F lab L).s p≠0->Aa3 F lab p:=fun p hp=>by
 obtain⟨y,hy,hne⟩:=Agr hp;exact (Adg hne).1
theorem WOK.tup {u:PH}{T:List (List UInt8×Nat)}(h:WOK u T L):∀ y∈L,Do T y.1/\y.2.1<=7:=fun y hy=>by
 obtain⟨_,q1,_,q2⟩:=h y hy;exact⟨q1,q2⟩
end
section
variable {F:List Aq}{L:List G7}{T:List (List UInt8×Nat)}{lab:Int}
def C9 (T:List (List UInt8×Nat))(ss:List (List UInt8)):Prop:=∀ (i:Nat) (x:List UInt8×Nat) (t:List UInt8),T[i]?=some x->ss[i]?=some t->x.2=3->t = []\/Acg t=true
theorem W9.c9 (h:W9 T L):∀ y∈L,C9 T y.1:=fun y hy i x t hx ht h3=>by
 rcases h y hy i x t hx ht with h|⟨_,h⟩|⟨e,_⟩|⟨e,_⟩
 ·exact .inl h
 ·exact .inr h
 ·omega
 ·omega
theorem Ari {ss:List (List UInt8)}{p:Par}{i:Nat}{f:Aq}(hF:Ef T F lab)(ht:Do T ss)(h9:C9 T ss)(hne:(cfT F lab ss).s p≠0)(hp:p.1=(i:Int))(hf:F[i]?=some f)(hk:f.2.1=2):p.2 = []\/Acg p.2=true:=by
 obtain⟨_,a,q,ha,_⟩:=Adg hne;have hla:a<ss.length:=by
  have:=(Atc.1 ha).1;rwa[Gj]at this
 have e:=Ii (F:=F) (lab:=lab) (w:=ss[a]) (As5 hla);rw[ha]at e;have e2:Ge F lab a ss[a]=some (some (p,q)):=(Auq e).symm;obtain⟨x,hx,hv⟩:=ht.at hla;have h9:=h9 a x ss[a] hx (As5 hla);generalize ss[a]=w at e2 hv h9;by_cases hl:(a:Int)=lab
 ·have e4:Ge F lab a w=Rk w:=by unfold Ge;rw[if_pos hl]
  rw[e4]at e2;unfold Rk at e2;split at e2
  ·cases e2
  ·simp only[Atd,Aun]at e2;obtain⟨rfl,_⟩:=e2;simp only at hp;omega
 ·rcases Gt (F:=F) (w:=w) hl with h1|⟨j,g,hg,hga,h1⟩
  ·rw[h1]at e2;cases e2
  ·rw[h1]at e2;have hji:p.1=(j:Int):=by
    unfold Ji at e2;split at e2
    ·cases e2;rfl
    ·split at e2
     ·split at e2<;>cases e2
     ·cases e2;rfl
   obtain rfl:j=i:=oV
   rw[hg]at hf;cases hf;unfold Ji at e2;rw[if_pos hk]at e2;simp only[Atd,Aun]at e2;obtain⟨rfl,_⟩:=e2;obtain⟨n,k,h1,h2,_⟩:=hF.ok f (Ato hg);rw[hga,hx]at h1;cases h1;exact h9 oV
theorem Zy {α β:Type}{f:α->List β}{n:Nat}:∀ {l:List α},(∀ x∈l,(f x).length<=n)->(l.flatMap f).length<=l.length*n
 |[],_=>mV
 |x::l,h=>by
  rw[Azl,Atg,Auh,At2,Avm];have h1:=h x mV;have h2:=Zy (l:=l) fun y hy=>h y (by simp[hy]);omega
theorem Aok {P:List Par}(hF:Ef T F lab)(hT:∀ y∈L,Do T y.1)(h9:∀ y∈L,C9 T y.1)(hP:Uf F (Fq F lab L) P):P.length<=F.length*4:=by
 have hsub:P ⊆ (At3 F.length).flatMap fun (i:Nat)=>[((i:Int),([]:List UInt8)),((i:Int),Adx),((i:Int),Oa),((i:Int),Sj)]:=fun p hp=>by
  rcases (hP.2 p).1 hp with ⟨i,f,rfl,hf,_⟩|⟨hne,i,f,h1,hf,h2⟩
  ·exact Ax3.2 ⟨i,by simpa using (Atc.1 hf).1,by unfold Jo;simp⟩
  ·refine Ax3.2 ⟨i,by simpa using (Atc.1 hf).1,?_⟩;obtain⟨y,hy,hy2⟩:=Agr hne;obtain⟨p1,p2⟩:=p;simp only at h1;subst h1;rcases Ari hF (hT y hy) (h9 y hy) hy2 rfl hf h2 with h3|h3
   ·simp only at h3;subst h3;simp
   ·rcases Aot h3 with h4|h4|h4<;>· simp only at h4;subst h4;simp
 have h1:=List.Nodup.length_le_of_subset (hP.1.nodup Fr) hsub;refine As9 h1 ?_;have:=Zy (l:=At3 F.length) (n:=4) (f:=fun (i:Nat)=>[((i:Int),([]:List UInt8)),((i:Int),Adx),((i:Int),Oa),((i:Int),Sj)]) fun x _=>mV
 rw[List.length_range]at this;exact this
end
section
variable {F:List Aq}{R:List Ch}{T:List (List UInt8×Nat)}{lab:Int}{u:PH}
theorem Arj {ss:List (List UInt8)}(ok:Bz u T R F lab)(ht:Do T ss)(h1:-1<=lab)(h2:∀ l:Nat,lab=(l:Int)->l<ss.length)(hc:Vx F lab ss=true)(p:Par):Dn 1 18540 ((cfT F lab ss).s p):=by
 by_cases h:(cfT F lab ss).s p=0
 ·rw[h];exact Dn.zero _ _
 ·obtain⟨_,a,q,ha,_⟩:=Adg h;rw[Aq9 ok.feat ht h1 h2 hc ha];exact (show SmW q/\PV p from Lo ok ht _ (Ato ha)).1.dn
theorem Ap4 {x:Par->Rat}(h:∀ p,Dn 1 18540 (x p)):∀ e,Dn 1 18540 (Ah8 x e)
 |none=>(show SmW 1 from⟨jV,jV⟩).dn
 |some p=>h p
structure Le (N:Nat)(C:CF):Prop where
 c:∀ e f,Dn 2 N (Gi C e f)
 r:∀ e,Dn 2 N (S6 C e)
 l:Dn 2 N (C.t (A5 Cd Cd))
theorem Ahi (ok:Bz u T R F lab)(h1:-1<=lab)(h2:∀ l:Nat,lab=(l:Int)->l<T.length):∀ {L:List G7},(∀ y∈L,Do T y.1/\y.2.1<=7)->Le (L.length*2406121200) (Fq F lab L):=by
 intro L;induction L using L3 with
 |h0=>exact fun _=>⟨fun e f=>by rw[show Fq F lab []=CF.num 0 from rfl,Asn.cell];exact Dn.zero _ _,fun e=>by cases e<;>exact Dn.zero _ _,Dn.zero _ _⟩
 |h1 L y ih =>
  intro h;have i1:=ih fun z hz=>h z (Avn _ hz);obtain⟨hy,hw⟩:=h y mV;have hlen:=hy.len;have hl:∀ l:Nat,lab=(l:Int)->l<y.1.length:=fun l e=>by have:=h2 l e;omega
  have one:Le 343731600 (cfT F lab y.1):=by
   rcases W8 ok.feat hy h1 hl with ⟨hc,o⟩|⟨_,o⟩
   ·have hd:=Arj ok hy h1 hl hc;have he:=Ap4 hd;exact⟨fun e f=>by rw[o.cell];exact (he e).mul (he f),fun e=>by rw[o.right];exact (hd Cd).mul (he e),by rw[o.t];exact (hd Cd).mul (hd Cd)⟩
   ·have hn:cfT F lab y.1=cfT F lab y.1:=rfl;refine⟨fun e f=>by rw[o.cell];exact Dn.zero _ _,fun e=>?_,?_⟩
    ·cases e
     ·show Dn 2 343731600 ((cfT F lab y.1).s Cd);rw[o.s];exact Dn.zero _ _
     ·show Dn 2 343731600 ((cfT F lab y.1).t _);rw[o.t];exact Dn.zero _ _
    ·rw[o.t];exact Dn.zero _ _
  have add:∀ {q r:Rat},Dn 2 (L.length*2406121200) q->Dn 2 343731600 r->Dn 2 ((L++[y]).length*2406121200) (q+r*(y.2.1:Rat)):=fun hq hr=>by
   refine (hq.add (hr.mul (Aoc hw))).mono ?_;rw[Atg,At2];simp
  rw[Hx];exact⟨fun e f=>by rw[W5];exact add (i1.c e f) (one.c e f),fun e=>by rw[Aed];exact add (i1.r e) (one.r e),add i1.l one.l⟩
end
section
section
variable {P:List Par} {C:CF} {b:Option Par->Rat} {k:Rat} {N:Nat}
end
end
section
section
variable {P:List Par} {C:CF} {b:Option Par->Rat} {k:Rat} {N D:Nat}
end
end
section
variable {A:List (List Rat)}{u:PH}{v:Value}
def Vl (A:List (List Rat)):Nat->Nat->Rat->Rat
 |0,_,s=>s
 |f+1,i,s=>Vl A f (i+1) (s+gR (gM A i) i)
def trL (A:List (List Rat)):Rat:=Vl A A.length 0 0
theorem Ah3 (h:Bx u v (Br A))(hs:Sq A):Fn0 prog 45 [v] u fun v' _=>v'=.tuple #[.int .i64 (A.length:Int),.int .i64 (A.length:Int),.int .i64 0]:=by
 obtain⟨a,c,rfl⟩:=h.opn;rw[Ba]at h⊢;have hle:=hs.le;refine Fn0.o func45 ?_;by_cases h0:0<A.length
 ·refine G.gT (A.length:Int) 0 ?_;obtain⟨b1,o1,a1,c1,rfl,e1,e2⟩:=h.row (Ex (As5 h0));rw[Ata,hs.len h0]at e1 e2;refine G.a b1 o1 A.length c 0 1 h0 ?_;refine G.lU none b1 (o1+0*1) _ e1 ?_;clear e1 e2;obtain⟨a,ha⟩:∃ a:Option Addr,a=some ⟨b1,o1,none⟩:=⟨_,rfl⟩;rw[<-ha]at h⊢;clear ha;refine G.gF (A.length:Int) 12 ?_;refine G.l (ι:=Nat) (fun i=>[(0,sV a A.length c),(5,iV A.length),(21,iV A.length),(22,iV i)]) (fun _=>[])
   (fun i u' m'=>i<=A.length/\m'=PH.mt) (fun i=>A.length-i) 0 ⟨oV,rfl⟩ ?_
  rintro J1 i hJ1 u1 m1 l1 ⟨hi,rfl⟩;by_cases hlt:i<A.length
  ·refine G.lT (i:Int) (A.length:Int) ?_;obtain⟨b1,o1,a1,c1,rfl,e1,e2⟩:=(h.mono l1).row (Ex (As5 hlt));rw[Ata,hs.len hlt]at e1 e2;refine G.a b1 o1 A.length c i 1 hlt ?_;refine G.lU none b1 (o1+i*1) _ e1 ?_;refine G.gF (A.length:Int) 12 ?_;refine G.i i ?_;exact G.b (hJ1 (i+1) _ _ _ cV l1 ⟨oV,rfl⟩ oV)
  obtain rfl:i=A.length:=oV
  clear hlt;refine G.lF (A.length:Int) (A.length:Int) ?_;clear hJ1;refine G.l (ι:=Nat) (fun i=>[(0,sV a A.length c),(5,iV A.length),(33,iV A.length),(34,iV i)]) (fun _=>[])
   (fun i u' m'=>i<=A.length/\m'=PH.mt) (fun i=>A.length-i) 0 ⟨oV,rfl⟩ ?_
  rintro J2 i hJ2 u2 m2 l2 ⟨hi,rfl⟩;by_cases hlt:i<A.length
  ·refine G.lT (i:Int) (A.length:Int) ?_;obtain⟨b1,o1,a1,c1,rfl,e1,e2⟩:=(h.mono (l1.trans l2)).row (Ex (As5 hlt));rw[Ata,hs.len hlt]at e1 e2;refine G.a b1 o1 A.length c i 1 hlt ?_;refine G.lU none b1 (o1+i*1) _ e1 ?_;refine G.nF (A.length:Int) (A.length:Int) ?_;refine G.i i ?_;exact G.b (hJ2 (i+1) _ _ _ cV l2 ⟨oV,rfl⟩ oV)
  obtain rfl:i=A.length:=oV
  clear hlt;refine G.lF (A.length:Int) (A.length:Int) ?_;clear hJ2;refine G.l (ι:=Nat) (fun i=>[(0,sV a A.length c),(5,iV A.length),(46,iV A.length),(47,iV i)]) (fun _=>[])
   (fun i u' m'=>i<=A.length/\m'=PH.mt) (fun i=>A.length-i) 0 ⟨oV,rfl⟩ ?_
  rintro J3 i hJ3 u3 m3 l3 ⟨hi,rfl⟩;by_cases hlt:i<A.length
  ·refine G.lT (i:Int) (A.length:Int) ?_;obtain⟨b1,o1,a1,c1,rfl,e1,e2⟩:=(h.mono ((l1.trans l2).trans l3)).row (Ex (As5 hlt));rw[Ata,hs.len hlt]at e1 e2;refine G.a b1 o1 A.length c i 1 hlt ?_;refine G.lU none b1 (o1+i*1) _ e1 ?_;refine G.l (ι:=Nat) (fun k=>[(0,sV (some ⟨b1,o1,none⟩) A.length c),(5,iV A.length),(46,iV A.length),(47,iV i),(8,iV i),(54,iV A.length),(55,iV k)]) (fun _=>[])
    (fun k u' m'=>k<=A.length/\m'=PH.mt) (fun k=>A.length-k) 0 ⟨oV,rfl⟩ ?_
   rintro J4 k hJ4 u4 m4 l4 ⟨hk,rfl⟩;by_cases hlk:k<A.length
   ·refine G.lT (k:Int) (A.length:Int) ?_;have hki:k<A[i].length:=by rw[hs.len hlt];exact hlk
    obtain⟨b2,o2,rfl,e3⟩:=Ad.at' (Ad.mono e2 l4) (j:=k) (e:=.string (mkS (Ap A[i][k]))) (by simp[Bo,As5 hki]);refine G.a b1 o1 A.length c i 1 hlt ?_;refine G.lU none b1 (o1+i*1) _ (e1.mono l4) ?_;refine G.a b2 o2 A.length c1 k 1 hlk ?_;refine G.lU none b2 (o2+k*1) _ e3 ?_;refine G.c call59 (Hw (hs.tx' hlt hki)) ?_;rintro v5 u5 l5 rfl;refine G.i k ?_;exact G.b (hJ4 (k+1) _ _ _ cV (l4.trans l5) ⟨oV,rfl⟩ oV)
   ·refine G.lF (k:Int) (A.length:Int) ?_;refine G.i i ?_;exact G.b (hJ3 (i+1) _ _ _ cV (l3.trans l4) ⟨oV,rfl⟩ oV)
  ·refine G.lF (i:Int) (A.length:Int) ?_;exact G.r (.tuple #[.int .i64 (A.length:Int),.int .i64 (A.length:Int),.int .i64 0]) ⟨rfl,rfl⟩
 ·refine G.gF (A.length:Int) 0 ?_;have hz:(A.length:Int)=0:=oV
  refine G.gF (A.length:Int) 12 ?_;refine G.l (ι:=Nat) (fun i=>[(0,sV a A.length c),(5,iV 0),(21,iV A.length),(22,iV i)]) (fun _=>[])
   (fun i u' m'=>i<=A.length/\m'=PH.mt) (fun i=>A.length-i) 0 ⟨oV,rfl⟩ ?_
  rintro J1 i hJ1 u1 m1 l1 ⟨hi,rfl⟩;by_cases hlt:i<A.length
  ·refine G.lT (i:Int) (A.length:Int) ?_;obtain⟨b1,o1,a1,c1,rfl,e1,e2⟩:=(h.mono l1).row (Ex (As5 hlt));rw[Ata,hs.len hlt]at e1 e2;refine G.a b1 o1 A.length c i 1 hlt ?_;refine G.lU none b1 (o1+i*1) _ e1 ?_;refine G.gF (A.length:Int) 12 ?_;refine G.i i ?_;exact G.b (hJ1 (i+1) _ _ _ cV l1 ⟨oV,rfl⟩ oV)
  obtain rfl:i=A.length:=oV
  clear hlt;refine G.lF (A.length:Int) (A.length:Int) ?_;clear hJ1;refine G.l (ι:=Nat) (fun i=>[(0,sV a A.length c),(5,iV 0),(33,iV A.length),(34,iV i)]) (fun _=>[])
   (fun i u' m'=>i<=A.length/\m'=PH.mt) (fun i=>A.length-i) 0 ⟨oV,rfl⟩ ?_
  rintro J2 i hJ2 u2 m2 l2 ⟨hi,rfl⟩;by_cases hlt:i<A.length
  ·refine G.lT (i:Int) (A.length:Int) ?_;obtain⟨b1,o1,a1,c1,rfl,e1,e2⟩:=(h.mono (l1.trans l2)).row (Ex (As5 hlt));rw[Ata,hs.len hlt]at e1 e2;refine G.a b1 o1 A.length c i 1 hlt ?_;refine G.lU none b1 (o1+i*1) _ e1 ?_;refine G.nF (A.length:Int) 0 ?_;refine G.i i ?_;exact G.b (hJ2 (i+1) _ _ _ cV l2 ⟨oV,rfl⟩ oV)
  obtain rfl:i=A.length:=oV
  clear hlt;refine G.lF (A.length:Int) (A.length:Int) ?_;clear hJ2;refine G.l (ι:=Nat) (fun i=>[(0,sV a A.length c),(5,iV 0),(46,iV A.length),(47,iV i)]) (fun _=>[])
   (fun i u' m'=>i<=A.length/\m'=PH.mt) (fun i=>A.length-i) 0 ⟨oV,rfl⟩ ?_
  rintro J3 i hJ3 u3 m3 l3 ⟨hi,rfl⟩;by_cases hlt:i<A.length
  ·refine G.lT (i:Int) (A.length:Int) ?_;obtain⟨b1,o1,a1,c1,rfl,e1,e2⟩:=(h.mono ((l1.trans l2).trans l3)).row (Ex (As5 hlt));rw[Ata,hs.len hlt]at e1 e2;refine G.a b1 o1 A.length c i 1 hlt ?_;refine G.lU none b1 (o1+i*1) _ e1 ?_;refine G.l (ι:=Nat) (fun k=>[(0,sV (some ⟨b1,o1,none⟩) A.length c),(5,iV 0),(46,iV A.length),(47,iV i),(8,iV i),(54,iV A.length),(55,iV k)]) (fun _=>[])
    (fun k u' m'=>k<=A.length/\m'=PH.mt) (fun k=>A.length-k) 0 ⟨oV,rfl⟩ ?_
   rintro J4 k hJ4 u4 m4 l4 ⟨hk,rfl⟩;by_cases hlk:k<A.length
   ·refine G.lT (k:Int) (A.length:Int) ?_;have hki:k<A[i].length:=by rw[hs.len hlt];exact hlk
    obtain⟨b2,o2,rfl,e3⟩:=Ad.at' (Ad.mono e2 l4) (j:=k) (e:=.string (mkS (Ap A[i][k]))) (by simp[Bo,As5 hki]);refine G.a b1 o1 A.length c i 1 hlt ?_;refine G.lU none b1 (o1+i*1) _ (e1.mono l4) ?_;refine G.a b2 o2 A.length c1 k 1 hlk ?_;refine G.lU none b2 (o2+k*1) _ e3 ?_;refine G.c call59 (Hw (hs.tx' hlt hki)) ?_;rintro v5 u5 l5 rfl;refine G.i k ?_;exact G.b (hJ4 (k+1) _ _ _ cV (l4.trans l5) ⟨oV,rfl⟩ oV)
   ·refine G.lF (k:Int) (A.length:Int) ?_;refine G.i i ?_;exact G.b (hJ3 (i+1) _ _ _ cV (l3.trans l4) ⟨oV,rfl⟩ oV)
  ·refine G.lF (i:Int) (A.length:Int) ?_;exact G.r (.tuple #[.int .i64 (A.length:Int),.int .i64 0,.int .i64 0]) ⟨rfl,by rw[hz]⟩
theorem Aqv (ht:D1 u)(h:Bx u v (Br A))(hs:Sq A)(hz:∀ r∈A,∀ q∈r,Sz q 100)(htx:Tx (trL A)):Fn0 prog 13 [v] u fun v' _=>v'=.tuple #[.string (mkS (Ap (trL A))),.int .i64 0]:=by
 obtain⟨a,c,rfl⟩:=h.opn;rw[Ba]at h⊢;have hle:=hs.le;refine Fn0.o func13 ?_;refine G.c call55 (Yu h hs) ?_;rintro v1 u1 l1 rfl;refine G.nF 0 0 ?_;refine G.nF (A.length:Int) (A.length:Int) ?_;refine G.c call56 (Dk (z:=0) oV oV) ?_;intro v2 u2 l2 k2;rw[show ((0:Int):Rat)=0 from by decide]at k2;obtain⟨f2,rfl⟩:=k2.opF;refine G.l (ι:=Nat×F4×Rat) (fun i=>[(0,sV a A.length c),(7,.p 6001 0),(25,iV A.length),(26,iV i.1)]) (fun i=>[(6001,⟨103,fc i.2.1⟩)])
  (fun i u' m'=>i.1<=A.length/\Vl A (A.length-i.1) i.1 i.2.2=trL A/\Sz i.2.2 (1+101*i.1)/\An u' (fv i.2.1) i.2.2/\m'=PH.mt) (fun i=>A.length-i.1) (0,f2,0) ⟨Atu _,rfl,Mt.mono oV,k2,rfl⟩ ?_
 rintro J ⟨i,f,s⟩ hJ u3 m3 l3 ⟨hi,htr,hsz,hf,rfl⟩;simp only at hi htr hsz hf hJ;by_cases hlt:i<A.length
 ·refine G.lT (i:Int) (A.length:Int) ?_;have hii:i<A[i].length:=by rw[hs.len hlt];exact hlt
  have hq:Sz A[i][i] 100:=hz _ (Ath hlt) _ (Ath hii);obtain⟨b1,o1,b2,o2,c2,rfl,e1,e2⟩:=(h.mono (l1.trans (l2.trans l3))).cell hlt hii;refine G.a b1 o1 A.length c i 1 hlt ?_;refine G.lU none b1 (o1+i*1) _ e1 ?_;refine G.a b2 o2 A[i].length c2 i 1 hii ?_;refine G.lU none b2 (o2+i*1) _ e2 ?_;refine G.c call54 (Ep (hs.tx' hlt hii)) ?_;intro v4 u4 l4 k4;obtain⟨f4,rfl⟩:=k4.opF;refine G.c call57 (D7 (hf.mono l4) k4 (hsz.mono oV) (hq.mono oV)) ?_;intro v5 u5 l5 k5;obtain⟨f5,rfl⟩:=k5.opF;refine G.i i ?_;refine G.b (hJ (i+1,f5,s+A[i][i]) _ _ _ cV ((l3.trans l4).trans l5) ⟨dV,?_,(F6 hsz hq).mono dV,k5,rfl⟩ dV);dsimp only;rw[<-htr,show A.length-i=(A.length-(i+1))+1 by omega,Vl,Q5 hlt,F3 hii]
 ·obtain rfl:i=A.length:=oV
  refine G.lF (A.length:Int) (A.length:Int) ?_;rw[Avc,Vl]at htr;subst htr;refine G.c call43 (Qn (ht.mono (l1.trans (l2.trans l3))) hf htx) ?_;rintro v4 u4 l4 rfl;exact G.r (.tuple #[.string (mkS (Ap (trL A))),.int .i64 0]) ⟨rfl,rfl⟩
end
theorem Hj.snoc1 {u:PH}{es:List Value}{rs:List (List (List UInt8))}{a:Option Addr}{c:Nat}{r:List (List UInt8)}(h:Hj u es rs)(hr:Eg u (.slice a r.length c) r):Hj u (es++[.slice a r.length c]) (rs++[r]):=by
 refine⟨by simp[h.1],fun j r' hj=>?_⟩;by_cases hjl:j<rs.length
 ·rw[Atl hjl]at hj;obtain⟨a',c',e1,e2⟩:=h.2 j r' hj;exact⟨a',c',by rw[Atl (by rw[h.1];exact hjl)];exact e1,e2⟩
 ·rw[At1 oV]at hj;have hz:j-rs.length=0:=by
   rcases At5 (j-rs.length) with h0|h0
   ·exact h0
   ·rw[List.getElem?_eq_none gV]at hj;cases hj
  rw[hz]at hj;simp at hj;subst hj;exact⟨a,c,by rw[At1 (by rw[h.1];omega),h.1,hz];rfl,hr⟩


section
theorem Aca {q:Rat}{z:Int}{D:Nat}(h:q*(D:Rat)=(z:Rat))(h0:0<D):q.den ∣ D/\q.num.natAbs<=z.natAbs:=by
 have hq:q=Au0 z (D:Int):=by
  rw[Awf,Au6,<-h];have:=N7 h0;grind
 obtain⟨e1,e2,e3⟩:=Kt (y:=z) (z:=(D:Int)) oV;rw[hq];constructor
 ·have h2:((Au0 z (D:Int)).den:Int)=((D/Nat.gcd z.natAbs D:Nat):Int):=by
   rw[e2,show ((D:Int)).natAbs=D from rfl,Int.tdiv_eq_ediv_of_nonneg oV,<-Int.natCast_ediv]
  rw[Int.ofNat.inj h2];exact Nat.div_dvd_of_dvd (Nat.gcd_dvd_right _ _)
 ·rw[e1,Int.natAbs_tdiv];exact Nat.div_le_self _ _
section
variable {P:List Par} {C:CF} {q:Rat} {N:Nat}
end
end


section
section
variable {n:Nat} {a:Nat->Nat->Rat}
end
end
section
section
variable {n:Nat} {X Y A B:Nat->Nat->Rat} {x y:Nat->Rat} {w:Rat}
end
end

section
section
variable [Fl:Ca] {P:Program} {c:Cx} {s:S} {u m u' m':PH} {ρ:Nat->Nat} {w w':World}
end
section
variable [Fl:Ca] {P:Program} [A7 P] {fn:Func} {Post:By} {st:List KI×S} {u m:PH}
end
section
variable [Fl:Ca] {P:Program} [A7 P] {fnc:Func} {Post:By} {st:List KI×S} {u m:PH}
end
end
section
section
variable {m:PH} {g:Nat} {l:List Arr} {rv pv:Value} {f:N3} {odd:Bool}
end
end
section
section
variable [Ca] {P:Program} [A7 P] {fn:Func} {Post:By} {st:List KI×S} {u m:PH}
end
end
section
theorem Ai5 {q:Rat}{D:Nat}(h:q.den ∣ D):((q.num*((D/q.den:Nat):Int):Int):Rat)=q*(D:Rat):=by
 obtain⟨k,rfl⟩:=h;rw[Nat.mul_div_cancel_left _ q.den_pos,Av9,Awt,Au6];have h2:q*(q.den:Rat)=(q.num:Rat):=by
  have h2:q=(q.num:Rat)/(((q.den:Int)):Rat):=by rw[<-Awf,Rat.num_divInt_den]
  have hi:=Rat.mul_inv_cancel _ (N7 q.den_pos);rw[Au6,Rat.div_def]at h2;exact Asy h2 hi
 rw[<-h2];grind
section
variable {A:List (List Rat)} {b:List Rat} {D D':Nat}
end
end
section
section
variable {n:Nat} {Z:Nat->Nat->Int} {A X:Nat->Nat->Rat} {D M:Nat}
end
end
theorem Amf {A:List (List Rat)}{L K:Nat}(h0:0<L)(hK:0<K)(hL:L<10^K)(hn:nl L<=1000000000)(h:∀ r∈A,∀ q∈r,∃ z:Int,q*(L:Rat)=z/\z.natAbs<10^K):Vi A L K where
 den:=fun r hr q hq=>by
  obtain⟨z,hz,_⟩:=h r hr q hq;exact (Aca hz h0).1
 pos:=h0
 nl:=hn
 dig:=fun D hD hD0=>by
  have hDL:D<=L:=Nat.le_of_dvd h0 hD;refine⟨D9 hK (Aum hDL hL),fun r hr q hq hd=>D9 hK ?_⟩;obtain⟨z,hz,hz2⟩:=h r hr q hq;have hdL:=(Aca hz h0).1;have h1:=Ai5 hdL;rw[hz]at h1;have h2:q.num*((L/q.den:Nat):Int)=z:=Rat.intCast_inj.1 h1;refine Aum ?_ hz2;rw[<-h2,Au7,Au7,Atv,Atv];exact Nat.mul_le_mul_left _ (Nat.div_le_div_right hDL)
end Go.Proofs.YtnafchoihfnkeaaGreatDoor
