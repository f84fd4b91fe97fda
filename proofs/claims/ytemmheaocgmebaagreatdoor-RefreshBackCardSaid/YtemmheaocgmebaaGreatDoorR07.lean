/- Parts of one proof, joined by a program. -/
import Derived.Test.YtemmheaocgmebaaGreatDoorR06
import Derived.RangeFuncSeq
import Derived.RangeFuncGives
import Derived.Maps.AppendAt
import Derived.Shelf.Abstract
import Derived.Shelf.AbstractIn
import Derived.Sort.MapsRangeIn
import Derived.WalkKit
import Derived.OwnWalkIn
import Derived.TacticsInMore
import Derived.RegionIn
import Derived.LoopNIn
import Derived.LoopIn
import Derived.Shelf.SlIter.Collect
import Derived.Shelf.SlSortCmp.WholeK
import Derived.Ground.SlsfProg
import Derived.Test.YtemmheaocgmebaaGreatDoorProg
import Derived.Shelf.SlSortCmp.NoneTotal
set_option linter.defProp false
set_option linter.unusedVariables false
set_option linter.unusedSimpArgs false
set_option linter.unusedSectionVars false
set_option maxHeartbeats 16000000
namespace Go.Proofs.YtemmheaocgmebaaGreatDoor
open Go.Proofs.Tryz
open Go.RowKit Go.MapKept
def A9l:=@Rat.natCast_inj
def A7d:=@Rat.intCast_add
def A7e:=@Rat.natCast_mul
def Ban:=@Rat.zero_mul
def A2r:=@Rat.intCast_natCast
def Bao:=@Int.ofNat_le
def Bap:=@Rat.mul_inv_cancel
def A46:=@Rat.add_comm
def Baq:=@Array.ext_getElem?
def A3n:=@List.pairwise_iff_getElem
def A9e:=@List.getElem_inj
def A52:=@List.findIdx?_eq_some_iff_getElem
def A2y:=@List.getElem_of_mem
def A7w:=@List.getElem_take
def A3v:=@List.getElem_map
def A8z:=@List.map_replicate
def A11:=@List.not_mem_nil
section
variable {F G:CF}{M N d e:Nat}{a b k q r:Rat}
def Dn (d N:Nat)(q:Rat):Prop:=∃ k:Int,q*((12^d:Nat):Rat)=(k:Rat)/\k.natAbs<=N
def Adj (d:Nat):0<12^d:=A66 oV
def Ax0 (d:Nat):((12^d:Nat):Rat)≠0:=by
 intro h;have g:((12^d:Nat):Rat)=((0:Nat):Rat):=h;have:=A9l.1 g;have:=Adj d;omega
def Dn.mono (h:Dn d N q)(m:N<=M):Dn d M q:=by
 obtain⟨k,g,j⟩:=h;exact⟨k,g,oV⟩
theorem Dn.add (h:Dn d N q)(g:Dn d M r):Dn d (N+M) (q+r):=by
 obtain⟨k,j,n⟩:=h;obtain⟨l,m,t⟩:=g;exact⟨k+l,by rw[A7d,<-j,<-m];grind,oV⟩
theorem Dn.mul (h:Dn d N q)(g:Dn e M r):Dn (d+e) (N*M) (q*r):=by
 obtain⟨k,j,m⟩:=h;obtain⟨l,n,t⟩:=g;refine⟨k*l,?_,by rw[A26];exact A25 m t⟩;rw[A3c,<-j,<-n,A4k,A7e];grind
def Dn.zero (d N:Nat):Dn d N 0:=⟨0,by rw[Ban];rfl,A1t _⟩
theorem Dn.two (h:Dn d N q):Dn d (2*N) (2*q):=by
 have:=h.add h;rw[show 2*q=q+q by grind,show 2*N=N+N by omega];exact this
theorem Dn.frac (h:Dn d N q):q.num.natAbs<=N/\q.den<=12^d:=by
 obtain⟨k,m,u⟩:=h;have hp:=Adj d;have C:q=Rat.divInt k ((12^d:Nat):Int):=by
  rw[A37,A2r,<-m];have:=Ax0 d;grind
 obtain⟨g,j,E⟩:=O7 (y:=k) (z:=((12^d:Nat):Int)) oV;have t:0<Nat.gcd k.natAbs (12^d):=A7j _ hp;rw[C];constructor
 ·rw[g,A8o];exact A04 (A3u _ _) u
 have n:((Rat.divInt k ((12^d:Nat):Int)).den:Int)<=((12^d:Nat):Int):=by
  rw[j,show (((12^d:Nat):Int)).natAbs=12^d from rfl,A32 oV,<-A5k];exact Bao.2 (A3u _ _)
 exact Bao.1 n
def Dn.small (h:Dn d N q)(u:d<=50)(t:N<10^100):Og q=true:=by
 obtain⟨g,j⟩:=h.frac;have m:12^d<=12^50:=A10 oV u;have n:12^50<10^100:=jV
 simp only[Og,A1m,decide_eq_true_eq];exact⟨A22 g t,A22 j (A22 m n)⟩
theorem SmW.dn (h:SmW q):Dn 1 18540 q:=by
 obtain⟨k,n⟩:=h.den;refine⟨q.num*(k:Int),?_,?_⟩
 ·have m:q*(q.den:Rat)=(q.num:Rat):=by
   have g:q=(q.num:Rat)/(((q.den:Int)):Rat):=by rw[<-A37,A7h]
   have hi:=Bap ((q.den:Nat):Rat) (fun e=>absurd (A9l.1 (e.trans (rfl:(0:Rat)=((0:Nat):Rat)))) (Nat.pos_iff_ne_zero.1 q.den_pos));rw[A2r,A8v]at g;generalize ((q.den:Nat):Rat)⁻¹=j at g hi;rw[g];grind
  show q*((12^1:Nat):Rat)=_;rw[show (12^1:Nat)=12 from rfl,n,A7e,A3c,A2r,<-m];grind
 rw[A26,A1s];have m:=h.num;have g:k<=12:=by
  have:=h.le;have:0<q.den:=q.den_pos;rcases A2a k with h0|h0
  ·omega
  exact A48 oV ⟨q.den,by rw[A19];exact n⟩
 exact A25 m g
structure CFD (d N:Nat)(F:CF):Prop where
 c:Dn d N F.c
 s:∀ p,Dn d N (F.s p)
 t:∀ q,Dn d N (F.t q)
def CFD.mono {d N M:Nat}{F:CF}(h:CFD d N F)(g:N<=M):CFD d M F:=⟨h.c.mono g,fun p=>(h.s p).mono g,fun q=>(h.t q).mono g⟩
def CFD.add {d N M:Nat}{F G:CF}(h:CFD d N F)(g:CFD d M G):CFD d (N+M) (F.add G):=⟨h.c.add g.c,fun p=>(h.s p).add (g.s p),fun q=>(h.t q).add (g.t q)⟩
def CFD.scale (h:CFD d N F)(g:Dn e M k):CFD (d+e) (N*M) (F.scale k):=⟨h.c.mul g,fun p=>(h.s p).mul g,fun q=>(h.t q).mul g⟩
theorem CFD.mul {d e N M:Nat}{F G:CF}(h:CFD d N F)(g:CFD e M G):CFD (d+e) (4*(N*M)) (F.mul G):=by
 have j:∀ {q r:Rat},Dn d N q->Dn e M r->Dn (d+e) (N*M) (r*q):=fun {q r} hq hr=>by rw[show r*q=q*r by grind];exact hq.mul hr
 refine⟨(h.c.mul g.c).mono oV,fun p=>((j h.c (g.s p)).add ((h.s p).mul g.c)).mono oV,fun q=>?_⟩;have m:=(j h.c (g.t q)).add ((h.t q).mul g.c);have n:Dn (d+e) (N*M+N*M) (I2 F G q):=by
  unfold I2;split
  ·exact Dn.zero _ _
  split
  ·have:=((h.s q.1).mul (g.s q.1)).two;exact this.mono oV
  exact ((h.s q.1).mul (g.s q.2)).add ((h.s q.2).mul (g.s q.1))
 exact (m.add n).mono oV
def Aym (c:UInt8):Bool:=decide (97<=c.toNat)&&decide (c.toNat<=122)
def Hn (s:List UInt8):Bool:=match s with
 |[]=>false
 |c::l=>Aym c&&l.all (fun x=>Aym x||(decide (x.toNat=45)||(decide (48<=x.toNat)&&decide (x.toNat<=57))))&&decide (s.length<=12)
structure PV (p:Par):Prop where
 lo:-1<=p.1
 hi:p.1<=1000
 cat:p.2 = []\/Hn p.2=true
structure CFV (F:CF):Prop where
 s:∀ p,F.s p≠0->PV p
 t:∀ q,F.t q≠0->PV q.1/\PV q.2/\¬ 0<Bk q.1 q.2
theorem G1 (h:a+b≠0):a≠0\/b≠0:=by
 by_cases g:a=0
 ·right;rintro rfl;apply h;rw[g];grind
 exact .inl g
theorem C1 (h:a*b≠0):a≠0/\b≠0:=⟨fun e=>h (by rw[e];grind),fun e=>h (by rw[e];grind)⟩
def CFV.add (h:CFV F)(g:CFV G):CFV (F.add G) :=
 ⟨fun p hp=>(G1 hp).elim (h.s p) (g.s p),fun q j=>(G1 j).elim (h.t q) (g.t q)⟩
def CFV.scale (h:CFV F)(k:Rat):CFV (F.scale k):=⟨fun p hp=>h.s p (C1 hp).1,fun q g=>h.t q (C1 g).1⟩
def CFV.mul (h:CFV F)(g:CFV G):CFV (F.mul G):=by
 refine⟨fun p hp=>(G1 hp).elim (fun e=>g.s p (C1 e).1) (fun e=>h.s p (C1 e).1),fun q j=>?_⟩;rcases G1 j with e|e
 ·exact (G1 e).elim (fun e=>g.t q (C1 e).1) (fun e=>h.t q (C1 e).1)
 unfold I2 at e;split at e
 ·exact absurd rfl e
 rename_i hno;split at e
 ·rename_i heq;have:=C1 (C1 e).2;exact⟨h.s _ this.1,by rw[<-heq];exact h.s _ this.1,hno⟩
 rcases G1 e with e|e
 ·have:=C1 e;exact⟨h.s _ this.1,g.s _ this.2,hno⟩
 have:=C1 e;exact⟨g.s _ this.2,h.s _ this.1,hno⟩
def CFV.count (k:Rat):CFV ⟨k,fun _=>0,fun _=>0⟩:=⟨fun p h=>absurd rfl h,fun q h=>absurd rfl h⟩
def CFD.count (h:Dn d N k):CFD d N ⟨k,fun _=>0,fun _=>0⟩:=⟨h,fun _=>Dn.zero _ _,fun _=>Dn.zero _ _⟩
end
section
variable {F G:CF}{L:List (Par×Par)}{M N d e:Nat}{p q:Par}
structure CFS (F:CF):Prop where
 c:Og F.c=true
 s:∀ p,Og (F.s p)=true
 t:∀ q,Og (F.t q)=true
def CFD.cfs (h:CFD d N F)(j:d<=50)(g:N<10^100):CFS F:=⟨h.c.small j g,fun p=>(h.s p).small j g,fun q=>(h.t q).small j g⟩
def con (F G:CF)(x:Par×Par):Rat:=if x.1=x.2 then F.s x.1*G.s x.2+F.s x.1*G.s x.2 else F.s x.1*G.s x.2
def Er (F G:CF):List (Par×Par)->Par×Par->Rat
 |[],_=>0
 |x::L,k=>(if Ay x.1 x.2=k then con F G x else 0)+Er F G L k
theorem Jt (F G:CF)(x:Par×Par):∀ (L:List (Par×Par)) (k:Par×Par),Er F G (L++[x]) k=if k=Ay x.1 x.2 then con F G x+Er F G L k else Er F G L k
 |[],k=>by
  simp only[A3q,Er];by_cases h:k=Ay x.1 x.2
  ·rw[if_pos h.symm,if_pos h]
  rw[if_neg (fun e=>h e.symm),if_neg h];grind
 |y::L,k=>by
  simp only[A4x,Er];rw[Jt F G x L k];by_cases h:k=Ay x.1 x.2
  ·rw[if_pos h,if_pos h];grind
  rw[if_neg h,if_neg h]
def two (F G:CF)(L:List (Par×Par))(k:Par×Par):Rat :=
 if 0<Bk k.1 k.2 then 0 else if k.1=k.2 then (if k∈L then con F G k else 0) else (if k∈L then con F G k else 0)+(if (k.2,k.1)∈L then con F G (k.2,k.1) else 0)
def Ro (h:0<Bk p q):Ay p q=(q,p):=by unfold Ay;rw[if_pos h]
def Ii (h:¬ 0<Bk p q):Ay p q=(p,q):=by unfold Ay;rw[if_neg h]
def To (p q:Par):¬ 0<Bk (Ay p q).1 (Ay p q).2:=by
 by_cases h:0<Bk p q
 ·rw[Ro h];intro g;have:=(Et.sym p q).1;have j:=(Et.sym q p).2 h;simp only at g;omega
 rw[Ii h];exact h
def L5 {p q a b:Par}:Ay p q=(a,b)↔¬ 0<Bk a b/\((p=a/\q=b)\/(p=b/\q=a)):=by
 constructor
 ·intro h;have:=To p q;rw[h]at this;refine⟨this,?_⟩;by_cases g:0<Bk p q
  ·rw[Ro g]at h;cases h;exact .inr ⟨rfl,rfl⟩
  rw[Ii g]at h;cases h;exact .inl ⟨rfl,rfl⟩
 rintro⟨h,⟨rfl,rfl⟩|⟨rfl,rfl⟩⟩
 ·exact Ii h
 rw[Wi];exact Ii h
theorem Ub (F G:CF):∀ (L:List (Par×Par)) (k:Par×Par),L.Nodup->Er F G L k=two F G L k
 |[],k,_=>by
  unfold Er two;split
  ·rfl
  split
  ·simp
  simp;grind
 |(p,q)::L,(a,b),hn=>by
  rw[A4j]at hn;unfold Er;rw[Ub F G L (a,b) hn.2];unfold two;simp only;by_cases h0:0<Bk a b
  ·rw[if_pos h0,if_pos h0,if_neg (fun e=>(L5.1 e).1 h0)];grind
  rw[if_neg h0,if_neg h0];by_cases g:a=b
  ·subst g;rw[if_pos rfl,if_pos rfl];by_cases h:(p,q)=(a,a)
   ·cases h;rw[if_pos (L5.2 ⟨h0,.inl ⟨rfl,rfl⟩⟩),if_neg hn.1,if_pos mV];grind
   rw[if_neg (fun e=>h (by rcases (L5.1 e).2 with ⟨rfl,rfl⟩|⟨rfl,rfl⟩<;>rfl))]
   have:((a,a)∈(p,q)::L)↔(a,a)∈L:=by simp[A1g,Ne.symm h]
   simp only[this];grind
  rw[if_neg g,if_neg g];by_cases h:(p,q)=(a,b)
  ·cases h;rw[if_pos (L5.2 ⟨h0,.inl ⟨rfl,rfl⟩⟩),if_neg hn.1,if_pos (show (p,q)∈(p,q)::L by simp)];have:((q,p)∈(p,q)::L)↔(q,p)∈L:=by simp[A1g,Ne.symm g]
   simp only[this];grind
  by_cases j:(p,q)=(b,a)
  ·cases j;rw[if_pos (L5.2 ⟨h0,.inr ⟨rfl,rfl⟩⟩),if_neg hn.1,if_pos (show (p,q)∈(p,q)::L by simp)];have:((q,p)∈(p,q)::L)↔(q,p)∈L:=by simp[A1g,g]
   simp only[this];grind
  rw[if_neg (fun e=>by rcases (L5.1 e).2 with ⟨rfl,rfl⟩|⟨rfl,rfl⟩;exact h rfl;exact j rfl)];have m:((a,b)∈(p,q)::L)↔(a,b)∈L:=by simp[A1g,Ne.symm h]
  have n:((b,a)∈(p,q)::L)↔(b,a)∈L:=by simp[A1g,Ne.symm j]
  simp only[m,n];grind
theorem Amk (F G:CF)(t:L.Nodup)(n:∀ p q,F.s p≠0->G.s q≠0->(p,q)∈L)(k:Par×Par):Er F G L k=I2 F G k:=by
 rw[Ub F G L k t];have key:∀ p q:Par,(if (p,q)∈L then con F G (p,q) else 0)=con F G (p,q):=fun p q=>by
  by_cases h:(p,q)∈L
  ·rw[if_pos h]
  rw[if_neg h];have:F.s p=0\/G.s q=0:=by
   by_cases g:F.s p=0
   ·exact .inl g
   by_cases j:G.s q=0
   ·exact .inr j
   exact absurd (n p q g j) h
  unfold con;simp only;rcases this with g|g<;>rw[g]<;>split<;>grind
 obtain⟨a,b⟩:=k;unfold two I2;simp only[key];split
 ·rfl
 split
 ·rename_i e;subst e;unfold con;simp only[if_true];grind
 rename_i e;unfold con;simp only[if_neg e,if_neg (fun m:b=a=>e m.symm)]
def Apx (h:CFD d N F)(g:CFD e M G)(x:Par×Par):Dn (d+e) (2*(N*M)) (con F G x):=by
 unfold con;split
 ·exact (((h.s x.1).mul (g.s x.2)).add ((h.s x.1).mul (g.s x.2))).mono oV
 exact ((h.s x.1).mul (g.s x.2)).mono oV
def Ard (h:CFD d N F)(j:CFD e M G)(m:L.Nodup)(k:Par×Par):Dn (d+e) (4*(N*M)) (Er F G L k):=by
 rw[Ub F G L k m];have g:∀ x,Dn (d+e) (2*(N*M)) (if x∈L then con F G x else 0):=fun x=>by
  split
  ·exact Apx h j x
  exact Dn.zero _ _
 unfold two;split
 ·exact Dn.zero _ _
 split
 ·exact (g k).mono oV
 exact ((g k).add (g _)).mono oV
def Fo {κ:Type}[DecidableEq κ](a:κ):List (κ×Rat)->Rat
 |[]=>0
 |(b,q)::l=>if a=b then q else Fo a l
section
variable {κ:Type} [DecidableEq κ]
def Kh {a:κ}{q:Rat}:∀ {l:List (κ×Rat)},(l.map (·.1)).Nodup->(a,q)∈l->Fo a l=q
 |(b,r)::l,hn,h=>by
  simp only[A2u,A4j]at hn;unfold Fo;rcases A1g.1 h with e|e
  ·cases e;rw[if_pos rfl]
  have:a≠b:=fun g=>hn.1 (by rw[<-g];exact A1b.2 ⟨_,e,rfl⟩);rw[if_neg this];exact Kh hn.2 e
def Na {a:κ}:∀ {l:List (κ×Rat)},a∉l.map (·.1)->Fo a l=0
 |[],_=>rfl
 |(b,r)::l,h=>by
  simp only[A2u,A1g,not_or]at h;unfold Fo;rw[if_neg h.1];exact Na h.2
end
end
section
variable [Cl] [Co] [Pu]
def Aws:List KI->Bool
 |.code (.region _ _ _)::_=>true
 |_=>false
def Ff (P:Program):Nat->List KI×S->List KI×S
 |0,st=>st
 |n+1,st=>cond (Aws st.1) st (match one P st.1 st.2 with|some st'=>Ff P n st'|none=>st)
section rules
variable {P:Program} [A6 P] {fn:Func} {Post:Ce} {st:List KI×S} {u m:PH}
def Mq:∀ (n:Nat) (st:List KI×S),Sym P fn Post (Ff P n st).1 (Ff P n st).2 u m->Sym P fn Post st.1 st.2 u m
 |0,st,h=>h
 |n+1,st,h=>by
  unfold Ff at h;cases hn:Aws st.1 with
  |true=>simp[hn]at h;exact h
  |false =>
   simp only[hn,cond_false]at h;split at h
   ·rename_i st' he;obtain⟨e,g⟩:=st';exact Pa A6.mx he (Mq n _ h)
   exact h
def G.canon (T:List (Nat×SV))(B:List (Nat×Blk))(h:F2 (Ff P 200 st).1=true)(j:Up T B=true)(h0:Cov (Ff P 200 st).2.n (Ff P 200 st).2 T B)(k:G P fn Post ((Ff P 200 st).1,S.of (Ff P 200 st).2.n T B) u m):G P fn Post st u m:=by
 refine⟨Mq 200 st ?_⟩;have g:=k.out;rw[Sym.ofNo h]at g⊢;intro c ρ a w e t;exact g c ρ a w e (t.cov h0 j)
def G.join {ι:Type}(b:Value)(T:ι->List (Nat×SV))(B:ι->List (Nat×Blk))(j:ι->PH->PH->Prop)(J:∀ i,Up (T i) (B i)=true)(K:F2 (Ff P 200 (nx (adv P st) b)).1=true)
 (z:∀ i g h,PH.le u g->j i g h->G P fn Post ((Ff P 200 (nx (adv P st) b)).1,S.of (Ff P 200 (nx (adv P st) b)).2.n (T i) (B i)) g h)
 (k:(∀ i e g h,(Ff P 200 e).1=(Ff P 200 (nx (adv P st) b)).1->Cov (Ff P 200 (nx (adv P st) b)).2.n (Ff P 200 e).2 (T i) (B i)->PH.le u g->j i g h->G P fn Post e g h)->G P fn Post st u m):G P fn Post st u m:=by
 refine k fun i e g h E C F H=>?_;have I:Cov (Ff P 200 e).2.n (Ff P 200 e).2 (T i) (B i):=⟨rfl,C.t,C.b⟩;refine G.canon (T i) (B i) (by rw[E];exact K) (J i) I ?_;rw[E,C.n];exact z i g h F H
end rules
end
section
def Aur {x y:List UInt8}(h:Op.bytesLess x y=true):Op.bytesLess y x=false:=by
 cases h':Op.bytesLess y x with
 |false=>rfl
 |true=>have:=Se h h';rw[Ud]at this;cases this
def Azv (x y:List UInt8):(!(Op.bytesLess x y||decide (x=y)))=Op.bytesLess y x:=by
 cases h1:Op.bytesLess x y with
 |true=>rw[Aur h1];rfl
 |false =>
  by_cases e:x=y
  ·subst e;rw[h1];simp
  cases h2:Op.bytesLess y x with
  |true=>simp[e]
  |false=>exact absurd (Ab1 h1 h2) e
section rules
variable [Cl] {P:Program} [A6 P] {fn:Func} {Post:Ce} {st:List KI×S} {u m:PH}
def G.ltS (a b:List UInt8)(r:Bool)(h:Aj P (adv P st)=.bin .lss (.string (mkS a)) (.string (mkS b)))(e:Op.bytesLess a b=r)(k:G P fn Post (nx (adv P st) (.bool r)) u m):G P fn Post st u m :=
 G.bin (.bool r) h (fun t X Y w=>H8 t X Y w) (fun t w=>by simp only[binOp,Op.stringOp,Ng];rw[e];rfl) k
def G.gtS (a b:List UInt8)(r:Bool)(h:Aj P (adv P st)=.bin .gtr (.string (mkS a)) (.string (mkS b)))(g:Op.bytesLess b a=r)(k:G P fn Post (nx (adv P st) (.bool r)) u m):G P fn Post st u m :=
 G.bin (.bool r) h (fun t X Y w=>H8 t X Y w) (fun t w=>by
  rw[<-g,<-Azv];simp only[binOp,Op.stringOp,Ng];rw[show (a==b)=decide (a=b) from by by_cases e:a=b<;>simp[e]]
  rfl) k
end rules
section
variable [Cl] {u:PH}
def Akp (x:Int):Fn0 prog 273 [.int .i64 x] u fun v _=>v=.bool false:=Fn0.o func273<|G.nF x x<|G.r (.bool false) ⟨rfl,rfl⟩
def Alf (x:List UInt8):Fn0 prog 274 [.string (mkS x)] u fun v _=>v=.bool false:=Fn0.o func274<|G.y x x rfl<|G.r (.bool false) ⟨rfl,rfl⟩
def Azt (x y:Int):Fn0 prog 244 [.int .i64 x,.int .i64 y] u fun v _=>v=.int .i64 (Q1 x y):=by
 refine Fn0.o func244<|G.c call273 (Akp x) ?_;rintro t j g rfl;refine G.c call273 (Akp y) ?_;rintro z n l2 rfl;unfold Q1;by_cases h:x<y
 ·exact G.lT' x y h<|G.r (.int .i64 (-1)) ⟨rfl,by rw[if_pos h]⟩
 refine G.lF' x y h ?_;by_cases e:x>y
 ·exact G.gT' x y e<|G.r (.int .i64 1) ⟨rfl,by rw[if_neg h,if_pos e]⟩
 exact G.gF' x y e<|G.r (.int .i64 0) ⟨rfl,by rw[if_neg h,if_neg e]⟩
def Aze (x y:List UInt8):Fn0 prog 245 [.string (mkS x),.string (mkS y)] u fun v _=>v=.int .i64 (Vj x y):=by
 refine Fn0.o func245<|G.c call274 (Alf x) ?_;rintro t j g rfl;refine G.c call274 (Alf y) ?_;rintro z n l2 rfl;unfold Vj;cases h:Op.bytesLess x y with
 |true =>
  exact G.ltS x y true kV h<|G.r (.int .i64 (-1)) ⟨rfl,by rw[if_pos rfl]⟩
 |false =>
  refine G.ltS x y false kV h ?_;cases h':Op.bytesLess y x with
  |true =>
   exact G.gtS x y true kV h'<|G.r (.int .i64 1) ⟨rfl,by rw[if_neg mV,if_neg (fun e=>by subst e;rw[Ud]at h';cases h')]⟩
  |false =>
   exact G.gtS x y false kV h'<|G.r (.int .i64 0) ⟨rfl,by rw[if_neg mV,if_pos (Ab1 h h')]⟩
def Ayo (x y:Int){b:Nat}(h:Hc u b 0 1 [.int .i64 x,.int .i64 y]):Fn0 prog 243 [.slice (some ⟨b,0,none⟩) 2 2] u fun v _=>v=.int .i64 (if x≠0 then x else y):=by
 refine Fn0.o func243<|G.l (ι:=Nat) (fun i=>[(3,iV 0),(6,sV (some ⟨b,0,none⟩) 2 2),(7,iV (2:Nat)),(8,iV i)]) (fun _=>[])
  (fun i C t=>i<=2/\t=PH.mt/\(1<=i->x=0)/\(2<=i->y=0)) (fun i=>2-i) 0 ⟨oV,rfl,oV,oV⟩ ?_
 rintro J i F C t g ⟨hi,rfl,n,H⟩;by_cases j:i=2
 ·subst j;exact G.lF (2:Nat) (2:Nat)<|G.r (.int .i64 0) ⟨rfl,by rw[if_neg (by simp[n oV]),H oV]⟩
 refine G.lT i (2:Nat)<|G.a b 0 2 2 i 1 oV ?_;obtain⟨z,e,E,j⟩:∃ z:Int,ElP C b (0+i*1) (.int .i64 z)/\(z≠0->(if x≠0 then x else y)=z)/\(z=0->(1<=i+1->x=0)/\(2<=i+1->y=0)):=by
  rcases (by omega:i=0\/i=1) with rfl|rfl
  ·exact⟨x,(h 0 _ rfl).mono g,fun e=>if_pos e,fun e=>⟨fun _=>e,oV⟩⟩
  exact⟨y,(h 1 _ rfl).mono g,fun e=>if_neg (by simp[n oV]),fun e=>⟨fun _=>n oV,fun _=>e⟩⟩
 refine G.lU none b (0+i*1) (.int .i64 z) e ?_;by_cases h0:z=0
 ·exact G.nF z 0<|G.i i<|G.b (F (i+1) _ _ _ cV g ⟨oV,rfl,(j h0).1,(j h0).2⟩ oV)
 exact G.nT' z 0 h0<|G.r (.int .i64 z) ⟨rfl,by rw[E h0]⟩
def Afb (p q:Par):Fn0 prog 200 [Ap p,Ap q] u fun v _=>v=.int .i64 (Bk p q):=by
 refine Fn0.o func200<|G.c call244 (Azt p.1 q.1) ?_;rintro F t h rfl;refine G.c call245 (Aze p.2 q.2) ?_;rintro H z l2 rfl;refine G.B 3 1 8 (.int .i64 0) [.int .i64 (Q1 p.1 q.1),.int .i64 (Vj p.2 q.2)] (N7 [_,_]) ?_;intro g C j e;refine G.c call243 (Ayo _ _ e) ?_;rintro I E n rfl;exact G.r _ ⟨rfl,rfl⟩
end
end
section
variable {q:Rat}
abbrev SB (q:Rat):Prop:=Og q=true
def SB.sz (h:SB q):Sz q 12:=(Uo h).2
def SB.tx (h:SB q):Tx q:=(Uo h).1
def SB.zero:SB 0:=fV
abbrev fz:Value:=.agg #[.bool false,.slice none 0 0,.bool false,.slice none 0 0]
def A0g :sgn q.num=0↔q=0:=by
 constructor
 ·intro h;have:q.num=0:=by
   rcases A4q q.num 0 with e|e|e
   ·rw[Ep e]at h;cases h
   ·exact e
   rw[C5 e]at h;cases h
  exact A4r.1 this
 rintro rfl;rfl
end
section
section
variable {κ:Type} [DecidableEq κ]
def Ek (f g:κ->Rat)(q:Rat)(L:List κ):κ->Rat:=fun k=>if k∈L then g k*q+f k else f k
def Jo (f g:κ->Rat)(q:Rat){L:List κ}{k:κ}(h:k∉L):Nh (Ek f g q L) k (g k*q+Ek f g q L k)=Ek f g q (L++[k]):=by
 funext j
 unfold Nh Ek;by_cases e:j=k
 ·subst e;rw[if_pos rfl,if_neg h,if_pos mV]
 rw[if_neg e];by_cases m:j∈L
 ·rw[if_pos m,if_pos (by simp[m])]
 rw[if_neg m,if_neg (by simp[m,e])]
theorem Me (f g:κ->Rat)(q:Rat){L:List κ}(h:∀ k,k∉L->g k=0):Ek f g q L=fun k=>f k+g k*q:=by
 funext k
 unfold Ek;by_cases e:k∈L
 ·rw[if_pos e];grind
 rw[if_neg e,h k e];grind
def O3 {f g:κ->Rat}{q:Rat}{L:List κ}(e:∀ k,SB (f k))(h:∀ k,SB (f k+g k*q))(k:κ):SB (Ek f g q L k):=by
 unfold Ek;split
 ·rw[A46];exact h k
 exact e k
end
end
section
def Alv (t:TypeId):Op->Bool
 |.binOp _ t' ..=>Nat.beq t' t
 |_=>false
section rules
variable [Cl] {P:Program} [A6 P] {fn:Func} {Post:Ce} {st:List KI×S} {u m:PH}
def Uu {g:BinOp}{t:TypeId}{xs ys:Array Value}(X Y:Operand)(e:P.eqGuardType P.depth t=false)(w:World):(eqGuard g t X Y (.agg xs) (.agg ys)).run P w=.ok () w:=by
 unfold eqGuard;split<;>simp[e]
def G.eqAgg (t:TypeId)(xs ys:Array Value)(r:Bool)(h:Aj P (adv P st)=.binT .eql (P.underlying t) (.agg xs) (.agg ys))(K:Yr (Alv t) (adv P st)=true)(J:P.eqGuardType P.depth t=false)(I:∀ w,(Op.equal t (.agg xs) (.agg ys)).run P w=.ok r w)
 (k:G P fn Post (nx (adv P st) (.bool r)) u m):G P fn Post st u m:=by
 refine G.askQ (Alv t) h K mV (fun F o g H w _=>?_) k;obtain⟨N,X,Y,Q,e,C,E,O⟩:=Mb g;obtain⟨z,L,n,pos,after,j⟩:=o;simp only at e;subst e;obtain rfl:N=t:=A1y H;simp[execOp,C,E,Uu X Y J,binOp,I]
def G.neAgg (t:TypeId)(xs ys:Array Value)(r:Bool)(h:Aj P (adv P st)=.binT .neq (P.underlying t) (.agg xs) (.agg ys))(K:Yr (Alv t) (adv P st)=true)(J:P.eqGuardType P.depth t=false)(I:∀ w,(Op.equal t (.agg xs) (.agg ys)).run P w=.ok r w)
 (k:G P fn Post (nx (adv P st) (.bool (!r))) u m):G P fn Post st u m:=by
 refine G.askQ (Alv t) h K mV (fun F o g H w _=>?_) k;obtain⟨N,X,Y,Q,e,C,E,O⟩:=Mb g;obtain⟨z,L,n,pos,after,j⟩:=o;simp only at e;subst e;obtain rfl:N=t:=A1y H;simp[execOp,C,E,Uu X Y J,binOp,I]
end rules
end
structure Aw3 (F H:CF):Prop where
 a:CFS F
 b:CFS H
 c:CFS (H.scale F.c)
 d:CFS (F.scale H.c)
 e:CFS ((H.scale F.c).add (F.scale H.c))
 f:SB (F.c*H.c)
 pr:∀ p q,SB (F.s p*H.s q)
 con:∀ x,SB (con F H x)
 acc:∀ Ps:List (Par×Par),Ps.Nodup->∀ k,SB (((H.scale F.c).add (F.scale H.c)).t k+Er F H Ps k)
def Azw {d e N M:Nat}{F H:CF}(h:CFD d N F)(g:CFD e M H)(j:d+e<=50)(I:8*(N*M)<10^100)(m:0<N)(n:0<M):Aw3 F H:=by
 have C:N<=N*M:=Nat.le_mul_of_pos_right _ n;have E:M<=N*M:=Nat.le_mul_of_pos_left _ m;have c1:CFD (d+e) (N*M) (H.scale F.c):=by have:=g.scale h.c;rw[A89,A19]at this;exact this
 have c2:CFD (d+e) (N*M) (F.scale H.c):=h.scale g.c;exact⟨h.cfs oV oV,g.cfs oV oV,c1.cfs j oV,c2.cfs j oV,(c1.add c2).cfs j oV,(h.c.mul g.c).small j oV,
  fun p q=>((h.s p).mul (g.s q)).small j oV,fun x=>(Apx h g x).small j oV,fun z u k=>(((c1.add c2).t k).add (Ard h g u k)).small j oV⟩
def Bt (p:Par×Rat):Value:=.agg #[.int .i64 p.1.1,.string (mkS p.1.2),.string (mkS (Ae p.2))]
def D8 (x:(Par×Par)×Rat):Value:=.agg #[.int .i64 x.1.1.1,.string (mkS x.1.1.2),.int .i64 x.1.2.1,.string (mkS x.1.2.2),.string (mkS (Ae x.2))]
def No (u:PH)(v:Value)(F:CF)(K:Nat):Prop :=
 ∃ (T:List (Par×Rat)) (Q:List ((Par×Par)×Rat)) (a1:Option Addr) (c1:Nat) (a2:Option Addr) (c2:Nat),v=.agg #[.string (mkS (Ae F.c)),.slice a1 T.length c1,.slice a2 Q.length c2] /\
  Ac u (.slice a1 T.length c1) 3 (T.map Bt)/\Ac u (.slice a2 Q.length c2) 5 (Q.map D8)/\Can Bk F.s T/\Can Oc F.t Q/\T.length<=K/\Q.length<=K
def No.mono {u j:PH}{v:Value}{F:CF}{K:Nat}(h:No u v F K)(g:PH.le u j):No j v F K:=by
 obtain⟨T,Q,a1,c1,a2,c2,e,m,n,t⟩:=h;exact⟨T,Q,a1,c1,a2,c2,e,m.mono g,n.mono g,t⟩
section
open Go.RowKit Go.MapKept Go.Shelf
end
section
open Go.RowKit Go.MapKept Go.Shelf
end
section
open Go.RowKit Go.MapKept Go.Shelf
end
section
open Go.RowKit Go.MapKept Go.Shelf
abbrev Ci (p:Par):List Value:=[.int .i64 p.1,.string (mkS p.2)]
end
section
open Go.RowKit Go.MapKept Go.Shelf
end
end Go.Proofs.YtemmheaocgmebaaGreatDoor
section
namespace Go.Proofs
open Go.Shelf
def Tryz.sortPar_ren:Go.Shelf.Ren:=⟨fun|6=>267|15=>303|14=>302|28=>331|29=>316|20=>323|21=>324|22=>325|23=>326|24=>327|25=>328|26=>329|27=>330|46=>340|47=>341|48=>342|49=>343|50=>344|57=>346|n=>n,fun|22=>43|24=>118|25=>252|3=>3|39=>288|0=>0|53=>314|55=>246|4=>4|46=>350|45=>349|50=>237|5=>5|9=>9|66=>362|70=>365|76=>372|77=>373|n=>n,fun|n=>n⟩
theorem Tryz.sortPar:Go.Proofs.SlLaysF0.n6 Tryz.prog Tryz.sortPar_ren:={
 mixed:=by kernel_rfl
 f6:=⟨Tryz.f267.name,by decide,Tryz.func267.trans (congrArg some (by kernel_rfl))⟩
 f14:=⟨Tryz.f302.name,by decide,Tryz.func302.trans (congrArg some (by kernel_rfl))⟩
 f15:=Tryz.func303.trans (congrArg some (by kernel_rfl))
 f20:=⟨Tryz.f323.name,by decide,Tryz.func323.trans (congrArg some (by kernel_rfl))⟩
 f21:=⟨Tryz.f324.name,by decide,Tryz.func324.trans (congrArg some (by kernel_rfl))⟩
 f22:=⟨Tryz.f325.name,by decide,Tryz.func325.trans (congrArg some (by kernel_rfl))⟩
 f23:=⟨Tryz.f326.name,by decide,Tryz.func326.trans (congrArg some (by kernel_rfl))⟩
 f24:=⟨Tryz.f327.name,by decide,Tryz.func327.trans (congrArg some (by kernel_rfl))⟩
 f25:=⟨Tryz.f328.name,by decide,Tryz.func328.trans (congrArg some (by kernel_rfl))⟩
 f26:=⟨Tryz.f329.name,by decide,Tryz.func329.trans (congrArg some (by kernel_rfl))⟩
 f27:=⟨Tryz.f330.name,by decide,Tryz.func330.trans (congrArg some (by kernel_rfl))⟩
 f28:=Tryz.func331.trans (congrArg some (by kernel_rfl))
 f29:=Tryz.func316.trans (congrArg some (by kernel_rfl))
 f46:=⟨Tryz.f340.name,by decide,Tryz.func340.trans (congrArg some (by kernel_rfl))⟩
 f47:=Tryz.func341.trans (congrArg some (by kernel_rfl))
 f48:=Tryz.func342.trans (congrArg some (by kernel_rfl))
 f49:=⟨Tryz.f343.name,by decide,Tryz.func343.trans (congrArg some (by kernel_rfl))⟩
 f50:=⟨Tryz.f344.name,by decide,Tryz.func344.trans (congrArg some (by kernel_rfl))⟩
 f57:=⟨Tryz.f346.name,by decide,Tryz.func346.trans (congrArg some (by kernel_rfl))⟩
 t0:=Tryz.underlying0
 a0:=Tryz.isAgg0
 z0:=Tryz.sizeOf0
 v0:=Tryz.zeroValue0
 t3:=Tryz.underlying3
 a3:=Tryz.isAgg3
 z3:=Tryz.sizeOf3
 v3:=Tryz.zeroValue3
 t4:=Tryz.underlying4
 a4:=Tryz.isAgg4
 z4:=Tryz.sizeOf4
 v4:=Tryz.zeroValue4
 t5:=Tryz.underlying5
 a5:=Tryz.isAgg5
 z5:=Tryz.sizeOf5
 v5:=Tryz.zeroValue5
 t9:=Tryz.underlying9
 a9:=Tryz.isAgg9
 z9:=Tryz.sizeOf9
 v9:=Tryz.zeroValue9
 t22:=Tryz.underlying43
 a22:=Tryz.isAgg43
 z22:=Tryz.sizeOf43
 v22:=Tryz.zeroValue43
 t25:=Tryz.underlying252
 a25:=Tryz.isAgg252
 z25:=Tryz.sizeOf252
 v25:=Tryz.zeroValue252
 t39:=Tryz.underlying288
 a39:=Tryz.isAgg288
 z39:=Tryz.sizeOf288
 v39:=Tryz.zeroValue288
 t45:=Tryz.underlying349
 a45:=Tryz.isAgg349
 z45:=Tryz.sizeOf349
 v45:=Tryz.zeroValue349
 t46:=Tryz.underlying350
 a46:=Tryz.isAgg350
 z46:=Tryz.sizeOf350
 v46:=Tryz.zeroValue350
 t50:=Tryz.underlying237
 a50:=Tryz.isAgg237
 z50:=Tryz.sizeOf237
 v50:=Tryz.zeroValue237
 t53:=Tryz.underlying314
 a53:=Tryz.isAgg314
 z53:=Tryz.sizeOf314
 v53:=Tryz.zeroValue314
 t55:=Tryz.underlying246
 a55:=Tryz.isAgg246
 z55:=Tryz.sizeOf246
 v55:=Tryz.zeroValue246
 t66:=Tryz.underlying362
 a66:=Tryz.isAgg362
 z66:=Tryz.sizeOf362
 v66:=Tryz.zeroValue362
 t70:=Tryz.underlying365
 a70:=Tryz.isAgg365
 z70:=Tryz.sizeOf365
 v70:=Tryz.zeroValue365
 t76:=Tryz.underlying372
 a76:=Tryz.isAgg372
 z76:=Tryz.sizeOf372
 v76:=Tryz.zeroValue372
 t77:=Tryz.underlying373
 a77:=Tryz.isAgg373
 z77:=Tryz.sizeOf373
 v77:=Tryz.zeroValue373 }
end Go.Proofs
end
namespace Go.Proofs.YtemmheaocgmebaaGreatDoor
open Go.Proofs.Tryz
open Go.RowKit Go.MapKept
section
open Go.RowKit Go.Sort
def Azd (w:World):PH:=fun g=>w.heap[g]?
def A0a (w:World):Bv (Azd w) PH.mt w:=⟨fun _ _ h=>h,Fj.mt w,fun _=>.inr rfl,fun _ _ _ _ _ _ h _=>h⟩
@[reducible] def Cl.yes:Cl:=⟨True⟩
def Agm [Fl:Cl](hF:Fl.on){w w':World}{P:PH}(h:B0 (Azd w) PH.mt w P PH.mt w'):∃ n C,w'=grow (w.drewN n) C:=by
 have z:=h.dr hF;refine⟨w'.drawn-w.drawn,w'.heap.extract w.heap.size w'.heap.size,?_⟩;obtain⟨hp,R,Q,C,N⟩:=w;obtain⟨e,O,F,L,E⟩:=w';have j:=z.tape;have H:=z.dr;have m:=h.io.1;have t:=h.io.2;have I:=h.sz;have u:=fun g J=>h.old g J rfl;simp only at j H m t I u;subst j m t;unfold grow World.drewN;simp only[World.mk.injEq,and_true,true_and];refine⟨?_,oV⟩;apply Baq;intro i;by_cases hi:i<hp.size
 ·rw[A5s hi];exact u i hi
 rw[Array.getElem?_append_right oV,Array.getElem?_extract];by_cases K:i<e.size
 ·rw[if_pos oV];congr 1;omega
 rw[if_neg oV,A43 oV]
def Fn0.exact [Fl:Cl](hF:Fl.on){P:Program}{f:FuncId}{args:List Value}{r:Value}(h:∀ u,Fn0 P f args u (fun v _=>v=r))(w:World):Calls P f args.toArray w fun e w'=>e=.returned r/\∃ n C,w'=grow (w.drewN n) C:=by
 refine Calls.mono (h (Azd w) w (A0a w)) fun e w' z=>?_;obtain⟨v,F,E,g,_,j,m,t⟩:=z;subst m t;exact⟨g,Agm hF j⟩
def Ai5 (e off size:Nat)(w:World):Go.Proofs.CmpLays prog 200 #[] (fun p:Par=>[.int .i64 p.1,.string (mkS p.2)]) 2 Bk e off size w :=
 fun m h g _ x y=>@Fn0.exact Cl.yes trivial _ _ _ _ (fun u=>@Afb Cl.yes u x y) _
end
section
open Go.RowKit Go.Sort
section
variable {κ:Type} {c:κ->κ->Int}
def Ord.swo (h:Ord c):SWO (ltOf c) where
 irrefl x:=by simp[ltOf,h.irr x]
 trans x y z h1 h2:=by
  simp only[ltOf,decide_eq_true_eq]at *
  exact h.trans x y z h1 h2
 ntrans x y z h1 h2:=by
  simp only[ltOf,decide_eq_false_iff_not]at *
  intro g;rcases A4q (c x y) 0 with e|e|e
  ·exact h1 e
  ·rw[h.eq x y e]at g;exact h2 g
  exact h2 (h.trans y x z ((h.sym y x).2 e) g)
def Ord.tot (h:Ord c)(x y:κ)(g:ltOf c x y=false)(j:ltOf c y x=false):x=y:=by
 simp only[ltOf,decide_eq_false_iff_not]at *
 rcases A4q (c x y) 0 with e|e|e
 ·exact absurd e g
 ·exact h.eq x y e
 exact absurd ((h.sym y x).2 e) j
def E6 (c:κ->κ->Int)(l:List κ):List κ:=l.mergeSort fun x y=>!(ltOf c) y x
def Ir (l:List κ):(E6 c l).Perm l:=List.mergeSort_perm _ _
def Va (h:Ord c){l:List κ}(m:l.Nodup):Hb c (E6 c l):=by
 have g:(E6 c l).Pairwise fun a b=>(!(ltOf c) b a)=true:=by
  refine List.pairwise_mergeSort (fun a b d g j=>?_) (fun a b=>?_) l
  ·simp only[A3w]at g j⊢;exact h.swo.ntrans d b a j g
  simp only[A4b,A3w];cases e:ltOf c b a with
  |false=>exact .inl rfl
  |true =>
   right;simp only[ltOf,decide_eq_true_eq,decide_eq_false_iff_not]at *
   have:=(h.sym b a).1 e;omega
 have j:(E6 c l).Nodup:=(Ir l).nodup_iff.2 m;refine (g.and j).imp fun {a b} ⟨e1,e2⟩=>?_;simp only[A3w,ltOf,decide_eq_false_iff_not]at e1;rcases A4q (c a b) 0 with e|e|e
 ·exact e
 ·exact absurd (h.eq a b e) e2
 exact absurd ((h.sym b a).2 e) e1
end
section
variable {κ:Type} [Inhabited κ] {enc:κ->List Value} {k:Nat}
def Qb (e:∀ x,(enc x).length=k):∀ (ss:List κ) (t:Nat),t<ss.length*k->(ss.flatMap enc)[t]?=some ((enc ss.toArray[t/k]!)[t%k]!)
 |[],t,h=>by simp at h
 |x::ss,t,h=>by
  have j:0<k:=by
   rcases A2a k with h0|h0
   ·rw[h0]at h;simp at h
   exact h0
  rw[A6o];by_cases g:t<k
  ·rw[A1r (by rw[e];exact g),A49 g,A5i g];have:t<(enc x).length:=by rw[e];exact g
   simp[getElem!_pos,this]
  rw[A18 (by rw[e];omega),e,Qb e ss (t-k) (by simp only[A3f,A16]at h;omega)];have m:t/k=(t-k)/k+1:=by rw[Nat.div_eq_sub_div j oV]
  have n:t%k=(t-k)%k:=Nat.mod_eq_sub_mod oV;rw[m,n];simp
def Ani (C:∀ x,(enc x).length=k){W:World}{u:Nat}{e:TypeId}{g:Array Value}{ss:List κ}(j:W.heap[u]?=some (.cells g e (0,0)))(h:g.toList.take (ss.length*k)=ss.flatMap enc):HoldsK enc k W u 0 ss.toArray:=by
 intro t n;rw[size_flatK]at n;have m:t<ss.length*k:=by simpa using n
 have z:g[t]?=some ((flatK enc k ss.toArray)[t]!):=by
  rw[get_flatK enc k _ t n,<-Qb C ss t m,<-h,A3y,if_pos m,A6u]
 constructor
 ·simp[World.cell?,j,z]
 simp[World.frozen?,j]
end
end
section
open Go.RowKit Go.MapKept Go.Shelf Go.Sort
def Nf (x:Par):(Ci x).length=2:=rfl
def Ip (P:Program)(st:List KI×S):List KI×S:=match one P (Ff P 200 st).1 (Ff P 200 st).2 with|some st'=>st'|none=>st
section
variable {P:Program} [A6 P] {fn:Func} {Post:Ce} {st:List KI×S} {u m:PH}
def G.pastI (h:G P fn Post (Ip P st) u m):G P fn Post st u m:=by
 unfold Ip at h;split at h
 ·rename_i st' he;exact⟨Mq 200 st (Pa A6.mx he h.out)⟩
 exact h
def Fn0.weak {f:FuncId}{args:List Value}{R j:Value->PH->Prop}(h:Fn0 P f args u R)(H:∀ v g,R v g->j v g):Fn0 P f args u j:=fun w F=>Calls.mono (h w F) fun e w' ⟨v,g,I,n,t,z,C,E⟩=>⟨v,g,I,n,t,z,C,H _ _ E⟩
end
end
section
open Go.RowKit Go.MapKept Go.Shelf Go.Sort
end
def Af.le {m0 m:PH}{v:Value}{t:TypeId}{sz:Nat}{es:List Value}(h:Af m0 m v t sz es):PH.le m0 m:=by
 rcases h.2 with ⟨_,_,rfl⟩|⟨g,cap,rest,e,rfl,_⟩
 ·exact PH.le_refl _
 exact Jw _ e
def Afk (p:Par×Rat):A9 3 [Bt p]:=fun e g=>by
 simp at g;subst g;exact⟨rfl,fun y h=>by simp[Bt,Value.cells]at h;rcases h with rfl|rfl|rfl<;>rfl⟩
def Aj6 (p:(Par×Par)×Rat):A9 5 [D8 p]:=fun e g=>by
 simp at g;subst g;exact⟨rfl,fun y h=>by simp[D8,Value.cells]at h;rcases h with rfl|rfl|rfl|rfl|rfl<;>rfl⟩
section
variable {i:Nat}{q:Rat}{s:List UInt8}{u:PH}{x:Par×Rat}
def Sf (h:q≠0):Ae q≠[48]:=by
 intro e;unfold Ae at e;split at e
 ·have:=Im (e.trans E5.symm);exact h (A4r.1 this)
 have:(47:UInt8)∈Lib.itoa q.num++47::Lib.itoa (q.den:Int):=mV;rw[e]at this;simp at this
def Re (p q:Par)(r:Bool)(h:decide (Bk p q<0)=r):Fn0 prog 127 [Ap p,Ap q] u fun v _=>v=.bool r:=by
 refine Fn0.o func127<|G.c call200 (Afb p q) ?_;rintro j g e rfl;cases r with
 |true =>
  exact G.lT' (Bk p q) 0 (of_decide_eq_true h)<|G.r (.bool true) ⟨rfl,rfl⟩
 |false =>
  exact G.lF' (Bk p q) 0 (of_decide_eq_false h)<|G.r (.bool false) ⟨rfl,rfl⟩
def Aoz (h:Tx q)(h0:q≠0):Fn0 prog 294 [.string (mkS (Ae q))] u fun v _=>v=.bool true:=by
 refine Fn0.o func294<|G.c call169 (Gu h) ?_;rintro j g e rfl;exact G.x (Ae q) [48] (Sf h0)<|G.r (.bool true) ⟨rfl,rfl⟩
theorem Aa2 (h:Hn s=true):1<=s.length/\s.length<=12:=by
 unfold Hn at h;split at h
 ·cases h
 grind
theorem Y3 (h:Hn s=true){c:UInt8}(hi:s[i]?=some c):(97<=c.toNat/\c.toNat<=122)\/(i≠0/\(c.toNat=45\/(48<=c.toNat/\c.toNat<=57))):=by
 unfold Hn at h;split at h
 ·cases h
 simp only[Aym]at h
 match i,hi with
 |0,hi=>grind
 |i+1,hi=>grind
theorem Asw (h:Hn s=true):Fn0 prog 218 [.string (mkS s)] u fun v _=>v=.bool true:=by
 obtain⟨F,H⟩:=Aa2 h;refine Fn0.o func218<|G.convSB (some .string) 5 s kV kV kV ?_;intro T Q N z;obtain⟨a,c,rfl⟩:=Ac.opn z;rw[Au]at z⊢;refine G.l (ι:=Nat) (fun i=>[(0,tV s),(7,sV a s.length c),(8,iV s.length),(9,iV i)]) (fun _=>[])
  (fun i P L=>i<=s.length/\L=PH.mt) (fun i=>s.length-i) 0 ⟨oV,rfl⟩ ?_
 rintro J i t R O l2 ⟨hi,rfl⟩;by_cases g:i<s.length
 ·refine G.lT i s.length ?_;have m:s[i]?=some s[i]:=A01 g;obtain⟨b,off,rfl,e⟩:=Ac.at' (z.mono l2) (j:=i) (e:=.int .u8 (s[i].toNat:Int)) (by simp[Bm,m]);have K:=Y3 h m;generalize s[i].toNat=n at e K;refine G.a b off s.length c i 1 g<|G.lU none b (off+i*1) (.int .u8 (n:Int)) e ?_;by_cases I:97<=n/\n<=122
  ·exact G.cmpG .geq .u8 (n:Int) 97 true kV rfl (by simp[Db];omega)<|G.cmpG .leq .u8 (n:Int) 122 true kV rfl (by simp[Db];omega)<|G.i i<|G.b (t (i+1) _ _ _ cV l2 ⟨oV,rfl⟩ oV)
  by_cases E:97<=n
  ·grind
  refine G.cmpG .geq .u8 (n:Int) 97 false kV rfl (by simp[Db];omega)<|G.eF i 0 ?_;by_cases C:n=45
  ·exact G.cmpG .neq .u8 (n:Int) 45 false kV rfl (by simp[Db];omega)<|G.i i<|G.b (t (i+1) _ _ _ cV l2 ⟨oV,rfl⟩ oV)
  exact G.cmpG .neq .u8 (n:Int) 45 true kV rfl (by simp[Db];omega)<|G.cmpG .lss .u8 (n:Int) 48 false kV rfl (by simp[Db];omega)<|G.cmpG .gtr .u8 (n:Int) 57 false kV rfl (by simp[Db];omega)<|G.i i<|G.b (t (i+1) _ _ _ cV l2 ⟨oV,rfl⟩ oV)
 obtain rfl:i=s.length:=oV;exact G.lF s.length s.length<|G.hT s.length 1<|G.kT s.length 12<|G.r (.bool true) ⟨rfl,rfl⟩
def Ahn {p:Par}(h:PV p):Fn0 prog 293 [Ap p] u fun v _=>v=.bool true:=by
 refine Fn0.o func293<|G.hT' p.1 (-1) (by have:=h.lo;omega) ?_;by_cases e:p.2 = []
 ·exact G.q p.2 [] e<|G.r (.bool true) ⟨rfl,rfl⟩
 refine G.w p.2 [] e<|G.c call218 (Asw (h.cat.resolve_left e)) ?_;rintro m j g rfl;exact G.r (.bool true) ⟨rfl,rfl⟩
def A0m (h:PV x.1)(e:Tx x.2)(h0:x.2≠0):Fn0 prog 292 [Bt x] u fun v _=>v=.bool false:=by
 refine Fn0.o func292<|G.c call293 (Ahn h) ?_;rintro n j g rfl;refine G.c call294 (Aoz e h0) ?_;rintro t m l2 rfl;exact G.r (.bool false) ⟨rfl,rfl⟩
def A0u {x:(Par×Par)×Rat}(h:PV x.1.1)(g:PV x.1.2)(j:¬ 0<Bk x.1.1 x.1.2)(m:Tx x.2)(h0:x.2≠0):Fn0 prog 296 [D8 x] u fun v _=>v=.bool false:=by
 refine Fn0.o func296<|G.c call293 (Ahn h) ?_;rintro I C n rfl;refine G.c call293 (Ahn g) ?_;rintro J E l2 rfl;refine G.c call127 (Re x.1.2 x.1.1 false (decide_eq_false fun e=>j ((Et.sym _ _).1 e))) ?_;rintro K F t rfl;refine G.c call294 (Aoz m h0) ?_;rintro L H z rfl;exact G.r (.bool false) ⟨rfl,rfl⟩
def Ayf {x y:Par×Rat}(h:Bk x.1 y.1<0):Fn0 prog 298 [Bt x,Bt y] u fun v _=>v=.bool true:=by
 refine Fn0.o func298<|G.c call127 (Re x.1 y.1 true (decide_eq_true h)) ?_;rintro j g e rfl;exact G.r (.bool true) ⟨rfl,rfl⟩
def Ax6 {x y:(Par×Par)×Rat}(h:Oc x.1 y.1<0):Fn0 prog 300 [D8 x,D8 y] u fun v _=>v=.bool true:=by
 refine Fn0.o func300 ?_;by_cases g:Bk x.1.1 y.1.1<0
 ·refine G.c call127 (Re x.1.1 y.1.1 true (decide_eq_true g)) ?_;rintro z t n rfl;exact G.r (.bool true) ⟨rfl,rfl⟩
 have j:Bk x.1.1 y.1.1=0/\Bk x.1.2 y.1.2<0:=by
  unfold Oc at h;split at h
  ·exact absurd h g
  rename_i e;exact⟨by simpa using e,h⟩
 have m:=Et.eq _ _ j.1;refine G.c call127 (Re x.1.1 y.1.1 false (decide_eq_false g)) ?_;rintro z t n rfl;refine G.eqAgg 118 #[.int .i64 x.1.1.1,.string (mkS x.1.1.2)] #[.int .i64 y.1.1.1,.string (mkS y.1.1.2)] true kV kV kV (fun w=>by rw[<-decide_eq_true m];exact Bq.eq x.1.1 y.1.1 w)<|G.c call127 (Re x.1.2 y.1.2 true (decide_eq_true j.2)) ?_;rintro E C l2 rfl;exact G.r (.bool true) ⟨rfl,rfl⟩
theorem Atj {u:PH}{v:Value}{T:List (Par×Rat)}{fid:Nat}(h:Ac u v 3 (T.map Bt))(hl:T.length<=1000000)
 (hcall:∀ args w,(callFunc fid args).run prog w=.ok (.enter fid args) w) (hf:∀ p∈T,∀ u',PH.le u u'->Fn0 prog fid [Bt p] u' fun v _=>v=.bool false) :
 Fn0 prog 301 [v,.func (.func fid) #[] #[]] u fun v' _=>v'=.int .i64 (-1):=by
 obtain⟨a,c,rfl⟩:=h.opn;rw[A03]at h⊢;refine Fn0.o func301 ?_;refine G.l (ι:=Nat) (fun i=>[(0,sV a T.length c),(1,.v (.func (.func fid) #[] #[])),(7,iV T.length),(8,iV i)]) (fun _=>[])
  (fun i u' m'=>i<=T.length/\m'=PH.mt) (fun i=>T.length-i) 0 ⟨oV,rfl⟩ ?_
 rintro J i hJ u1 m1 l1 ⟨hi,rfl⟩;by_cases hlt:i<T.length
 ·refine G.lT (i:Int) (T.length:Int) ?_;have hTi:T[i]?=some T[i]:=A01 hlt;obtain⟨ba,oa,rfl,ea⟩:=Ac.at' (h.mono l1) (j:=i) (e:=Bt T[i]) (by simp[hTi]);refine G.a ba oa T.length c i 3 oV ?_;refine G.lU (some 3) ba (oa+i*3) (Bt T[i]) ea ?_;refine G.call0 fid [Bt T[i]] kV hcall (hf T[i] (A09 hlt) u1 l1) ?_;rintro v2 u2 l2 rfl;refine G.i i ?_;exact G.b (hJ (i+1) _ _ _ cV (l1.trans l2) ⟨oV,rfl⟩ oV)
 ·obtain rfl:i=T.length:=oV
  refine G.lF (T.length:Int) (T.length:Int) ?_;exact G.r (.int .i64 (-1)) ⟨rfl,rfl⟩
def Aic {u:PH}{v:Value}{T:List (Par×Rat)}{fid:Nat}(h:Ac u v 3 (T.map Bt))(m:T.length<=1000000)
 (e:∀ args w,(callFunc fid args).run prog w=.ok (.enter fid args) w) (j:∀ p∈T,∀ g,PH.le u g->Fn0 prog fid [Bt p] g fun v _=>v=.bool false) :
 Fn0 prog 263 [v,.func (.func fid) #[] #[]] u fun n _=>n=.bool false:=by
 refine Fn0.o func263<|G.c call301 (Atj h m e j) ?_;rintro C z t rfl;exact G.hF (-1) 0<|G.r (.bool false) ⟨rfl,rfl⟩
def Agx {u:PH}{v:Value}{T:List (Par×Rat)}{fid:Nat}(h:Ac u v 3 (T.map Bt))(R:T.length<=1000000)
 (g:∀ args w,(callFunc fid args).run prog w=.ok (.enter fid args) w) (N:∀ (i:Nat) x y,T[i]?=some x->T[i+1]?=some y->∀ F,Fn0 prog fid [Bt x,Bt y] F fun v _=>v=.bool true) :
 Fn0 prog 297 [v,.func (.func fid) #[] #[]] u fun Q _=>Q=.bool true:=by
 obtain⟨a,c,rfl⟩:=h.opn;rw[A03]at h⊢;refine Fn0.o func297<|G.l (ι:=Nat) (fun i=>[(0,sV a T.length c),(1,.v (.func (.func fid) #[] #[])),(5,iV (i+1:Nat))]) (fun _=>[])
  (fun i F O=>i<=T.length/\O=PH.mt) (fun i=>T.length-i) 0 ⟨oV,rfl⟩ ?_
 rintro J i L P U E ⟨hi,rfl⟩;by_cases C:i+1<T.length
 ·refine G.lT (i+1:Nat) T.length ?_;have m:T[i]?=some T[i]:=A01 oV;have n:T[i+1]?=some T[i+1]:=A01 C;obtain⟨t,z,rfl,I⟩:=Ac.at' (h.mono E) (j:=i) (e:=Bt T[i]) (by simp[m]);obtain⟨_,_,H,K⟩:=Ac.at' (h.mono E) (j:=i+1) (e:=Bt T[i+1]) (by simp[n]);cases H;refine G.s (i+1:Nat) 1 i<|G.a t z T.length c i 3 oV<|G.lU (some 3) t (z+i*3) (Bt T[i]) I<|G.a t z T.length c (i+1) 3 oV<|G.lU (some 3) t (z+(i+1)*3) (Bt T[i+1]) K<|G.call0 fid [Bt T[i],Bt T[i+1]] kV g (N i _ _ m n P) ?_;rintro W V l2 rfl;exact G.p (i+1:Nat) 1 (i+1+1:Nat)<|G.b (L (i+1) _ _ _ cV (E.trans l2) ⟨oV,rfl⟩ oV)
 exact G.lF (i+1:Nat) T.length<|G.r (.bool true) ⟨rfl,rfl⟩
def Atx {u:PH}{v:Value}{T:List ((Par×Par)×Rat)}{fid:Nat}(h:Ac u v 5 (T.map D8))(O:T.length<=1000000)
 (g:∀ args w,(callFunc fid args).run prog w=.ok (.enter fid args) w) (I:∀ p∈T,∀ z,PH.le u z->Fn0 prog fid [D8 p] z fun v _=>v=.bool false) :
 Fn0 prog 322 [v,.func (.func fid) #[] #[]] u fun N _=>N=.int .i64 (-1):=by
 obtain⟨a,c,rfl⟩:=h.opn;rw[A03]at h⊢;refine Fn0.o func322<|G.l (ι:=Nat) (fun i=>[(0,sV a T.length c),(1,.v (.func (.func fid) #[] #[])),(7,iV T.length),(8,iV i)]) (fun _=>[])
  (fun i z K=>i<=T.length/\K=PH.mt) (fun i=>T.length-i) 0 ⟨oV,rfl⟩ ?_
 rintro J i H L P t ⟨hi,rfl⟩;by_cases m:i<T.length
 ·refine G.lT i T.length ?_;have n:T[i]?=some T[i]:=A01 m;obtain⟨C,E,rfl,F⟩:=Ac.at' (h.mono t) (j:=i) (e:=D8 T[i]) (by simp[n]);refine G.a C E T.length c i 5 oV<|G.lU (some 5) C (E+i*5) (D8 T[i]) F<|G.call0 fid [D8 T[i]] kV g (I T[i] (A09 m) L t) ?_;rintro R Q l2 rfl;exact G.i i<|G.b (H (i+1) _ _ _ cV (t.trans l2) ⟨oV,rfl⟩ oV)
 obtain rfl:i=T.length:=oV;exact G.lF T.length T.length<|G.r (.int .i64 (-1)) ⟨rfl,rfl⟩
def Ahk {u:PH}{v:Value}{T:List ((Par×Par)×Rat)}{fid:Nat}(h:Ac u v 5 (T.map D8))(m:T.length<=1000000)
 (e:∀ args w,(callFunc fid args).run prog w=.ok (.enter fid args) w) (j:∀ p∈T,∀ g,PH.le u g->Fn0 prog fid [D8 p] g fun v _=>v=.bool false) :
 Fn0 prog 295 [v,.func (.func fid) #[] #[]] u fun n _=>n=.bool false:=by
 refine Fn0.o func295<|G.c call322 (Atx h m e j) ?_;rintro C z t rfl;exact G.hF (-1) 0<|G.r (.bool false) ⟨rfl,rfl⟩
def Aew {u:PH}{v:Value}{T:List ((Par×Par)×Rat)}{fid:Nat}(h:Ac u v 5 (T.map D8))(R:T.length<=1000000)
 (g:∀ args w,(callFunc fid args).run prog w=.ok (.enter fid args) w) (N:∀ (i:Nat) x y,T[i]?=some x->T[i+1]?=some y->∀ F,Fn0 prog fid [D8 x,D8 y] F fun v _=>v=.bool true) :
 Fn0 prog 299 [v,.func (.func fid) #[] #[]] u fun Q _=>Q=.bool true:=by
 obtain⟨a,c,rfl⟩:=h.opn;rw[A03]at h⊢;refine Fn0.o func299<|G.l (ι:=Nat) (fun i=>[(0,sV a T.length c),(1,.v (.func (.func fid) #[] #[])),(5,iV (i+1:Nat))]) (fun _=>[])
  (fun i F O=>i<=T.length/\O=PH.mt) (fun i=>T.length-i) 0 ⟨oV,rfl⟩ ?_
 rintro J i L P U E ⟨hi,rfl⟩;by_cases C:i+1<T.length
 ·refine G.lT (i+1:Nat) T.length ?_;have m:T[i]?=some T[i]:=A01 oV;have n:T[i+1]?=some T[i+1]:=A01 C;obtain⟨t,z,rfl,I⟩:=Ac.at' (h.mono E) (j:=i) (e:=D8 T[i]) (by simp[m]);obtain⟨_,_,H,K⟩:=Ac.at' (h.mono E) (j:=i+1) (e:=D8 T[i+1]) (by simp[n]);cases H;refine G.s (i+1:Nat) 1 i<|G.a t z T.length c i 5 oV<|G.lU (some 5) t (z+i*5) (D8 T[i]) I<|G.a t z T.length c (i+1) 5 oV<|G.lU (some 5) t (z+(i+1)*5) (D8 T[i+1]) K<|G.call0 fid [D8 T[i],D8 T[i+1]] kV g (N i _ _ m n P) ?_;rintro W V l2 rfl;exact G.p (i+1:Nat) 1 (i+1+1:Nat)<|G.b (L (i+1) _ _ _ cV (E.trans l2) ⟨oV,rfl⟩ oV)
 exact G.lF (i+1:Nat) T.length<|G.r (.bool true) ⟨rfl,rfl⟩
def Aad {κ:Type}{c:κ->κ->Int}{T:List (κ×Rat)}(h:Hb c (T.map (·.1))){x y:κ×Rat}(j:T[i]?=some x)(m:T[i+1]?=some y):c x.1 y.1<0:=by
 obtain⟨e,rfl⟩:=A05.1 j;obtain⟨g,rfl⟩:=A05.1 m;have:=A3n.1 h i (i+1) (by simpa using e) (by simpa using g) oV;simpa using this
def Ax1 {v:Value}{F:CF}{K:Nat}(N:No u v F K)(n:CFS F)(J:CFV F)(R:K<=1000000):Fn0 prog 262 [v] u fun P _=>P=.bool true:=by
 obtain⟨T,Q,a1,c1,a2,c2,rfl,hT,H,E,C,kT,U⟩:=N;refine Fn0.o func262<|G.c call169 (Gu (SB.tx n.c)) ?_;rintro v1 W h rfl;refine G.c call263 (Aic (fid:=292) (hT.mono h) oV call292 (fun p hp z _=>by
  obtain⟨e,g⟩:=E.val p hp;exact A0m (J.s _ (by rw[<-e];exact g)) (SB.tx (by rw[e];exact n.s _)) g)) ?_
 rintro v2 X l2 rfl;refine G.c call295 (Ahk (fid:=296) (H.mono (h.trans l2)) oV call296 (fun p hp z _=>by
  obtain⟨e,g⟩:=C.val p hp;obtain⟨f1,f2,L⟩:=J.t p.1 (by rw[<-e];exact g);exact A0u f1 f2 L (SB.tx (by rw[e];exact n.t _)) g)) ?_
 rintro v3 Y I rfl;refine G.c call297 (Agx (fid:=298) (hT.mono ((h.trans l2).trans I)) oV call298 (fun i x y j m z=>Ayf (Aad E.srt j m))) ?_;rintro v4 Z O rfl;refine G.c call299 (Aew (fid:=300) (H.mono (((h.trans l2).trans I).trans O)) oV call300 (fun i x y j m z=>Ax6 (Aad C.srt j m))) ?_;rintro v5 u5 V rfl;exact G.r (.bool true) ⟨rfl,rfl⟩
end
def Azl (u:PH)(v:Value)(F:CF)(K:Nat):Prop:=∃ r,v=.tuple #[r,.int .i64 0]/\No u r F K
def No.opn {u:PH}{v:Value}{F:CF}{K:Nat}(h:No u v F K):∃ a1 n1 c1 a2 n2 c2,v=.agg #[.string (mkS (Ae F.c)),.slice a1 n1 c1,.slice a2 n2 c2]:=by
 obtain⟨T,Q,a1,c1,a2,c2,rfl,_⟩:=h;exact⟨_,_,_,_,_,_,rfl⟩
def CF.num (k:Rat):CF:=⟨k,fun _=>0,fun _=>0⟩
section
variable {b c n:Nat}{x:List UInt8}
section rules
variable [Cl] {P:Program} [A6 P] {fn:Func} {Post:Ce} {st:List KI×S} {u m:PH}
def FnK (P:Program)(f:FuncId)(args:List Value)(u m:PH)(R:Value->PH->Prop):Prop:=Ag P f args u m fun v u' m'=>m'=m/\R v u'
def FnK.of {R:Value->PH->Prop}{f:FuncId}{args:List Value}(g:P.funcs[f]?=some fn)(e:fn.body.isSome=true)(j:Nat.ble args.length fn.ntmps=true)(h:G P fn ⟨fun v z t=>t=m/\R v z,m⟩ (st0 fn args) u m):FnK P f args u m R:=Ag.of g e j h
def G.callK (f:Nat)(args:List Value){R:Value->PH->Prop}(h:Aj P (adv P st)=.call f args)(T:∀ args w,(callFunc f args).run P w=.ok (.enter f args) w)(c:FnK P f args u m R)
 (k:∀ v j,PH.le u j->R v j->G P fn Post (nx (adv P st) v) j m):G P fn Post st u m:=by
 refine G.big (K:=fun v j z=>z=m/\R v j) h mV Dv (.inl fun v j z O=>by rw[O.1];exact fun g o V=>V) (fun J o t w C=>?_) (fun v j z L N=>?_)
 ·refine Hq t T w _ (Calls.mono (c w C) fun e w' U=>?_);obtain⟨v,j,z,E,F,H,I⟩:=U;exact⟨v,E,j,z,F,H,I⟩
 obtain⟨rfl,Q⟩:=N;exact k v j L Q
end rules
section
def Av8 {u m:PH}(L:List (List UInt8))(I:n<=L.length)(H:n<=1000000)(t:∀ j s,L[j]?=some s->ElP m b (0+j*1) (.string (mkS s)))(C:∀ j s,j<n->L[j]?=some s->s≠x) :
 FnK prog 291 [.slice (some ⟨b,0,none⟩) n c,.string (mkS x)] u m fun v _=>v=.int .i64 (-1):=by
 refine FnK.of func291 kV kV<|G.l (ι:=Nat) (fun i=>[(0,sV (some ⟨b,0,none⟩) n c),(1,tV x),(7,iV n),(8,iV i)]) (fun _=>[])
  (fun i N F=>i<=n/\F=m) (fun i=>n-i) 0 ⟨oV,rfl⟩ ?_
 rintro J i z O K E ⟨hi,rfl⟩;by_cases h:i<n
 ·refine G.lT i n ?_;have g:L[i]?=some L[i]:=A01 oV;exact G.a b 0 n c i 1 h<|G.lM none b (0+i*1) (.string (mkS L[i])) (t i _ g)<|G.w x L[i] (fun e=>C i _ h g e.symm)<|G.i i<|G.b (z (i+1) _ _ _ cV E ⟨oV,rfl⟩ oV)
 obtain rfl:i=n:=oV;exact G.lF i i<|G.r (.int .i64 (-1)) ⟨rfl,rfl⟩
def Aiw {u m:PH}(L:List (List UInt8))(h:n<=L.length)(g:n<=1000000)(e:∀ j s,L[j]?=some s->ElP m b (0+j*1) (.string (mkS s)))(t:∀ j s,j<n->L[j]?=some s->s≠x) :
 FnK prog 259 [.slice (some ⟨b,0,none⟩) n c,.string (mkS x)] u m fun v _=>v=.bool false:=by
 refine FnK.of func259 kV kV<|G.callK _ _ kV call291 (Av8 (c:=c) L h g e t) ?_;rintro E C z rfl;exact G.hF (-1) 0<|G.r (.bool false) ⟨rfl,rfl⟩
structure Rc (L:List (List UInt8)):Prop where
 word:∀ s∈L,Hn s=true
 nodup:L.Nodup
def Aqj {u m:PH}{b k c:Nat}{L:List (List UInt8)}(h:Rc L)(K:L.length<=1000)(I:L.length<=c)(t:L[k]?=some x)(z:∀ j s,L[j]?=some s->ElP m b (0+j*1) (.string (mkS s))) :
 FnK prog 224 [.slice (some ⟨b,0,none⟩) L.length c,.int .i64 k] u m fun v _=>v=.int .i64 0:=by
 obtain⟨g,F⟩:=A05.1 t;refine FnK.of func224 kV kV<|G.a b 0 L.length c k 1 g<|G.lM none b (0+k*1) (.string (mkS x)) (z k x t)<|G.c call218 (Asw (h.word x (A1k t))) ?_;rintro R O N rfl;refine G.sliceTo 1 (some ⟨b,0,none⟩) L.length c k kV oV<|G.a b 0 L.length c k 1 g<|G.lM none b (0+k*1) (.string (mkS x)) (z k x t)<|G.callK _ _ kV call259 (Aiw (n:=k) (c:=c) (x:=x) L oV oV z fun j s J H e=>?_) ?_
 ·obtain⟨C,E⟩:=A05.1 H;have:=(A9e (h₀:=C) (h₁:=g) h.nodup).1 (by rw[E,F,e]);omega
 rintro T Q l2 rfl;exact G.r (.int .i64 0) ⟨rfl,rfl⟩
def D9 (a:List UInt8×Nat):Value:=.agg #[.string (mkS a.1),.int .i64 a.2]
def nmV (s:List UInt8):Value:=.string (mkS s)
def G6 (L:List (List UInt8)):A9 1 (L.map nmV):=by
 intro e g;obtain⟨s,_,rfl⟩:=A1b.1 g;exact⟨rfl,A1o.1 rfl⟩
end
end
structure Aq4 (T:List (List UInt8×Nat)):Prop where
 names:Rc (T.map (·.1))
 kind:∀ a∈T,1<=a.2/\a.2<=3
def Rc.take {L:List (List UInt8)}(h:Rc L)(k:Nat):Rc (L.take k):=⟨fun s e=>h.word s (A27 e),h.nodup.sublist (List.take_sublist _ _)⟩
def getElem?_snoc_last {α:Type}(l:List α)(x:α):(l++[x])[l.length]?=some x:=mV
def Ae5 {u:PH}{v w x y:Value}{T:List (List UInt8×Nat)}(h:Ac u v 2 (T.map D9))(ok:Aq4 T)(hl:T.length<=1000)(X:∃ a n c,w=.slice a n c)(Y:∃ a n c,x=.slice a n c)(Z:∃ z:Int,y=.int .i64 z) :
 Fn0 prog 172 [.agg #[v,w,x,y]] u fun r _=>r=.int .i64 0:=by
 obtain⟨a,c,rfl⟩:=h.opn;obtain⟨wa,wn,wc,rfl⟩:=X;obtain⟨xa,xn,xc,rfl⟩:=Y;obtain⟨z,rfl⟩:=Z;rw[A03]at h⊢;refine Fn0.o func172<|G.l (ι:=Nat×(Option Addr×Nat×Nat)) (fun i=>[(3,sV i.2.1 i.2.2.1 i.2.2.2),(8,sV a T.length c),(9,iV T.length),(10,iV i.1)]) (fun _=>[])
  (fun i u' m'=>i.1<=T.length/\Af PH.mt m' (.slice i.2.1 i.2.2.1 i.2.2.2) 9 1 (((T.map (·.1)).take i.1).map nmV)) (fun i=>T.length-i.1) (0,(none,0,0)) ⟨mV,Af.nil _ _ _⟩ ?_
 rintro J ⟨i,na,nn,nc⟩ Q u1 m1 R ⟨hi,I⟩;simp only at hi I Q;by_cases F:i<T.length
 ·refine G.lT i T.length ?_;have H:T[i]?=some T[i]:=A01 F;have K:=ok.kind T[i] (A09 F);have t:((T.map (·.1)).take (i+1))=(T.map (·.1)).take i++[T[i].1]:=by
   rw[A1n,A1a,H];rfl
  have g:=ok.names.take (i+1);rw[t]at g;have E:((T.map (·.1)).take i).length=i:=gV;generalize hL:(T.map (·.1)).take i=L at I t g E;obtain⟨O,U,rfl,P⟩:=Ac.at' (h.mono R) (j:=i) (e:=D9 T[i]) (by simp[H]);generalize T[i]=q at P K t g;refine G.a O U T.length c i 2 F<|G.lU (some 2) O (U+i*2) (.agg #[.string (mkS q.1),.int .i64 q.2]) P<|G.B 9 1 16 (.string (mkS [])) [.string (mkS q.1)] (G6 [q.1]) ?_;intro g2 u2 l2 V;refine G.k 9 1 16 (.string (mkS [])) PH.mt (L.map nmV) [.string (mkS q.1)] (.slice na nn nc) g2 0 1 1 I V (G6 [q.1]) ?_;intro v3 m3 m;rw[show L.map nmV++[.string (mkS q.1)]=(L++[q.1]).map nmV by rw[A1i];rfl]at m;obtain⟨N,c3,rfl⟩:=m.ptr mV;have C:=m.cap;rw[A03]at m C⊢;refine G.callK _ _ kV call224 (Aqj (b:=N) (k:=i) (c:=c3) (x:=q.1) (L:=L++[q.1]) g gV C (by rw[<-E];exact getElem?_snoc_last L q.1) fun j s W=>m.el (by rw[A1a,W];rfl)) ?_;rintro v4 u4 l4 rfl;exact G.nF 0 0<|G.lF q.2 1<|G.gF q.2 3<|G.i i<|G.b (Q (i+1,(some ⟨N,0,none⟩,(L++[q.1]).length,c3)) _ _ _ cV ((R.trans l2).trans l4) ⟨dV,by dsimp only;rw[t];exact m⟩ dV)
 obtain rfl:i=T.length:=oV;exact G.lF T.length T.length<|G.pastI<|G.drop PH.mt kV (PH.mt_le _)<|G.r (.int .i64 0) ⟨rfl,rfl⟩
section
variable {α:Type}
abbrev Al:Type:=Nat×Nat×Nat
def Cm (f:Al):Value:=.agg #[.int .i64 f.1,.int .i64 f.2.1,.int .i64 f.2.2]
def Ad1 {α:Type}(p:α->Bool)(T:List α):Int:=match T.findIdx? p with|some k=>(k:Int)|none=>-1
def Av0 {p:α->Bool}{T:List α}{i:Nat}(hi:i<T.length)(h:p T[i]=true)(h0:∀ j (e:j<i),p (T[j]'oV)=false):Ad1 p T=(i:Int):=by
 have:T.findIdx? p=some i:=A52.2 ⟨hi,h,fun j e=>by simp[h0 j e]⟩;unfold Ad1;rw[this]
def Abp {p:α->Bool}{T:List α}(h0:∀ x∈T,p x=false):Ad1 p T = -1:=by
 have:T.findIdx? p=none:=List.findIdx?_eq_none_iff.2 h0;unfold Ad1;rw[this]
def Alt {u m:PH}{v cap:Value}{T:List Al}{fid:Nat}(p:Al->Bool)(h:Ac u v 3 (T.map Cm))(R:T.length<=1000000)
 (n:∀ args w,(callFunc fid args).run prog w=.ok (.enter fid args) w) (L:∀ f∈T,∀ E,PH.le u E->FnK prog fid [Cm f,cap] E m fun v _=>v=.bool (p f)) :
 FnK prog 219 [v,.func (.func fid) #[] #[cap]] u m fun Q _=>Q=.int .i64 (Ad1 p T):=by
 obtain⟨a,c,rfl⟩:=h.opn;rw[A03]at h⊢;refine FnK.of func219 kV kV<|G.l (ι:=Nat) (fun i=>[(0,sV a T.length c),(1,.v (.func (.func fid) #[] #[cap])),(7,iV T.length),(8,iV i)]) (fun _=>[])
  (fun i E O=>i<=T.length/\(∀ j (g:j<T.length),j<i->p (T[j]'g)=false)/\O=m) (fun i=>T.length-i) 0 ⟨oV,fun j g h=>oV,rfl⟩ ?_
 rintro J i K P U C ⟨hi,h0,rfl⟩;by_cases t:i<T.length
 ·refine G.lT i T.length ?_;have z:T[i]?=some T[i]:=A01 t;obtain⟨F,H,rfl,I⟩:=Ac.at' (h.mono C) (j:=i) (e:=Cm T[i]) (by simp[z]);refine G.a F H T.length c i 3 oV<|G.lU (some 3) F (H+i*3) (Cm T[i]) I<|G.callK fid [Cm T[i],cap] kV n (L T[i] (A09 t) P C) ?_;rintro W V l2 rfl;cases hp:p T[i] with
  |true =>
   rw[Av0 t hp fun j g=>h0 j oV g];exact G.r (.int .i64 i) ⟨rfl,rfl⟩
  |false =>
   refine G.i i ?_;exact G.b (K (i+1) _ _ _ cV (C.trans l2) ⟨oV,fun j g h=>by
    rcases (by omega:j<i\/j=i) with e|rfl
    ·exact h0 j g e
    exact hp,rfl⟩ oV)
 obtain rfl:i=T.length:=oV;refine G.lF T.length T.length ?_;rw[Abp fun x N=>by obtain⟨j,g,rfl⟩:=A2y N;exact h0 j g g];exact G.r (.int .i64 (-1)) ⟨rfl,rfl⟩
def Mu {u m:PH}{v cap:Value}{T:List Al}{fid:Nat}(h:Ac u v 3 (T.map Cm))(n:T.length<=1000000)
 (e:∀ args w,(callFunc fid args).run prog w=.ok (.enter fid args) w) (j:∀ f∈T,∀ g,PH.le u g->FnK prog fid [Cm f,cap] g m fun v _=>v=.bool false) :
 FnK prog 159 [v,.func (.func fid) #[] #[cap]] u m fun t _=>t=.bool false:=by
 obtain⟨a,c,rfl⟩:=h.opn;refine FnK.of func159 kV kV<|G.callK _ _ kV call219 (Alt (cap:=cap) (fun _=>false) h n e j) ?_;rintro E C z rfl;rw[Abp fun x _=>rfl];exact G.hF (-1) 0<|G.r (.bool false) ⟨rfl,rfl⟩
def Y2 {u m:PH}{f g:Al}{b:Nat}(h:ElP m b 0 (Cm g))(j:f.1≠g.1):FnK prog 226 [Cm f,.pointer (some ⟨b,0,none⟩)] u m fun v _=>v=.bool false:=by
 refine FnK.of func226 kV kV<|G.f 100 b 0 0 0<|G.lM none b (0+0) (.int .i64 g.1) (fun i x e=>?_) ?_
 ·have:i=0/\x=.int .i64 g.1:=by
   match i,e with
   |0,e=>exact⟨rfl,by simpa[Value.cells] using e.symm⟩
   |i+1,e=>simp[Value.cells]at e
  obtain⟨rfl,rfl⟩:=this;exact h 0 _ rfl
 exact G.eF f.1 g.1<|G.r (.bool false) ⟨rfl,rfl⟩
structure Da (T:List (List UInt8×Nat))(F:List Al)(lab:Int):Prop where
 ok:∀ f∈F,∃ n k,T[f.1]?=some (n,k)/\((f.2.1=1/\k=2/\f.2.2<=1)\/(f.2.1=2/\k=3/\f.2.2=0))/\(f.1:Int)≠lab
 nodup:(F.map (·.1)).Nodup
end
section
variable {b:Nat}{m u:PH}
def Ac.cap {a:Option Addr}{n c sz:Nat}{es:List Value}(h:Ac u (.slice a n c) sz es):es.length<=c:=by
 obtain⟨_,_,e,g,_⟩:=h;cases e;exact g
def L9 {b off:Nat}{q:List UInt8×Nat}(h:ElP u b off (D9 q)):ElP u b (off+1) (.int .i64 q.2):=fun i x e=>by
 match i,e with
 |0,e =>
  have:x=.int .i64 q.2:=by simpa[Value.cells] using e.symm
  subst this;exact h 1 _ rfl
 |i+1,e=>simp[Value.cells]at e
def Ph {t:TypeId}{xs:List Value}{e:Value}(h:e.cells=xs.toArray):ElP (m.upd b (.cells xs.toArray t (0,0))) b 0 e:=fun i x g=>by
 refine⟨_,_,_,Ab _ _ _,?_⟩;rw[h]at g;simpa using g
def Ahq {g:Al}(h:ElP m b 0 (Cm g)):ElP m b (0+0) (.int .i64 g.1):=fun i x e=>by
 match i,e with
 |0,e =>
  have:x=.int .i64 g.1:=by simpa[Value.cells] using e.symm
  subst this;exact h 0 _ rfl
 |i+1,e=>simp[Value.cells]at e
def Aon {v w x:Value}{T:List (List UInt8×Nat)}{F:List Al}{lab:Int}(h:Ac u v 2 (T.map D9))(hF:Ac u x 3 (F.map Cm))(ok:Da T F lab)(hl:T.length<=1000)(a1:F.length<=1000)(hw:∃ a n c,w=.slice a n c) :
 Fn0 prog 174 [.agg #[v,w,x,.int .i64 lab]] u fun r _=>r=.int .i64 0:=by
 obtain⟨a,c,rfl⟩:=h.opn;obtain⟨a',L,rfl⟩:=hF.opn;obtain⟨wa,wn,wc,rfl⟩:=hw;have P:=hF.cap;rw[A03]at h hF P⊢;rw[A03];refine Fn0.o func174<|G.l (ι:=Nat) (fun i=>[(1,.p 0 0),(9,sV a' F.length L),(10,iV F.length),(11,iV i)]) (fun _=>[(0,⟨30,[sV a T.length c,sV wa wn wc,sV a' F.length L,iV lab]⟩)])
  (fun i u' m'=>i<=F.length/\m'=PH.mt) (fun i=>F.length-i) 0 ⟨oV,rfl⟩ ?_
 rintro J i W u1 m1 N ⟨hi,rfl⟩;by_cases K:i<F.length
 ·refine G.lT i F.length ?_;have X:F[i]?=some F[i]:=A01 K;obtain⟨n,k,Y,E,z⟩:=ok.ok F[i] (A09 K);have t:∀ f∈F.take i,f.1≠(F[i]).1:=by
   intro f hf;obtain⟨j,hj,rfl⟩:=A2y hf;rw[A1e]at hj;rw[A7w];intro e;have:=(A9e (xs:=F.map (·.1)) (h₀:=by rw[A03];omega) (h₁:=by rw[A03];omega) (i:=j) (j:=i) ok.nodup).1 (by rw[A3v,A3v];exact e);omega
  obtain⟨O,U,rfl,ea⟩:=Ac.at' (hF.mono N) (j:=i) (e:=Cm F[i]) (by simp[X]);have H:=(hF.mono N).take' i (by rw[A03];omega);rw[<-A5g]at H;have a2:(F.take i).length=i:=by rw[A1e];omega
  generalize F[i]=f at ea Y E z t;obtain⟨Z,a0⟩:=A05.1 Y;obtain⟨V,ob,rfl,eb⟩:=Ac.at' (h.mono N) (j:=f.1) (e:=D9 (n,k)) (by simp[Y]);refine G.a O U F.length L i 3 K<|G.lU (some 3) O (U+i*3) (.agg #[.int .i64 f.1,.int .i64 f.2.1,.int .i64 f.2.2]) ea<|G.lF f.1 0<|G.hF f.1 T.length<|G.a V ob T.length c f.1 2 Z<|G.f 96 V (ob+f.1*2) 1 1<|G.lU none V (ob+f.1*2+1) (.int .i64 k) (L9 eb) ?_;rcases E with ⟨k1,k2,k3⟩|⟨k1,k2,k3⟩
  ·refine G.eT f.2.1 1<|G.eT k 2 ?_;by_cases k0:f.2.2=0
   ·refine G.eT f.2.2 0<|G.eF f.2.1 2<|G.pastI<|G.pub 3003 100 [.int .i64 f.1,.int .i64 f.2.1,.int .i64 f.2.2] kV kV ?_;intro I R Q;refine G.f 100 I 0 0 0<|G.lM none I (0+0) (.int .i64 f.1) (Ahq (g:=f) (Ph rfl))<|G.eF' f.1 lab z<|G.sliceTo 3 (some ⟨O,U,none⟩) F.length L i kV oV<|G.callK _ _ kV call159 (Mu H (by rw[A1e];omega) call226 fun f' C u' _=>Y2 (g:=f) (Ph rfl) (t f' C)) ?_;rintro v2 u2 l2 rfl;exact G.drop PH.mt kV (PH.mt_le _)<|G.i i<|G.b (W (i+1) _ _ _ cV (N.trans l2) ⟨oV,rfl⟩ oV)
   refine G.eF f.2.2 0<|G.eT f.2.2 1<|G.eF f.2.1 2<|G.pastI<|G.pub 3003 100 [.int .i64 f.1,.int .i64 f.2.1,.int .i64 f.2.2] kV kV ?_;intro I R Q;refine G.f 100 I 0 0 0<|G.lM none I (0+0) (.int .i64 f.1) (Ahq (g:=f) (Ph rfl))<|G.eF' f.1 lab z<|G.sliceTo 3 (some ⟨O,U,none⟩) F.length L i kV oV<|G.callK _ _ kV call159 (Mu H (by rw[A1e];omega) call226 fun f' C u' _=>Y2 (g:=f) (Ph rfl) (t f' C)) ?_;rintro v2 u2 l2 rfl;exact G.drop PH.mt kV (PH.mt_le _)<|G.i i<|G.b (W (i+1) _ _ _ cV (N.trans l2) ⟨oV,rfl⟩ oV)
  refine G.eF f.2.1 1<|G.eT f.2.1 2<|G.eT k 3<|G.eT f.2.2 0<|G.pastI<|G.pub 3003 100 [.int .i64 f.1,.int .i64 f.2.1,.int .i64 f.2.2] kV kV ?_;intro I R Q;refine G.f 100 I 0 0 0<|G.lM none I (0+0) (.int .i64 f.1) (Ahq (g:=f) (Ph rfl))<|G.eF' f.1 lab z<|G.sliceTo 3 (some ⟨O,U,none⟩) F.length L i kV oV<|G.callK _ _ kV call159 (Mu H (by rw[A1e];omega) call226 fun f' C u' _=>Y2 (g:=f) (Ph rfl) (t f' C)) ?_;rintro v2 u2 l2 rfl;exact G.drop PH.mt kV (PH.mt_le _)<|G.i i<|G.b (W (i+1) _ _ _ cV (N.trans l2) ⟨oV,rfl⟩ oV)
 obtain rfl:i=F.length:=oV;exact G.lF F.length F.length<|G.r (.int .i64 0) ⟨rfl,rfl⟩
end
section
variable {L:List Bool}{b c n:Nat}{m m0 u:PH}
def Awk (H:n=L.length)(F:n<=1000000)(h:∀ (j:Nat) s,L[j]?=some s->ElP m b (0+j*1) (.bool s))(z:∀ s∈L,s=true) :
 FnK prog 260 [.slice (some ⟨b,0,none⟩) n c,.bool false] u m fun v _=>v=.int .i64 (-1):=by
 refine FnK.of func260 kV kV<|G.l (ι:=Nat) (fun i=>[(0,sV (some ⟨b,0,none⟩) n c),(1,bV false),(7,iV n),(8,iV i)]) (fun _=>[])
  (fun i K E=>i<=n/\E=m) (fun i=>n-i) 0 ⟨oV,rfl⟩ ?_
 rintro J i t N I C ⟨hi,rfl⟩;by_cases g:i<n
 ·refine G.lT i n ?_;have e:L[i]?=some true:=by
   rw[A01 oV];exact congrArg some (z _ (A09 oV))
  exact G.a b 0 n c i 1 g<|G.lM none b (0+i*1) (.bool true) (h i _ e)<|G.eqB false true kV<|G.i i<|G.b (t (i+1) _ _ _ cV C ⟨oV,rfl⟩ oV)
 obtain rfl:i=n:=oV;exact G.lF i i<|G.r (.int .i64 (-1)) ⟨rfl,rfl⟩
def Aiq (h:n=L.length)(g:n<=1000000)(e:∀ (j:Nat) s,L[j]?=some s->ElP m b (0+j*1) (.bool s))(t:∀ s∈L,s=true) :
 FnK prog 225 [.slice (some ⟨b,0,none⟩) n c,.bool false] u m fun v _=>v=.bool false:=by
 refine FnK.of func225 kV kV<|G.callK _ _ kV call260 (Awk (c:=c) (L:=L) h g e t) ?_;rintro E C z rfl;exact G.hF (-1) 0<|G.r (.bool false) ⟨rfl,rfl⟩
abbrev Br:Type:=List UInt8×List Nat×(Option Addr×Nat)
def Hs (r:Br):Value:=.agg #[.string (mkS r.1),.slice r.2.2.1 r.2.1.length r.2.2.2]
structure Py (u:PH)(n:Nat)(R:List Br):Prop where
 names:Rc (R.map (·.1))
 ne:∀ r∈R,r.2.1≠[]
 lt:∀ r∈R,∀ a∈r.2.1,a<n
 len:∀ r∈R,r.2.1.length<=1000
 asc:∀ r∈R,∀ (k:Nat) x y,r.2.1[k]?=some x->r.2.1[k+1]?=some y->x<y
 all:∀ a<n,∃ r∈R,a∈r.2.1
 at':∀ r∈R,Ac u (.slice r.2.2.1 r.2.1.length r.2.2.2) 1 (Ai r.2.1)
def Aqk (g n:Nat)(L:List Bool):Arr:=⟨.slice (some ⟨g,0,none⟩) n n,4,1,L.map .bool⟩
def Ajq (a:Option Addr)(c:Nat)(L:List (List UInt8)):Arr:=⟨.slice a L.length c,9,1,L.map nmV⟩
def Ak5 {g n:Nat}:(Aqk g n L).At m0 m=Af m0 m (.slice (some ⟨g,0,none⟩) n n) 4 1 (L.map .bool):=rfl
def Ak3 {a:Option Addr}{L:List (List UInt8)}:(Ajq a c L).At m0 m=Af m0 m (.slice a L.length c) 9 1 (L.map nmV):=rfl
def Sd (L:List Bool)(a:Nat):(L.map Value.bool).set a (.bool true)=(L.set a true).map Value.bool:=by rw[A2g]
def Aha {w x y:Value}{a0:Option Addr}{n c0:Nat}{R:List Br}(hR:Ac u w 2 (R.map Hs))(ok:Py u n R)(hn:n<=1000)(ax:0<n)(hl:R.length<=1000)(hx:∃ a n c,x=.slice a n c)(hy:∃ z:Int,y=.int .i64 z) :
 Fn0 prog 173 [.agg #[.slice a0 n c0,w,x,y]] u fun r _=>r=.int .i64 0:=by
 obtain⟨a,c,rfl⟩:=hR.opn;obtain⟨xa,xn,xc,rfl⟩:=hx;obtain⟨z,rfl⟩:=hy;rw[A03]at hR⊢;refine Fn0.o func173<|G.make 4 1 1 (.bool false) n kV rfl rfl oV oV oV ?_;rintro v1 m1 af ⟨ad,rfl⟩;obtain⟨g,rfl,_⟩:=af.some';refine G.l (ι:=Nat×List Bool×List (List UInt8)×(Option Addr×Nat)) (fun i=>[(3,sV i.2.2.2.1 i.2.2.1.length i.2.2.2.2),(4,sV (some ⟨g,0,none⟩) n n),(16,sV a R.length c),(17,iV R.length),(18,iV i.1)]) (fun _=>[])
  (fun i u' m'=>i.1<=R.length/\i.2.1.length=n/\i.2.2.1=(R.map (·.1)).take i.1/\(∀ r∈R.take i.1,∀ q∈r.2.1,i.2.1[q]?=some true)/\Bag m' [Aqk g n i.2.1,Ajq i.2.2.2.1 i.2.2.2.2 i.2.2.1]) (fun i=>R.length-i.1) (0,List.replicate n false,[],(none,0))
  ⟨mV,mV,mV,mV,⟨PH.mt,by rw[Ak5,A8z];exact af,PH.mt,Af.nil _ _ _,trivial⟩⟩ ?_
 rintro J ⟨i,L,N,⟨na,nc⟩⟩ hJ u2 m2 l2 ⟨hi,hL,hN,P,Q⟩;simp only at hi hL hN P Q hJ;by_cases a9:i<R.length
 ·refine G.lT i R.length ?_;have a8:R[i]?=some R[i]:=A01 a9;have C:R[i]∈R:=A09 a9;have a1:(R.map (·.1)).take (i+1)=N++[R[i].1]:=by
   rw[A1n,A1a,a8,hN];rfl
  have a5:R.take (i+1)=R.take i++[R[i]]:=by
   rw[A1n,a8];rfl
  have t:=ok.names.take (i+1);rw[a1]at t;have aj:N.length=i:=by rw[hN];simp;omega
  obtain⟨ba,oa,rfl,ea⟩:=Ac.at' (hR.mono l2) (j:=i) (e:=Hs R[i]) (by simp[a8]);generalize R[i]=q at ea C a1 a5 t;obtain⟨T,h,qa,qc⟩:=q;have au:h≠[]:=ok.ne _ C;have ak:∀ p∈h,p<n:=ok.lt _ C;have az:h.length<=1000:=ok.len _ C;have ai:∀ (k:Nat) x y,h[k]?=some x->h[k+1]?=some y->x<y:=ok.asc _ C;have ao:Ac u2 (.slice qa h.length qc) 1 (Ai h):=(ok.at' _ C).mono l2;have ay:0<h.length:=A4f.2 au;simp only at a1 t;refine G.a ba oa R.length c i 2 a9<|G.lU (some 2) ba (oa+i*2) (.agg #[.string (mkS T),.slice qa h.length qc]) ea<|G.B 9 1 16 (.string (mkS [])) [.string (mkS T)] (G6 [T]) ?_;intro g3 u3 l3 e3;obtain⟨mm,ab,a4⟩:=Q.focus 1 rfl;rw[Ak3]at ab;refine G.k 9 1 16 (.string (mkS [])) mm (N.map nmV) [.string (mkS T)] (.slice na N.length nc) g3 0 1 1 ab e3 (G6 [T]) ?_;intro v4 m4 F;rw[show N.map nmV++[.string (mkS T)]=(N++[T]).map nmV by rw[A1i];rfl]at F;obtain⟨b4,c4,rfl⟩:=F.ptr mV;have V:=F.cap;rw[A03]at F V⊢;have I:=a4 (Ajq (some ⟨b4,0,none⟩) c4 (N++[T])) m4 F;simp only[A2j,A2p]at I;refine G.callK _ _ kV call224 (Aqj (b:=b4) (k:=i) (c:=c4) (x:=T) (L:=N++[T]) t gV V (by rw[<-aj];exact getElem?_snoc_last N T) fun j s hs=>F.el (by rw[A1a,hs];rfl)) ?_;rintro v5 u5 l5 rfl;refine G.nF 0 0<|G.eF h.length 0 ?_;generalize N++[T]=N' at I a1;clear F a4 ab Q V t;have aw:∀ p∈h,p<n:=ak;refine G.l (ι:=Nat×List Bool) (fun j=>[(3,sV (some ⟨b4,0,none⟩) N'.length c4),(4,sV (some ⟨g,0,none⟩) n n),(6,.p 5003 0),(16,sV (some ⟨ba,oa,none⟩) R.length c),(17,iV R.length),(18,iV i),(39,sV qa h.length qc),(40,iV h.length),(41,iV j.1)])
   (fun _=>[(5003,⟨98,[tV T,sV qa h.length qc]⟩)])
   (fun j u' m'=>j.1<=h.length/\j.2.length=n/\(∀ r∈R.take i,∀ q∈r.2.1,j.2[q]?=some true)/\(∀ q∈h.take j.1,j.2[q]?=some true)/\Bag m' [Aqk g n j.2,Ajq (some ⟨b4,0,none⟩) c4 N']) (fun j=>h.length-j.1) (0,L)
   ⟨mV,hL,P,mV,I⟩ ?_
  rintro J2 ⟨j,L2⟩ ah u6 m6 l6 ⟨hj,a7,H,E,K⟩;simp only at hj a7 H E K ah;have Y:=ao.mono ((l3.trans l5).trans l6);by_cases X:j<h.length
  ·refine G.lT j h.length ?_;have ap:h[j]?=some h[j]:=A01 X;have al:h[j]<n:=ak _ (A09 X);have a6:h.take (j+1)=h.take j++[h[j]]:=by rw[A1n,ap];rfl
   obtain⟨bq,oq,rfl,eq⟩:=Ac.at' Y (j:=j) (e:=.int .i64 (h[j]:Int)) (by simp[Ai,ap]);generalize h[j]=p at eq al a6;refine G.a bq oq h.length qc j 1 X<|G.lU none bq (oq+j*1) (.int .i64 p) eq<|G.lF p 0<|G.hF p n<|G.a g 0 n n p 1 al ?_;obtain⟨av,aq,aa⟩:=K.focus 0 rfl;rw[Ak5]at aq;refine G.storeA 1 av (L2.map Value.bool) g n n p (.bool true) kV aq (by rw[A03];omega) rfl rfl ?_;intro m7 ag;rw[Sd]at ag;have U:=aa (Aqk g n (L2.set p true)) m7 ag;simp only[A2p]at U;refine G.i j ?_;have W:∀ q,L2[q]?=some true->(L2.set p true)[q]?=some true:=fun q O=>by
    rw[A1z];split
    ·subst_vars;rw[if_pos oV]
    exact O
   exact G.b (ah (j+1,L2.set p true) _ _ _ cV l6 ⟨dV,by simp[a7],fun r hr q O=>W q (H r hr q O),by
    intro q O;dsimp only at O⊢;rw[a6,A1h,A12]at O;rcases O with O|rfl
    ·exact W q (E q O)
    rw[A1z];simp;omega,U⟩ dV)
  obtain rfl:j=h.length:=oV;refine G.lF h.length h.length ?_;rw[A15]at E;refine G.l (ι:=Nat) (fun k=>[(3,sV (some ⟨b4,0,none⟩) N'.length c4),(4,sV (some ⟨g,0,none⟩) n n),(6,.p 5003 0),(10,iV (k+1:Nat)),(16,sV (some ⟨ba,oa,none⟩) R.length c),(17,iV R.length),(18,iV i)])
   (fun _=>[(5003,⟨98,[tV T,sV qa h.length qc]⟩)])
   (fun k u' m'=>k+1<=h.length/\m'=m6) (fun k=>h.length-k) 0
   ⟨oV,rfl⟩ ?_
  rintro J3 k ar u8 m8 l8 ⟨hk,rfl⟩;have Z:=Y.mono l8;by_cases a3:k+1<h.length
  ·refine G.lT (k+1:Nat) h.length ?_;have am:h[k]?=some h[k]:=A01 oV;have an:h[k+1]?=some h[k+1]:=A01 a3;have a2:=ai k _ _ am an;obtain⟨bq,oq,rfl,ae⟩:=Ac.at' Z (j:=k+1) (e:=.int .i64 (h[k+1]:Int)) (by simp[Ai,an]);obtain⟨_,_,e',ac⟩:=Ac.at' Z (j:=k) (e:=.int .i64 (h[k]:Int)) (by simp[Ai,am]);cases e';generalize h[k]=p1 at ac a2;generalize h[k+1]=p2 at ae a2;exact G.a bq oq h.length qc (k+1) 1 a3<|G.lU none bq (oq+(k+1)*1) (.int .i64 p2) ae<|G.s (k+1:Nat) 1 k<|G.a bq oq h.length qc k 1 oV<|G.lU none bq (oq+k*1) (.int .i64 p1) ac<|G.kF p2 p1<|G.p (k+1:Nat) 1 (k+1+1:Nat)<|G.b (ar (k+1) _ _ _ cV l8 ⟨oV,rfl⟩ oV)
  refine G.lF (k+1:Nat) h.length<|G.i i ?_;exact G.b (hJ (i+1,L2,N',(some ⟨b4,0,none⟩,c4)) _ _ _ cV ((((l2.trans l3).trans l5).trans l6).trans l8) ⟨dV,a7,a1.symm,by
   intro r hr q O;dsimp only at hr O⊢;rw[a5,A1h,A12]at hr;rcases hr with hr|rfl
   ·exact H r hr q O
   exact E q O,K⟩ dV)
 obtain rfl:i=R.length:=oV;refine G.lF R.length R.length ?_;rw[A15]at P;refine G.callK _ _ kV call225 (Aiq (b:=g) (c:=n) (L:=L) hL.symm oV (fun j s hs=>Q.el 0 rfl (x:=Aqk g n L) rfl (by show (L.map Value.bool)[j]?=_;rw[A1a,hs];rfl)) fun s hs=>by
  obtain⟨j,hj,rfl⟩:=A2y hs;obtain⟨r,hr,O⟩:=ok.all j oV;have:=P r hr j O;rw[A01 hj]at this;exact A28 this) ?_
 rintro v3 u3 l3 rfl;exact G.drop PH.mt kV (PH.mt_le _)<|G.r (.int .i64 0) ⟨rfl,rfl⟩
end
structure Bl (u:PH)(T:List (List UInt8×Nat))(R:List Br)(F:List Al)(lab:Int):Prop where
 att:Aq4 T
 rel:Py u T.length R
 feat:Da T F lab
 t1:0<T.length
 t2:T.length<=12
 r1:0<R.length
 r2:R.length<=6
 f2:F.length<=8
 l1:-1<=lab
 l2:∀ l:Nat,lab=(l:Int)->∃ n,T[l]?=some (n,2)
def Py.mono {u e:PH}{n:Nat}{R:List Br}(h:Py u n R)(g:PH.le u e):Py e n R:=⟨h.names,h.ne,h.lt,h.len,h.asc,h.all,fun r j=>(h.at' r j).mono g⟩
def Bl.mono {u e:PH}{T:List (List UInt8×Nat)}{R:List Br}{F:List Al}{lab:Int}(h:Bl u T R F lab)(g:PH.le u e):Bl e T R F lab:=⟨h.att,h.rel.mono g,h.feat,h.t1,h.t2,h.r1,h.r2,h.f2,h.l1,h.l2⟩
def H5 (u:PH)(v:Value)(T:List (List UInt8×Nat))(R:List Br)(F:List Al)(lab:Int):Prop :=
 ∃ a c b d e f,v=.agg #[.slice a T.length c,.slice b R.length d,.slice e F.length f,.int .i64 lab]/\Ac u (.slice a T.length c) 2 (T.map D9)/\Ac u (.slice b R.length d) 2 (R.map Hs)/\Ac u (.slice e F.length f) 3 (F.map Cm)
def H5.mono {u j:PH}{v:Value}{T:List (List UInt8×Nat)}{R:List Br}{F:List Al}{lab:Int}(h:H5 u v T R F lab)(g:PH.le u j):H5 j v T R F lab:=by
 obtain⟨a,c,b,d,e,f,z,m,n,t⟩:=h;exact⟨a,c,b,d,e,f,z,m.mono g,n.mono g,t.mono g⟩
def Adn {u:PH}{v:Value}{T:List (List UInt8×Nat)}{R:List Br}{F:List Al}{lab:Int}(h:H5 u v T R F lab)(ok:Bl u T R F lab) :
 Fn0 prog 98 [v] u fun r _=>r=.int .i64 0:=by
 obtain⟨a,c,b,d,e,f,rfl,hT,W,hF⟩:=h;have t1:=ok.t1;have t2:=ok.t2;have r1:=ok.r1;have r2:=ok.r2;have f2:=ok.f2;have lo:=ok.l1;have hi:lab<T.length:=by
  rcases A5q lab 0 with t|I
  ·omega
  obtain⟨n,K⟩:=ok.l2 lab.toNat oV;obtain⟨hk,_⟩:=A05.1 K;omega
 refine Fn0.o func98<|G.eF T.length 0<|G.gF T.length 12<|G.eF R.length 0<|G.gF R.length 6<|G.gF F.length 8<|G.buildU 104 1 8 (.nilFunc) [.func (.func 172) #[] #[],.func (.func 173) #[] #[],.func (.func 174) #[] #[]] kV (fun x O=>by
  simp only[A1g,A11,or_false]at O;rcases O with rfl|rfl|rfl<;>exact⟨rfl,A1o.1 rfl⟩) rfl oV mV mV ?_
 intro g u1 Y U;refine G.l (ι:=Nat) (fun i=>[(1,.p 0 0),(34,sV (some ⟨g,0,none⟩) 3 3),(35,iV (3:Nat)),(36,iV i)])
  (fun _=>[(0,⟨30,[sV a T.length c,sV b R.length d,sV e F.length f,iV lab]⟩)])
  (fun i u' Z=>i<=3/\Z=PH.mt) (fun i=>3-i) 0 ⟨oV,rfl⟩ ?_
 rintro J i H u2 m2 l2 ⟨X,rfl⟩;have m:=Y.trans l2;have E:=U.mono l2;by_cases t:i<3
 ·refine G.lT i (3:Nat)<|G.a g 0 3 3 i 1 t ?_;rcases (by omega:i=0\/i=1\/i=2) with rfl|rfl|rfl
  ·refine G.lU none g (0+0*1) (.func (.func 172) #[] #[]) (E 0 _ rfl)<|G.c call172 (Ae5 (w:=.slice b R.length d) (x:=.slice e F.length f) (y:=.int .i64 lab) (hT.mono m) ok.att oV ⟨_,_,_,rfl⟩ ⟨_,_,_,rfl⟩ ⟨_,rfl⟩) ?_;rintro Q P z rfl;exact G.nF 0 0<|G.p (0:Nat) 1 (0+1:Nat)<|G.b (H (0+1) _ _ _ cV (l2.trans z) ⟨oV,rfl⟩ oV)
  ·refine G.lU none g (0+1*1) (.func (.func 173) #[] #[]) (E 1 _ rfl)<|G.c call173 (Aha (a0:=a) (c0:=c) (x:=.slice e F.length f) (y:=.int .i64 lab) (W.mono m) (ok.rel.mono m) oV oV oV ⟨_,_,_,rfl⟩ ⟨_,rfl⟩) ?_;rintro Q P z rfl;exact G.nF 0 0<|G.p (1:Nat) 1 (1+1:Nat)<|G.b (H (1+1) _ _ _ cV (l2.trans z) ⟨oV,rfl⟩ oV)
  refine G.lU none g (0+2*1) (.func (.func 174) #[] #[]) (E 2 _ rfl)<|G.c call174 (Aon (w:=.slice b R.length d) (hT.mono m) (hF.mono m) ok.feat oV oV ⟨_,_,_,rfl⟩) ?_;rintro Q P z rfl;exact G.nF 0 0<|G.p (2:Nat) 1 (2+1:Nat)<|G.b (H (2+1) _ _ _ cV (l2.trans z) ⟨oV,rfl⟩ oV)
 obtain rfl:i=3:=oV;refine G.lF (3:Nat) (3:Nat)<|G.lF lab (-1)<|G.hF lab T.length ?_;rcases A5q lab 0 with N|I
 ·exact G.hF lab 0<|G.r (.int .i64 0) ⟨rfl,rfl⟩
 refine G.hT lab 0 ?_;obtain⟨l,rfl⟩:∃ l:Nat,lab=(l:Int):=⟨lab.toNat,oV⟩;obtain⟨n,K⟩:=ok.l2 l rfl;obtain⟨C,L,rfl,V⟩:=Ac.at' (hT.mono m) (j:=l) (e:=D9 (n,2)) (by simp[K]);exact G.a C L T.length c l 2 oV<|G.f 96 C (L+l*2) 1 1<|G.lU none C (L+l*2+1) (.int .i64 (2:Nat)) (L9 V)<|G.nF (2:Nat) 2<|G.r (.int .i64 0) ⟨rfl,rfl⟩
section
variable {n:Nat}{v:Value}{z:Int}
def Azo (n:Nat):(Aa n).getD 0 0=n%1000000000:=by
 by_cases h:n=0
 ·subst h;rw[A7];rfl
 rw[Dz h];rfl
def A0k (n:Nat):(Aa n).getD 1 0=n/1000000000%1000000000:=by
 by_cases h:n=0
 ·subst h;rw[A7];rfl
 rw[Dz h];show (Aa (n/1000000000)).getD 0 0=_;rw[Azo]
def Alh (h:n<1000000000000000000):(Aa n).length<=2:=by
 by_cases h0:n=0
 ·subst h0;rw[A7];simp
 rw[Dz h0];by_cases e:n/1000000000=0
 ·rw[e,A7];simp
 rw[Dz e,show n/1000000000/1000000000=0 by omega,A7];simp
def Aa9 (e:0<=z)(g:z<18446744073709551616):IntKind.u64.wrap z=z:=by
 simp only[IntKind.wrap,IntKind.signed,IntKind.bits];simp;omega
section rules
variable {P:Program} [A6 P] {fn:Func} {Post:Ce} {st:List KI×S} {u m:PH}
def G.mul64 (x y z:Int)(h:Aj P (adv P st)=.bin .mul (.int .u64 x) (.int .u64 y))(j:x*y=z)(e:0<=z)(g:z<18446744073709551616)
 (k:G P fn Post (nx (adv P st) (.int .u64 z)) u m):G P fn Post st u m :=
 G.bin _ h C0 (fun t w=>by simp[binOp,Op.intArith,j,Aa9 e g]) k
def G.add64 (x y z:Int)(h:Aj P (adv P st)=.bin .add (.int .u64 x) (.int .u64 y))(j:x+y=z)(e:0<=z)(g:z<18446744073709551616)
 (k:G P fn Post (nx (adv P st) (.int .u64 z)) u m):G P fn Post st u m :=
 G.bin _ h C0 (fun t w=>by simp[binOp,Op.intArith,j,Aa9 e g]) k
end rules
def Abu {u:PH}(h:Dk u v n)(j:n<1000000000000000000)(i:Nat):Fn0 prog 271 [v,.int .i64 i] u fun r _=>r=.int .u64 (((Aa n).getD i 0:Nat):Int):=by
 have t:=Alh j;obtain⟨a,c,rfl,_⟩:=id h;refine Fn0.o func271 ?_;by_cases g:i<(Aa n).length
 ·refine G.lT i ((Aa n).length:Int) ?_;obtain⟨b,off,rfl,e⟩:=h.at g;exact G.a b off (Aa n).length c i 1 g<|G.lU none b (off+i*1) _ e<|G.r _ ⟨rfl,rfl⟩
 refine G.lF i ((Aa n).length:Int) ?_;rw[Fs g];exact G.r (.int .u64 0) ⟨rfl,rfl⟩
def Aoc {u:PH}(h:Dk u v n)(e:n<1000000000000000000):Fn0 prog 272 [v] u fun r _=>r=.int .u64 (n:Int):=by
 obtain⟨a,c,rfl,_⟩:=id h;refine Fn0.o func272<|G.c call271 (Abu h e 1) ?_;rintro C j g rfl;rw[A0k];refine G.mul64 ((n/1000000000%1000000000:Nat):Int) 1000000000 _ kV rfl oV oV<|G.c call271 (Abu (h.mono g) e 0) ?_;rintro E t l2 rfl;rw[Azo];exact G.add64 (((n/1000000000%1000000000:Nat):Int)*1000000000) ((n%1000000000:Nat):Int) (n:Int) kV oV oV oV<|G.r _ ⟨rfl,rfl⟩
def Aom {u:PH}(h:Bi u v z)(t:z.natAbs<1000000000000000000):Fn0 prog 257 [v] u fun r _=>r=.tuple #[.int .i64 z,.bool true]:=by
 obtain⟨a,I,c,rfl,j⟩:=h;obtain⟨a,c,e,_⟩:=id j;cases e;have E:=Alh t;generalize F:z.natAbs=n at j t E⊢;refine Fn0.o func257<|G.gF ((Aa n).length:Int) 3<|G.c call271 (Abu j t 2) ?_;rintro N J C rfl;rw[Fs (k:=2) oV];refine G.cmpG .gtr .u64 ((0:Nat):Int) 4 false kV rfl (by simp[Db])<|G.c call271 (Abu (j.mono C) t 2) ?_;rintro O K l2 rfl;rw[Fs (k:=2) oV];refine G.mul64 ((0:Nat):Int) 1000000000 0 kV oV oV oV<|G.mul64 0 1000000000 0 kV oV oV oV<|G.c call272 (Aoc (j.mono (C.trans l2)) t) ?_;rintro Q L H rfl;refine G.add64 0 (n:Int) (n:Int) kV oV oV oV<|G.cmpG .gtr .u64 (n:Int) 4611686018427387904 false kV rfl (by simp[Db];omega) ?_;by_cases g:z<0
 ·rw[decide_eq_true g];refine G.convI .u64 .i64 .u64 (n:Int) (n:Int) kV ?_ ?_
  ·simp only[IntKind.wrap,IntKind.signed,IntKind.bits];simp;omega
  exact G.neg (n:Int) z kV oV oV oV<|G.r (.tuple #[.int .i64 z,.bool true]) ⟨rfl,rfl⟩
 rw[decide_eq_false g];refine G.convI .u64 .i64 .u64 (n:Int) (n:Int) kV ?_ ?_
 ·simp only[IntKind.wrap,IntKind.signed,IntKind.bits];simp;omega
 obtain rfl:z=(n:Int):=oV;exact G.r (.tuple #[.int .i64 n,.bool true]) ⟨rfl,rfl⟩
end
section
variable {q:Rat}{u:PH}{z:Int}
def Jk (h:z.natAbs<1000000000000000000):Lib.nDigits z.natAbs<=400:=A04 (Cz (k:=18) oV oV) oV
def Aa6 (h:z.natAbs<1000000000000000000):Fn0 prog 217 [.string (mkS (Lib.itoa z))] u fun v _=>v=.tuple #[.int .i64 z,.bool true]:=by
 refine Fn0.o func217<|G.c call222 (Jn (Jk h)) ?_;rintro E n j rfl;refine G.c call256 (Zc (Jk h)) ?_;intro F t l2 e;obtain⟨g,a2,n2,c2,rfl⟩:=e.opn;refine G.c call257 (Aom e h) ?_;rintro H C m rfl;exact G.r (.tuple #[.int .i64 z,.bool true]) ⟨rfl,rfl⟩
def Ayv (h:Tx q):Fn0 prog 216 [.string (mkS (Ae q))] u fun v _=>v=.tuple #[.string (mkS (Lib.itoa q.num)),.string (mkS (Lib.itoa (q.den:Int))),.bool true]:=by
 refine Fn0.o func216<|G.c call169 (Gu h) ?_;rintro n j g rfl;refine G.c call204 (Ay5 h) ?_;rintro t m l2 rfl;by_cases e:q.den=1
 ·rw[if_pos e,decide_eq_false (by simp[e]),e,show ((1:Nat):Int)=1 from rfl,Hf];exact G.r (.tuple #[.string (mkS (Lib.itoa q.num)),.string (mkS [49]),.bool true]) ⟨rfl,rfl⟩
 rw[if_neg e,decide_eq_true e];exact G.r (.tuple #[.string (mkS (Lib.itoa q.num)),.string (mkS (Lib.itoa (q.den:Int))),.bool true]) ⟨rfl,rfl⟩
def Afu (h:z.natAbs<=1000000000):Fn0 prog 215 [.string (mkS (Lib.itoa z))] u fun v _=>v=.bool true:=by
 refine Fn0.o func215<|G.c call217 (Aa6 (z:=z) oV) ?_;rintro j g e rfl;exact G.hT z (-1000000000)<|G.kT z 1000000000<|G.r (.bool true) ⟨rfl,rfl⟩
structure Dat (q:Rat):Prop where
 num:q.num.natAbs<=1000000000
 den:q.den<=12
def Dat.tx (h:Dat q):Tx q:=⟨Jk (by have:=h.num;omega),by have:=Jk (z:=(q.den:Int)) (by have:=h.den;omega);simpa using this⟩
def Ase :Ae q≠[]:=by
 intro e;unfold Ae at e;split at e
 ·by_cases h:q.num<0
  ·rw[N2 h]at e;cases e
  rw[Lib.itoa,if_neg h]at e;exact Gk _ e
 simp at e
def Awh {s:List UInt8}(h:Dat q):Fn0 prog 158 [D9 (s,2),.string (mkS (Ae q))] u fun v _=>v=.bool true:=by
 have e:=h.den;have hp:=q.den_pos;refine Fn0.o func158<|G.eF (2:Nat) 1<|G.eT (2:Nat) 2<|G.c call216 (Ayv h.tx) ?_;rintro C m g rfl;refine G.c call217 (Aa6 (z:=(q.den:Int)) oV) ?_;rintro E n l2 rfl;refine G.w (Ae q) [] Ase<|G.c call215 (Afu h.num) ?_;rintro F t j rfl;exact G.hT q.den 1<|G.kT q.den 12<|G.r (.bool true) ⟨rfl,rfl⟩
end
def CF.one1 (p:Par)(q:Rat):CF:=⟨1,Nh (fun _=>0) p q,Nh (fun _=>0) (p,p) (q*q)⟩
section
variable {F:CF}{K:Nat}{u:PH}{v:Value}
def A0d (p:Par)(h:No u v F K)(W:K<=1000000):Fn0 prog 233 [v,Ap p] u fun r _=>r=.string (mkS (Ae (F.s p))):=by
 obtain⟨T,Q,a1,c1,a2,c2,rfl,hT,X,E,V,kT,Y⟩:=h;refine Fn0.o func233<|G.l (ι:=Nat) (fun i=>[(3,.p 1 0),(8,sV a1 T.length c1),(9,iV T.length),(10,iV i)]) (fun _=>[(1,⟨118,[iV p.1,tV p.2]⟩)])
  (fun i u' U=>i<=T.length/\(∀ j (g:j<T.length),j<i->(T[j]'g).1≠p)/\U=PH.mt) (fun i=>T.length-i) 0 ⟨oV,fun j g h=>oV,rfl⟩ ?_
 rintro J i N u1 Z H ⟨hi,h0,rfl⟩;by_cases m:i<T.length
 ·refine G.lT i T.length ?_;have z:T[i]?=some T[i]:=A01 m;have n:=(E.val _ (A09 m)).1;obtain⟨C,I,rfl,L⟩:=Ac.at' (hT.mono H) (j:=i) (e:=Bt T[i]) (by simp[z]);refine G.a C I T.length c1 i 3 oV<|G.lU (some 3) C (I+i*3) (.agg #[.int .i64 T[i].1.1,.string (mkS T[i].1.2),.string (mkS (Ae T[i].2))]) L ?_;by_cases t:T[i].1=p
  ·exact G.eqAgg 118 #[.int .i64 T[i].1.1,.string (mkS T[i].1.2)] #[.int .i64 p.1,.string (mkS p.2)] true kV kV kV (fun w=>by rw[<-decide_eq_true t];exact Bq.eq T[i].1 p w)<|G.r (.string (mkS (Ae T[i].2))) ⟨rfl,by rw[n,t]⟩
  refine G.eqAgg 118 #[.int .i64 T[i].1.1,.string (mkS T[i].1.2)] #[.int .i64 p.1,.string (mkS p.2)] false kV kV kV (fun w=>by rw[<-decide_eq_false t];exact Bq.eq T[i].1 p w)<|G.i i ?_;exact G.b (N (i+1) _ _ _ cV H ⟨oV,fun j g h=>by
   rcases (by omega:j<i\/j=i) with e|rfl
   ·exact h0 j g e
   exact t,rfl⟩ oV)
 obtain rfl:i=T.length:=oV;refine G.lF T.length T.length ?_;have R:F.s p=0:=E.out p fun O=>by
  obtain⟨x,P,e⟩:=A1b.1 O;obtain⟨j,g,rfl⟩:=A2y P;exact h0 j g g e
 exact G.r (.string (mkS [48])) ⟨rfl,by rw[R,Fz]⟩
def Afd (p q:Par)(h:No u v F K)(hK:K<=1000000):Fn0 prog 54 [v,Ap p,Ap q] u fun r _=>r=.string (mkS (Ae (F.t (Ay p q)))):=by
 obtain⟨T,Q,a1,c1,a2,c2,rfl,hT,hQ,cT,U,kT,kQ⟩:=h;refine Fn0.o func54 ?_;by_cases H:Bk q p<0
 ·rw[show Ay p q=(q,p) by unfold Ay;rw[if_pos ((Et.sym _ _).1 H)]];refine G.c call127 (Re q p true (decide_eq_true H)) ?_;rintro v0 u0 Z rfl;refine G.l (ι:=Nat) (fun i=>[(4,.p 1 0),(5,.p 2 0),(15,sV a2 Q.length c2),(16,iV Q.length),(17,iV i)]) (fun _=>[(1,⟨118,[iV q.1,tV q.2]⟩),(2,⟨118,[iV p.1,tV p.2]⟩)])
   (fun i u' m'=>i<=Q.length/\(∀ j (n:j<Q.length),j<i->(Q[j]'n).1≠(q,p))/\m'=PH.mt) (fun i=>Q.length-i) 0 ⟨oV,fun j n h=>oV,rfl⟩ ?_
  rintro J i P u1 m1 N ⟨hi,h0,rfl⟩;by_cases z:i<Q.length
  ·refine G.lT i Q.length ?_;have I:Q[i]?=some Q[i]:=A01 z;have C:=(U.val _ (A09 z)).1;obtain⟨O,R,rfl,V⟩:=Ac.at' (hQ.mono (Z.trans N)) (j:=i) (e:=D8 Q[i]) (by simp[I]);have g:Q[i].1≠(q,p)->∀ j (n:j<Q.length),j<i+1->(Q[j]'n).1≠(q,p):=fun L j n h=>by
    rcases (by omega:j<i\/j=i) with e|rfl
    ·exact h0 j n e
    exact L
   refine G.a O R Q.length c2 i 5 oV<|G.lU (some 5) O (R+i*5) (.agg #[.int .i64 Q[i].1.1.1,.string (mkS Q[i].1.1.2),.int .i64 Q[i].1.2.1,.string (mkS Q[i].1.2.2),.string (mkS (Ae Q[i].2))]) V ?_;by_cases E:Q[i].1.1=q
   ·refine G.eqAgg 118 #[.int .i64 Q[i].1.1.1,.string (mkS Q[i].1.1.2)] #[.int .i64 q.1,.string (mkS q.2)] true kV kV kV (fun w=>by rw[<-decide_eq_true E];exact Bq.eq Q[i].1.1 q w) ?_;by_cases m:Q[i].1.2=p
    ·exact G.eqAgg 118 #[.int .i64 Q[i].1.2.1,.string (mkS Q[i].1.2.2)] #[.int .i64 p.1,.string (mkS p.2)] true kV kV kV (fun w=>by rw[<-decide_eq_true m];exact Bq.eq Q[i].1.2 p w)<|G.r (.string (mkS (Ae Q[i].2))) ⟨rfl,by rw[C,show Q[i].1=(q,p) from A6z E m]⟩
    exact G.eqAgg 118 #[.int .i64 Q[i].1.2.1,.string (mkS Q[i].1.2.2)] #[.int .i64 p.1,.string (mkS p.2)] false kV kV kV (fun w=>by rw[<-decide_eq_false m];exact Bq.eq Q[i].1.2 p w)<|G.i i<|G.b (P (i+1) _ _ _ cV N ⟨oV,g fun e=>m (congrArg Prod.snd e),rfl⟩ oV)
   exact G.eqAgg 118 #[.int .i64 Q[i].1.1.1,.string (mkS Q[i].1.1.2)] #[.int .i64 q.1,.string (mkS q.2)] false kV kV kV (fun w=>by rw[<-decide_eq_false E];exact Bq.eq Q[i].1.1 q w)<|G.i i<|G.b (P (i+1) _ _ _ cV N ⟨oV,g fun e=>E (congrArg Prod.fst e),rfl⟩ oV)
  obtain rfl:i=Q.length:=oV;refine G.lF Q.length Q.length ?_;have Y:F.t (q,p)=0:=U.out (q,p) fun W=>by
   obtain⟨x,X,e⟩:=A1b.1 W;obtain⟨j,n,rfl⟩:=A2y X;exact h0 j n n e
  exact G.r (.string (mkS [48])) ⟨rfl,by rw[Y,Fz]⟩
 rw[show Ay p q=(p,q) by unfold Ay;rw[if_neg fun e=>H ((Et.sym _ _).2 e)]];refine G.c call127 (Re q p false (decide_eq_false H)) ?_;rintro v0 u0 Z rfl;refine G.l (ι:=Nat) (fun i=>[(4,.p 1 0),(5,.p 2 0),(15,sV a2 Q.length c2),(16,iV Q.length),(17,iV i)]) (fun _=>[(1,⟨118,[iV p.1,tV p.2]⟩),(2,⟨118,[iV q.1,tV q.2]⟩)])
  (fun i u' m'=>i<=Q.length/\(∀ j (n:j<Q.length),j<i->(Q[j]'n).1≠(p,q))/\m'=PH.mt) (fun i=>Q.length-i) 0 ⟨oV,fun j n h=>oV,rfl⟩ ?_
 rintro J i P u1 m1 N ⟨hi,h0,rfl⟩;by_cases z:i<Q.length
 ·refine G.lT i Q.length ?_;have I:Q[i]?=some Q[i]:=A01 z;have C:=(U.val _ (A09 z)).1;obtain⟨O,R,rfl,V⟩:=Ac.at' (hQ.mono (Z.trans N)) (j:=i) (e:=D8 Q[i]) (by simp[I]);have g:Q[i].1≠(p,q)->∀ j (n:j<Q.length),j<i+1->(Q[j]'n).1≠(p,q):=fun L j n h=>by
   rcases (by omega:j<i\/j=i) with e|rfl
   ·exact h0 j n e
   exact L
  refine G.a O R Q.length c2 i 5 oV<|G.lU (some 5) O (R+i*5) (.agg #[.int .i64 Q[i].1.1.1,.string (mkS Q[i].1.1.2),.int .i64 Q[i].1.2.1,.string (mkS Q[i].1.2.2),.string (mkS (Ae Q[i].2))]) V ?_;by_cases E:Q[i].1.1=p
  ·refine G.eqAgg 118 #[.int .i64 Q[i].1.1.1,.string (mkS Q[i].1.1.2)] #[.int .i64 p.1,.string (mkS p.2)] true kV kV kV (fun w=>by rw[<-decide_eq_true E];exact Bq.eq Q[i].1.1 p w) ?_;by_cases m:Q[i].1.2=q
   ·exact G.eqAgg 118 #[.int .i64 Q[i].1.2.1,.string (mkS Q[i].1.2.2)] #[.int .i64 q.1,.string (mkS q.2)] true kV kV kV (fun w=>by rw[<-decide_eq_true m];exact Bq.eq Q[i].1.2 q w)<|G.r (.string (mkS (Ae Q[i].2))) ⟨rfl,by rw[C,show Q[i].1=(p,q) from A6z E m]⟩
   exact G.eqAgg 118 #[.int .i64 Q[i].1.2.1,.string (mkS Q[i].1.2.2)] #[.int .i64 q.1,.string (mkS q.2)] false kV kV kV (fun w=>by rw[<-decide_eq_false m];exact Bq.eq Q[i].1.2 q w)<|G.i i<|G.b (P (i+1) _ _ _ cV N ⟨oV,g fun e=>m (congrArg Prod.snd e),rfl⟩ oV)
  exact G.eqAgg 118 #[.int .i64 Q[i].1.1.1,.string (mkS Q[i].1.1.2)] #[.int .i64 p.1,.string (mkS p.2)] false kV kV kV (fun w=>by rw[<-decide_eq_false E];exact Bq.eq Q[i].1.1 p w)<|G.i i<|G.b (P (i+1) _ _ _ cV N ⟨oV,g fun e=>E (congrArg Prod.fst e),rfl⟩ oV)
 obtain rfl:i=Q.length:=oV;refine G.lF Q.length Q.length ?_;have Y:F.t (p,q)=0:=U.out (p,q) fun W=>by
  obtain⟨x,X,e⟩:=A1b.1 W;obtain⟨j,n,rfl⟩:=A2y X;exact h0 j n n e
 exact G.r (.string (mkS [48])) ⟨rfl,by rw[Y,Fz]⟩
end
section
variable {p:Par}{q:Rat}
def Ao6 {d N:Nat}(e:Dn d N 1)(h:Dn d N q)(g:Dn d N (q*q)):CFD d N (CF.one1 p q) :=
 ⟨e,fun k=>by
  show Dn d N (Nh (fun _=>(0:Rat)) p q k);unfold Nh;split
  ·exact h
  ·exact Dn.zero _ _,fun k=>by
  show Dn d N (Nh (fun _=>(0:Rat)) (p,p) (q*q) k);unfold Nh;split
  ·exact g
  exact Dn.zero _ _⟩
def Ar0 (hp:PV p):CFV (CF.one1 p q) :=
 ⟨fun k g=>by
  have g:Nh (fun _=>(0:Rat)) p q k≠0:=g;unfold Nh at g;split at g
  ·subst_vars;exact hp
  ·exact absurd rfl g,fun k g=>by
  have g:Nh (fun _=>(0:Rat)) (p,p) (q*q) k≠0:=g;unfold Nh at g;split at g
  ·subst_vars
   exact⟨hp,hp,fun e=>by
   have e:0<Bk p p:=e;have:=(Et.sym _ _).2 e;omega⟩
  exact absurd rfl g⟩
def Hc.listP {u:PH}{g sz:Nat}{es:List Value}(h:Hc u g 0 sz es):Ac u (.slice (some ⟨g,0,none⟩) es.length es.length) sz es:=⟨_,_,rfl,A08 _,fun j e m=>⟨g,0,rfl,h j e m⟩⟩
def Sc {L:List (List UInt8)}(h:(L.all Hn&&decide L.Nodup)=true):Rc L:=by
 rw[A1m,A1o,decide_eq_true_iff]at h;exact⟨h.1,h.2⟩
end
def pw {n:Nat}(h:n<10^30):n<10^100:=A2s h jV
section
variable {F:CF}{K:Nat}{p q:Par}{u:PH}{v:Value}
def Auh (h:p.1<q.1):Bk p q<0:=by
 have e:Q1 p.1 q.1 = -1:=by unfold Q1;rw[if_pos h]
 unfold Bk;rw[e,if_pos fV];decide
def At8 (h:¬ p.1<q.1)(g:p.1≠q.1):¬ Bk p q<0:=by
 have e:Q1 p.1 q.1=1:=by unfold Q1;rw[if_neg h,if_pos oV]
 unfold Bk;rw[e,if_pos fV];decide
def Au3 (h:p.1=q.1):decide (Bk p q<0)=Op.bytesLess p.2 q.2:=by
 have e:Q1 p.1 q.1=0:=by unfold Q1;rw[if_neg oV,if_neg oV]
 unfold Bk;rw[e,if_neg fV];unfold Vj;cases Op.bytesLess p.2 q.2 with
 |true=>rfl
 |false =>
  simp only[A4z,if_false];split<;>rfl
def Fp (p q:Par)(r:Bool)(h:decide (Bk p q<0)=r):Fn0 prog 113 [Ap p,Ap q] u fun v _=>v=.bool r:=by
 refine Fn0.o func113 ?_;by_cases e:p.1<q.1
 ·refine G.lT' p.1 q.1 e ?_;rw[decide_eq_true (Auh e)]at h;subst h;exact G.r (.bool true) ⟨rfl,rfl⟩
 refine G.lF' p.1 q.1 e ?_;by_cases g:p.1=q.1
 ·rw[Au3 g]at h;refine G.eT' p.1 q.1 g<|G.ltS p.2 q.2 r kV h ?_;cases r with
  |true=>exact G.r (.bool true) ⟨rfl,rfl⟩
  |false=>exact G.r (.bool false) ⟨rfl,rfl⟩
 rw[decide_eq_false (At8 e g)]at h;subst h;exact G.eF' p.1 q.1 g<|G.r (.bool false) ⟨rfl,rfl⟩
def At9 (p:Par)(h:No u v F K)(W:K<=1000000):Fn0 prog 137 [v,Ap p] u fun r _=>r=.string (mkS (Ae (F.s p))):=by
 obtain⟨T,Q,a1,c1,a2,c2,rfl,hT,X,E,V,kT,Y⟩:=h;refine Fn0.o func137<|G.l (ι:=Nat) (fun i=>[(3,.p 1 0),(8,sV a1 T.length c1),(9,iV T.length),(10,iV i)]) (fun _=>[(1,⟨118,[iV p.1,tV p.2]⟩)])
  (fun i u' U=>i<=T.length/\(∀ j (g:j<T.length),j<i->(T[j]'g).1≠p)/\U=PH.mt) (fun i=>T.length-i) 0 ⟨oV,fun j g h=>oV,rfl⟩ ?_
 rintro J i N u1 Z H ⟨hi,h0,rfl⟩;by_cases m:i<T.length
 ·refine G.lT i T.length ?_;have z:T[i]?=some T[i]:=A01 m;have n:=(E.val _ (A09 m)).1;obtain⟨C,I,rfl,L⟩:=Ac.at' (hT.mono H) (j:=i) (e:=Bt T[i]) (by simp[z]);refine G.a C I T.length c1 i 3 oV<|G.lU (some 3) C (I+i*3) (.agg #[.int .i64 T[i].1.1,.string (mkS T[i].1.2),.string (mkS (Ae T[i].2))]) L ?_;by_cases t:T[i].1=p
  ·exact G.eqAgg 118 #[.int .i64 T[i].1.1,.string (mkS T[i].1.2)] #[.int .i64 p.1,.string (mkS p.2)] true kV kV kV (fun w=>by rw[<-decide_eq_true t];exact Bq.eq T[i].1 p w)<|G.r (.string (mkS (Ae T[i].2))) ⟨rfl,by rw[n,t]⟩
  refine G.eqAgg 118 #[.int .i64 T[i].1.1,.string (mkS T[i].1.2)] #[.int .i64 p.1,.string (mkS p.2)] false kV kV kV (fun w=>by rw[<-decide_eq_false t];exact Bq.eq T[i].1 p w)<|G.i i ?_;exact G.b (N (i+1) _ _ _ cV H ⟨oV,fun j g h=>by
   rcases (by omega:j<i\/j=i) with e|rfl
   ·exact h0 j g e
   exact t,rfl⟩ oV)
 obtain rfl:i=T.length:=oV;refine G.lF T.length T.length ?_;have R:F.s p=0:=E.out p fun O=>by
  obtain⟨x,P,e⟩:=A1b.1 O;obtain⟨j,g,rfl⟩:=A2y P;exact h0 j g g e
 exact G.r (.string (mkS [48])) ⟨rfl,by rw[R,Fz]⟩
def U2 (p q:Par)(h:No u v F K)(hK:K<=1000000):Fn0 prog 66 [v,Ap p,Ap q] u fun r _=>r=.string (mkS (Ae (F.t (Ay p q)))):=by
 obtain⟨T,Q,a1,c1,a2,c2,rfl,hT,hQ,cT,U,kT,kQ⟩:=h;refine Fn0.o func66 ?_;by_cases H:Bk q p<0
 ·rw[show Ay p q=(q,p) by unfold Ay;rw[if_pos ((Et.sym _ _).1 H)]];refine G.c call113 (Fp q p true (decide_eq_true H)) ?_;rintro v0 u0 Z rfl;refine G.l (ι:=Nat) (fun i=>[(4,.p 1 0),(5,.p 2 0),(15,sV a2 Q.length c2),(16,iV Q.length),(17,iV i)]) (fun _=>[(1,⟨118,[iV q.1,tV q.2]⟩),(2,⟨118,[iV p.1,tV p.2]⟩)])
   (fun i u' m'=>i<=Q.length/\(∀ j (n:j<Q.length),j<i->(Q[j]'n).1≠(q,p))/\m'=PH.mt) (fun i=>Q.length-i) 0 ⟨oV,fun j n h=>oV,rfl⟩ ?_
  rintro J i P u1 m1 N ⟨hi,h0,rfl⟩;by_cases z:i<Q.length
  ·refine G.lT i Q.length ?_;have I:Q[i]?=some Q[i]:=A01 z;have C:=(U.val _ (A09 z)).1;obtain⟨O,R,rfl,V⟩:=Ac.at' (hQ.mono (Z.trans N)) (j:=i) (e:=D8 Q[i]) (by simp[I]);have g:Q[i].1≠(q,p)->∀ j (n:j<Q.length),j<i+1->(Q[j]'n).1≠(q,p):=fun L j n h=>by
    rcases (by omega:j<i\/j=i) with e|rfl
    ·exact h0 j n e
    exact L
   refine G.a O R Q.length c2 i 5 oV<|G.lU (some 5) O (R+i*5) (.agg #[.int .i64 Q[i].1.1.1,.string (mkS Q[i].1.1.2),.int .i64 Q[i].1.2.1,.string (mkS Q[i].1.2.2),.string (mkS (Ae Q[i].2))]) V ?_;by_cases E:Q[i].1.1=q
   ·refine G.eqAgg 118 #[.int .i64 Q[i].1.1.1,.string (mkS Q[i].1.1.2)] #[.int .i64 q.1,.string (mkS q.2)] true kV kV kV (fun w=>by rw[<-decide_eq_true E];exact Bq.eq Q[i].1.1 q w) ?_;by_cases m:Q[i].1.2=p
    ·exact G.eqAgg 118 #[.int .i64 Q[i].1.2.1,.string (mkS Q[i].1.2.2)] #[.int .i64 p.1,.string (mkS p.2)] true kV kV kV (fun w=>by rw[<-decide_eq_true m];exact Bq.eq Q[i].1.2 p w)<|G.r (.string (mkS (Ae Q[i].2))) ⟨rfl,by rw[C,show Q[i].1=(q,p) from A6z E m]⟩
    exact G.eqAgg 118 #[.int .i64 Q[i].1.2.1,.string (mkS Q[i].1.2.2)] #[.int .i64 p.1,.string (mkS p.2)] false kV kV kV (fun w=>by rw[<-decide_eq_false m];exact Bq.eq Q[i].1.2 p w)<|G.i i<|G.b (P (i+1) _ _ _ cV N ⟨oV,g fun e=>m (congrArg Prod.snd e),rfl⟩ oV)
   exact G.eqAgg 118 #[.int .i64 Q[i].1.1.1,.string (mkS Q[i].1.1.2)] #[.int .i64 q.1,.string (mkS q.2)] false kV kV kV (fun w=>by rw[<-decide_eq_false E];exact Bq.eq Q[i].1.1 q w)<|G.i i<|G.b (P (i+1) _ _ _ cV N ⟨oV,g fun e=>E (congrArg Prod.fst e),rfl⟩ oV)
  obtain rfl:i=Q.length:=oV;refine G.lF Q.length Q.length ?_;have Y:F.t (q,p)=0:=U.out (q,p) fun W=>by
   obtain⟨x,X,e⟩:=A1b.1 W;obtain⟨j,n,rfl⟩:=A2y X;exact h0 j n n e
  exact G.r (.string (mkS [48])) ⟨rfl,by rw[Y,Fz]⟩
 rw[show Ay p q=(p,q) by unfold Ay;rw[if_neg fun e=>H ((Et.sym _ _).2 e)]];refine G.c call113 (Fp q p false (decide_eq_false H)) ?_;rintro v0 u0 Z rfl;refine G.l (ι:=Nat) (fun i=>[(4,.p 1 0),(5,.p 2 0),(15,sV a2 Q.length c2),(16,iV Q.length),(17,iV i)]) (fun _=>[(1,⟨118,[iV p.1,tV p.2]⟩),(2,⟨118,[iV q.1,tV q.2]⟩)])
  (fun i u' m'=>i<=Q.length/\(∀ j (n:j<Q.length),j<i->(Q[j]'n).1≠(p,q))/\m'=PH.mt) (fun i=>Q.length-i) 0 ⟨oV,fun j n h=>oV,rfl⟩ ?_
 rintro J i P u1 m1 N ⟨hi,h0,rfl⟩;by_cases z:i<Q.length
 ·refine G.lT i Q.length ?_;have I:Q[i]?=some Q[i]:=A01 z;have C:=(U.val _ (A09 z)).1;obtain⟨O,R,rfl,V⟩:=Ac.at' (hQ.mono (Z.trans N)) (j:=i) (e:=D8 Q[i]) (by simp[I]);have g:Q[i].1≠(p,q)->∀ j (n:j<Q.length),j<i+1->(Q[j]'n).1≠(p,q):=fun L j n h=>by
   rcases (by omega:j<i\/j=i) with e|rfl
   ·exact h0 j n e
   exact L
  refine G.a O R Q.length c2 i 5 oV<|G.lU (some 5) O (R+i*5) (.agg #[.int .i64 Q[i].1.1.1,.string (mkS Q[i].1.1.2),.int .i64 Q[i].1.2.1,.string (mkS Q[i].1.2.2),.string (mkS (Ae Q[i].2))]) V ?_;by_cases E:Q[i].1.1=p
  ·refine G.eqAgg 118 #[.int .i64 Q[i].1.1.1,.string (mkS Q[i].1.1.2)] #[.int .i64 p.1,.string (mkS p.2)] true kV kV kV (fun w=>by rw[<-decide_eq_true E];exact Bq.eq Q[i].1.1 p w) ?_;by_cases m:Q[i].1.2=q
   ·exact G.eqAgg 118 #[.int .i64 Q[i].1.2.1,.string (mkS Q[i].1.2.2)] #[.int .i64 q.1,.string (mkS q.2)] true kV kV kV (fun w=>by rw[<-decide_eq_true m];exact Bq.eq Q[i].1.2 q w)<|G.r (.string (mkS (Ae Q[i].2))) ⟨rfl,by rw[C,show Q[i].1=(p,q) from A6z E m]⟩
   exact G.eqAgg 118 #[.int .i64 Q[i].1.2.1,.string (mkS Q[i].1.2.2)] #[.int .i64 q.1,.string (mkS q.2)] false kV kV kV (fun w=>by rw[<-decide_eq_false m];exact Bq.eq Q[i].1.2 q w)<|G.i i<|G.b (P (i+1) _ _ _ cV N ⟨oV,g fun e=>m (congrArg Prod.snd e),rfl⟩ oV)
  exact G.eqAgg 118 #[.int .i64 Q[i].1.1.1,.string (mkS Q[i].1.1.2)] #[.int .i64 p.1,.string (mkS p.2)] false kV kV kV (fun w=>by rw[<-decide_eq_false E];exact Bq.eq Q[i].1.1 p w)<|G.i i<|G.b (P (i+1) _ _ _ cV N ⟨oV,g fun e=>E (congrArg Prod.fst e),rfl⟩ oV)
 obtain rfl:i=Q.length:=oV;refine G.lF Q.length Q.length ?_;have Y:F.t (p,q)=0:=U.out (p,q) fun W=>by
  obtain⟨x,X,e⟩:=A1b.1 W;obtain⟨j,n,rfl⟩:=A2y X;exact h0 j n n e
 exact G.r (.string (mkS [48])) ⟨rfl,by rw[Y,Fz]⟩
end
section
variable {F:CF}{N' g:Nat}{q:Rat}{v x:Value}{y1 y3:Bool}{y2 y4:SlI}
section
variable {P:Program} [A6 P] {fn:Func} {Post:Ce} {st:List KI×S} {u m:PH}
theorem Ai1 {e:Operand->Value}{o:Op}{t:TypeId}{L:List (Nat×Value)}(h:Bc P e o=.build t L):∃ j:Array (Nat×Operand),o=.build t j/\j.toList.map (fun x=>(x.1,e x.2))=L:=by
 cases o<;>simp only[Bc]at h<;>try cases h
 any_goals ((repeat' split at h)<;>cases h;done)
 grind
def G.buildArr (t e:TypeId)(p q:Par)(h:Aj P (adv P st)=.build t [(0,Ap p),(1,Ap q)])(L:P.underlying t=some (.array 2 e))(J:szB P e=some 2)(O:Z0 P t=some (.agg #[.int .i64 0,.string (mkS []),.int .i64 0,.string (mkS [])]))
 (k:G P fn Post (nx (adv P st) (.agg #[.int .i64 p.1,.string (mkS p.2),.int .i64 q.1,.string (mkS q.2)])) u m):G P fn Post st u m:=by
 refine G.ask h mV (fun n o j w hp=>?_) k;obtain⟨R,C,T⟩:=Ai1 j;obtain⟨H,Q,E,pos,after,z⟩:=o;simp only at C;subst C;have I:(R.map fun x=>(x.1,n x.2)).toList = [(0,Ap p),(1,Ap q)]:=by simp_all
 simp only[execOp,Instr.build,Sem.run_bind,Abk O,Result.andThen_ok,run_underlying L,Bf J,I];rfl
end
def D7 {κ:Type}(enc:κ->Value)(K:κ->Prop)(u:PH)(o:Obj)(f:κ->Rat)(N:Nat):Prop :=
 ∃ l:List (κ×Value),Hu enc o l/\(∀ p∈l,QP u p.2 (f p.1)/\K p.1/\Sz (f p.1) 12)/\(∀ k,k∉l.map (·.1)->f k=0)/\l.length<=N
section
variable {κ:Type} [DecidableEq κ] {enc:κ->Value} {K:κ->Prop} {u:PH} {o:Obj} {f:κ->Rat} {N:Nat}
def D7.mono {j:PH}(h:D7 enc K u o f N)(C:PH.le u j):D7 enc K j o f N:=by
 obtain⟨l,n,e,t,z⟩:=h;exact⟨l,n,fun p hp=>⟨(e p hp).1.mono C,(e p hp).2⟩,t,z⟩
def D7.up (h:D7 enc K u o f N)(z:N<=N'):D7 enc K u o f N':=by
 obtain⟨l,e,j,n,t⟩:=h;exact⟨l,e,j,n,A04 t z⟩
def D7.congr {f':κ->Rat}(h:D7 enc K u o f N)(e:∀ k,f k=f' k):D7 enc K u o f' N:=by
 rw[<-funext e];exact h
def D7.empty:D7 enc K u (.map #[] 0) (fun _=>0) 0:=⟨[],Hu.empty,mV,fun _ _=>rfl,A08 _⟩
theorem D7.put {o':Obj}{a:κ}{x:Value}{q:Rat}{l:List (κ×Value)}(t:Hu enc o l)(z:∀ p∈l,QP u p.2 (f p.1)/\K p.1/\Sz (f p.1) 12)(j:∀ k,k∉l.map (·.1)->f k=0)(C:l.length<=N)
 (h:Hu enc o' (Lr a x l)) (H:QP u x q) (e:K a) (E:Sz q 12):D7 enc K u o' (Nh f a q) (N+1):=by
 refine⟨_,h,fun p hp=>?_,fun k e=>?_,A04 U1 oV⟩
 ·unfold Nh;rcases Ae0 t.nodup hp with rfl|⟨hp,n⟩
  ·grind
  grind
 rw[Aaq,not_or]at e;unfold Nh;rw[if_neg e.1];exact j k e.2
end
def KT {κ:Type}(_:κ):Prop:=True
def KO (k:Par×Par):Prop:=¬ 0<Bk k.1 k.2
theorem KO.pair (p q:Par):KO (Ay p q):=by
 unfold KO Ay;have e:=Et.sym p q;by_cases h:0<Bk p q
 ·grind
 grind
def Kk (m' u:PH)(v:Value)(F:CF)(N:Nat):Prop :=
 ∃ b a n c b' a' n' c' g1 g2 o1 o2,v=.agg #[.bool b,.slice a n c,.bool b',.slice a' n' c',.map (some g1),.map (some g2)]/\QP u (.agg #[.bool b,.slice a n c,.bool b',.slice a' n' c']) F.c/\g1≠g2/\m'=(PH.mt.upd g1 o1).upd g2 o2/\D7 Ap KT u o1 F.s N/\D7 prV KO u o2 F.t N
def R9 (u:PH)(v:Value)(F:CF)(N:Nat):Prop :=
 ∃ b a n c b' a' n' c' g1 g2 o1 o2,v=.agg #[.bool b,.slice a n c,.bool b',.slice a' n' c',.map (some g1),.map (some g2)]/\QP u (.agg #[.bool b,.slice a n c,.bool b',.slice a' n' c']) F.c/\u g1=some o1/\u g2=some o2/\D7 Ap KT u o1 F.s N/\D7 prV KO u o2 F.t N
def R9.mono {u t:PH}{v:Value}{F:CF}{N:Nat}(h:R9 u v F N)(j:PH.le u t):R9 t v F N:=by
 obtain⟨b,a,n,c,b',z,O,C,g1,g2,Q,R,e,E,H,I,J,L⟩:=h;exact⟨b,a,n,c,b',z,O,C,g1,g2,Q,R,e,E.mono j,j _ _ H,j _ _ I,J.mono j,L.mono j⟩
def Kk.grow {t u z:PH}{N:Nat}(h:Kk t u v F N)(j:PH.le u z):Kk t z v F N:=by
 obtain⟨b,a,n,c,b',C,Q,E,g1,g2,R,T,e,H,I,J,L,O⟩:=h;exact⟨b,a,n,c,b',C,Q,E,g1,g2,R,T,e,H.mono j,I,J,L.mono j,O.mono j⟩
def Kk.give {C u t:PH}{N:Nat}(h:Kk C u v F N)(j:PH.le u t)(z:PH.le C t):R9 t v F N:=by
 obtain⟨b,a,n,c,b',E,Q,H,g1,g2,R,T,e,I,J,rfl,L,O⟩:=h;exact⟨b,a,n,c,b',E,Q,H,g1,g2,R,T,e,I.mono j,z _ _ (by rw[Ad _ _ J,Ab]),z _ _ (Ab _ _ _),L.mono j,O.mono j⟩
def Kk.congr {z u:PH}{F j:CF}{N N':Nat}(h:Kk z u v F N)(e:F=j)(t:N<=N'):Kk z u v j N':=by
 subst e;obtain⟨b,a,n,c,b',C,Q,E,g1,g2,R,T,e,H,I,J,L,O⟩:=h;exact⟨b,a,n,c,b',C,Q,E,g1,g2,R,T,e,H,I,J,L.up t,O.up t⟩
def Sw {u:PH}{N:Nat}(h:R9 u v F N):∃ b a n c b' j z t g1 g2,v=.agg #[.bool b,.slice a n c,.bool b',.slice j z t,.map (some g1),.map (some g2)]:=by
 obtain⟨b,a,n,c,b',j,z,t,g1,g2,C,E,e,_⟩:=h;exact⟨b,a,n,c,b',j,z,t,g1,g2,e⟩
def Oe {C u:PH}{N:Nat}(h:Kk C u v F N):∃ b a n c b' j z t g1 g2,v=.agg #[.bool b,.slice a n c,.bool b',.slice j z t,.map (some g1),.map (some g2)]:=by
 obtain⟨b,a,n,c,b',j,z,t,g1,g2,E,H,e,_⟩:=h;exact⟨b,a,n,c,b',j,z,t,g1,g2,e⟩
def Jm {u:PH}{n:Int}(I:-9223372036854775807<=n)(J:n<=9223372036854775807):Ag prog 46 [.int .i64 n] u PH.mt fun v T R=>Kk R T v ⟨(n:Rat),fun _=>0,fun _=>0⟩ 0:=by
 refine Ag.o func46<|G.c call22 (P6 I J) ?_;intro W V U C;obtain⟨b,a,H,c,t,E,z,rfl,_⟩:=C.opn;refine G.mapMk kV ?_;intro g1 L O;refine G.mapMk kV ?_;intro g2 h Q;have j:g1≠g2:=fun e=>by subst e;rw[Ab]at h;cases h
 exact G.r (.agg #[.bool b,.slice a H c,.bool false,.slice t E z,.map (some g1),.map (some g2)]) ⟨b,a,H,c,false,t,E,z,g1,g2,_,_,rfl,C,j,rfl,D7.empty,D7.empty⟩
theorem Oi {u:PH}{g2:Option Nat}{o:Obj}{f:Par->Rat}{N:Nat}{a:Par}(h:D7 Ap KT u o f N)(L:QP u x q)(hq:SB q)(hf:SB (f a))(J:SB (q+f a)) :
 Ag prog 109 [.agg #[.bool y1,.slice y2.1 y2.2.1 y2.2.2,.bool y3,.slice y4.1 y4.2.1 y4.2.2,.map (some g),.map g2],Ap a,x] u (Pj g o) fun v u' m'=>∃ o',m'=Pj g o'/\D7 Ap KT u' o' (Nh f a (q+f a)) (N+1):=by
 obtain⟨l,j,t,I,R⟩:=id h;obtain⟨b,W,n,c,V,n',Z,rfl,_⟩:=L.opn;refine Ag.o func109 ?_;cases hx':Ik a l with
 |none =>
  have a0:f a=0:=I a (M8.1 hx');have e0:q+f a=q:=by grind
  rw[e0]at J⊢;refine G.mapNot (et:=69) Bq fz g o l a kV kV (.inr (Ck _ _)) j hx'<|G.mapPut (et:=69) Bq g o l a (.agg #[.bool b,.slice W n c,.bool false,.slice V n' Z]) kV kV (Ck _ _) j ?_;intro o' e;exact G.r (.tuple #[]) ⟨o',Dp _ _ _ _,D7.put j t I R e L trivial J.sz⟩
 |some xv =>
  obtain⟨T,_,_⟩:=t _ (O4 hx');obtain⟨X,a1,n1,c1,z,O,E,rfl,_⟩:=T.opn;refine G.mapHas (et:=69) Bq fz g o l a (.agg #[.bool X,.slice a1 n1 c1,.bool false,.slice z O E]) kV kV (.inr (Ck _ _)) j hx'<|G.c call26 (Pd L T (hq.sz.mono oV) (hf.sz.mono oV)) ?_;intro v1 u1 l1 U;obtain⟨Y,a2,n2,c2,C,Q,H,rfl,_⟩:=U.opn;refine G.mapPut (et:=69) Bq g o l a (.agg #[.bool Y,.slice a2 n2 c2,.bool false,.slice C Q H]) kV kV (Ck _ _) j ?_;intro o' e;exact G.r (.tuple #[]) ⟨o',Dp _ _ _ _,D7.put j (fun p hp=>⟨(t p hp).1.mono l1,(t p hp).2⟩) I R e U trivial J.sz⟩
theorem H7 {u:PH}{g1:Option Nat}{o:Obj}{f:Par×Par->Rat}{N:Nat}{p r:Par}(h:D7 prV KO u o f N)(E:QP u x q)(hq:SB q)(Z:SB (f (Ay p r)))(H:SB (q+f (Ay p r))) :
 Ag prog 110 [.agg #[.bool y1,.slice y2.1 y2.2.1 y2.2.2,.bool y3,.slice y4.1 y4.2.1 y4.2.2,.map g1,.map (some g)],Ap p,Ap r,x] u (Pj g o) fun v u' m'=>∃ o',m'=Pj g o'/\D7 prV KO u' o' (Nh f (Ay p r) (q+f (Ay p r))) (N+1):=by
 obtain⟨b,aa,n,c,a',n',c',rfl,_⟩:=E.opn;refine Ag.o func110 ?_;have U:=KO.pair p r;by_cases C:Bk r p<0
 ·have he:Ay p r=(r,p):=by unfold Ay;rw[if_pos ((Et.sym r p).1 C)]
  rw[he]at Z H U⊢;refine G.c call113 (Fp r p true (decide_eq_true C)) ?_;rintro v0 u0 Y rfl;obtain⟨l,t,z,Q,V⟩:=h.mono Y;have E:=E.mono Y;cases hx':Ik (r,p) l with
  |none =>
   have a0:f (r,p)=0:=Q _ (M8.1 hx');have e0:q+f (r,p)=q:=by grind
   rw[e0]at H⊢;refine G.buildArr 175 118 r p kV kV kV kV<|G.mapNot (et:=69) I1 fz g o l (r,p) kV kV (.inr (Ck _ _)) t hx'<|G.mapPut (et:=69) I1 g o l (r,p) (.agg #[.bool b,.slice aa n c,.bool false,.slice a' n' c']) kV kV (Ck _ _) t ?_;intro o' j;exact G.r (.tuple #[]) ⟨o',Dp _ _ _ _,D7.put t z Q V j E U H.sz⟩
  |some xv =>
   obtain⟨W,_,_⟩:=z _ (O4 hx');obtain⟨b1,a1,n1,c1,I,R,L,rfl,_⟩:=W.opn;refine G.buildArr 175 118 r p kV kV kV kV<|G.mapHas (et:=69) I1 fz g o l (r,p) (.agg #[.bool b1,.slice a1 n1 c1,.bool false,.slice I R L]) kV kV (.inr (Ck _ _)) t hx'<|G.c call26 (Pd E W (hq.sz.mono oV) (Z.sz.mono oV)) ?_;intro v1 u1 l1 X;obtain⟨b2,a2,n2,c2,J,T,O,rfl,_⟩:=X.opn;refine G.mapPut (et:=69) I1 g o l (r,p) (.agg #[.bool b2,.slice a2 n2 c2,.bool false,.slice J T O]) kV kV (Ck _ _) t ?_;intro o' j;exact G.r (.tuple #[]) ⟨o',Dp _ _ _ _,D7.put t (fun p hp=>⟨(z p hp).1.mono l1,(z p hp).2⟩) Q V j X U H.sz⟩
 have he:Ay p r=(p,r):=by unfold Ay;rw[if_neg (fun e=>C ((Et.sym r p).2 e))]
 rw[he]at Z H U⊢;refine G.c call113 (Fp r p false (decide_eq_false C)) ?_;rintro v0 u0 Y rfl;obtain⟨l,t,z,Q,V⟩:=h.mono Y;have E:=E.mono Y;cases hx':Ik (p,r) l with
 |none =>
  have a0:f (p,r)=0:=Q _ (M8.1 hx');have e0:q+f (p,r)=q:=by grind
  rw[e0]at H⊢;refine G.buildArr 175 118 p r kV kV kV kV<|G.mapNot (et:=69) I1 fz g o l (p,r) kV kV (.inr (Ck _ _)) t hx'<|G.mapPut (et:=69) I1 g o l (p,r) (.agg #[.bool b,.slice aa n c,.bool false,.slice a' n' c']) kV kV (Ck _ _) t ?_;intro o' j;exact G.r (.tuple #[]) ⟨o',Dp _ _ _ _,D7.put t z Q V j E U H.sz⟩
 |some xv =>
  obtain⟨W,_,_⟩:=z _ (O4 hx');obtain⟨b1,a1,n1,c1,I,R,L,rfl,_⟩:=W.opn;refine G.buildArr 175 118 p r kV kV kV kV<|G.mapHas (et:=69) I1 fz g o l (p,r) (.agg #[.bool b1,.slice a1 n1 c1,.bool false,.slice I R L]) kV kV (.inr (Ck _ _)) t hx'<|G.c call26 (Pd E W (hq.sz.mono oV) (Z.sz.mono oV)) ?_;intro v1 u1 l1 X;obtain⟨b2,a2,n2,c2,J,T,O,rfl,_⟩:=X.opn;refine G.mapPut (et:=69) I1 g o l (p,r) (.agg #[.bool b2,.slice a2 n2 c2,.bool false,.slice J T O]) kV kV (Ck _ _) t ?_;intro o' j;exact G.r (.tuple #[]) ⟨o',Dp _ _ _ _,D7.put t (fun p hp=>⟨(z p hp).1.mono l1,(z p hp).2⟩) Q V j X U H.sz⟩
end
section
variable {s:List UInt8}{u:PH}{z:Int}
def Qe :Fn0 prog 222 [.string (mkS [])] u fun v _=>v=.bool false:=by
 refine Fn0.o func222<|G.w [] [48] fV<|G.c call258 (Ux (s:=[]) (p:=[45])) ?_;rintro h g e rfl;exact G.q (Lib.trimPrefix [] [45]) [] rfl<|G.r (.bool false) ⟨rfl,rfl⟩
def Ah0 :Fn0 prog 169 [.string (mkS [])] u fun v _=>v=.bool false:=by
 refine Fn0.o func169<|G.c call204 (Azn (T:=[]) mV) ?_;rintro n h e rfl;refine G.c call222 Qe ?_;rintro t j l2 rfl;refine G.c call222 Qe ?_;rintro C m g rfl;exact G.r (.bool false) ⟨rfl,rfl⟩
def Atf :Fn0 prog 216 [.string (mkS [])] u fun v _=>v=.tuple #[.string (mkS []),.string (mkS []),.bool false]:=by
 refine Fn0.o func216<|G.c call169 Ah0 ?_;rintro h g e rfl;exact G.r (.tuple #[.string (mkS []),.string (mkS []),.bool false]) ⟨rfl,rfl⟩
def Ahf :Fn0 prog 217 [.string (mkS [])] u fun v _=>v=.tuple #[.int .i64 0,.bool false]:=by
 refine Fn0.o func217<|G.c call222 Qe ?_;rintro h g e rfl;exact G.r (.tuple #[.int .i64 0,.bool false]) ⟨rfl,rfl⟩
def Ati {x:List UInt8×Nat}(e:1<=x.2)(g:x.2<=3):Fn0 prog 158 [D9 x,.string (mkS [])] u fun v _=>v=.bool true:=by
 obtain⟨s,k⟩:=x;simp only at e g;refine Fn0.o func158 ?_;rcases (by omega:k=1\/k=2\/k=3) with rfl|rfl|rfl
 ·exact G.eT (1:Nat) 1<|G.q [] [] rfl<|G.r (.bool true) ⟨rfl,rfl⟩
 ·refine G.eF (2:Nat) 1<|G.eT (2:Nat) 2<|G.c call216 Atf ?_;rintro n j h rfl;refine G.c call217 Ahf ?_;rintro t m l2 rfl;exact G.q [] [] rfl<|G.r (.bool true) ⟨rfl,rfl⟩
 exact G.eF (3:Nat) 1<|G.eF (3:Nat) 2<|G.eT (3:Nat) 3<|G.q [] [] rfl<|G.r (.bool true) ⟨rfl,rfl⟩
def Afp :Lib.itoa z≠[]:=by
 by_cases h:z<0
 ·rw[N2 h];simp
 rw[Lib.itoa,if_neg h];exact Gk _
def Awl (h:z.natAbs<=1000000000):Fn0 prog 158 [D9 (s,1),.string (mkS (Lib.itoa z))] u fun v _=>v=.bool true:=by
 refine Fn0.o func158<|G.eT (1:Nat) 1<|G.w (Lib.itoa z) [] Afp<|G.c call215 (Afu h) ?_;rintro j g e rfl;exact G.r (.bool true) ⟨rfl,rfl⟩
def Awf {s t:List UInt8}(h:Hn t=true):Fn0 prog 158 [D9 (s,3),.string (mkS t)] u fun v _=>v=.bool true:=by
 refine Fn0.o func158<|G.eF (3:Nat) 1<|G.eF (3:Nat) 2<|G.eT (3:Nat) 3<|G.w t [] (fun e=>by rw[e]at h;cases h)<|G.c call218 (Asw h) ?_;rintro m j g rfl;exact G.r (.bool true) ⟨rfl,rfl⟩
end
end Go.Proofs.YtemmheaocgmebaaGreatDoor
