import Derived.Test.YtemmheaocgmebaaGreatDoorV07
import Derived.Laws.StructEq
import Derived.RangeFuncSeq
import Derived.RangeFuncGives
import Derived.Maps.AppendAt
import Derived.Shelf.Abstract
import Derived.Shelf.AbstractIn
import Derived.Sort.MapsRangeIn
import Derived.OwnWalkIn
import Derived.TacticsInMore
import Derived.RegionIn
import Derived.LoopNIn
import Derived.LoopIn
import Derived.Shelf.SlIter.Collect
import Derived.Shelf.SlSortCmp.WholeK
import Derived.Ground.SlsfProg
import Derived.Shelf.SlSortCmp.NoneTotal
set_option linter.defProp false
set_option linter.unusedVariables false
set_option linter.unusedSimpArgs false
set_option linter.unusedSectionVars false
set_option maxHeartbeats 16000000
namespace Go.Proofs.YtemmheaocgmebaaGreatDoor
open Go.Proofs.Tryz
open Go.RowKit Go.MapKept
def A6z:=@Prod.ext
def A9v:=@UInt8.lt_iff_toNat_lt
def A8y:=@List.pairwise_cons
def A9l:=@Rat.natCast_inj
def A7d:=@Rat.intCast_add
def A7e:=@Rat.natCast_mul
def Ban:=@Rat.zero_mul
def A2r:=@Rat.intCast_natCast
def Bao:=@Int.ofNat_le
def Bap:=@Rat.mul_inv_cancel
def A46:=@Rat.add_comm
def Baq:=@Array.ext_getElem?
def A3n:=@List.pairwise_iff_getElem
def A9e:=@List.getElem_inj
def A52:=@List.findIdx?_eq_some_iff_getElem
def A2y:=@List.getElem_of_mem
def A7w:=@List.getElem_take
def A3v:=@List.getElem_map
def A8z:=@List.map_replicate
def A11:=@List.not_mem_nil
section
variable [Cl]
open Go.MapKept
def Tt {α β:Type}(f:α->β):∀ {l:List α} {x y:α},(l.map f).Nodup->x∈l->y∈l->f x=f y->x=y
 |[],_,_,_,h,_,_=>by simp at h
 |a::l,x,y,hn,t,j,e=>by
  simp only[A2u,A4j]at hn;rcases A1g.1 t with E|t
  ·subst E;rcases A1g.1 j with C|j
   ·exact C.symm
   exact absurd (A1b.2 ⟨y,j,e.symm⟩) hn.1
  rcases A1g.1 j with C|j
  ·rw[C]at e;exact absurd (A1b.2 ⟨x,t,e⟩) hn.1
  exact Tt f hn.2 t j e
theorem Ym {α β:Type}(f:α->β):∀ {L l:List α},(L.map f).Nodup->(∀ p∈L,p∈l)->L.length<=l.length
 |[],_,_,_=>A1t _
 |a::L,l,hn,hs=>by
  simp only[A2u,A4j]at hn;obtain⟨s,t,rfl⟩:=A6k (hs a mV);have:=Ym f (L:=L) (l:=s++t) hn.2 (fun p hp=>by
   have h1:=hs p (by simp[hp]);have hne:p≠a:=fun e=>hn.1 (by rw[<-e];exact A1b.2 ⟨p,hp,rfl⟩);simp only[A1h,A1g]at h1⊢;rcases h1 with h|h|h
   ·exact .inl h
   ·exact absurd h hne
   ·exact .inr h)
  simp only[A1d,A3f]at this⊢;omega
section
variable {κ:Type} [DecidableEq κ] {enc:κ->Value}
structure Gj (enc:κ->Value)(es:Array MapEntry)(l:List (κ×Value))(D:List MapEntry)(L:List (κ×Value)):Prop where
 it:Vo es D
 kv:D.map (fun e=>(e.key,e.val))=L.map (fun p=>(enc p.1,p.2))
 sub:∀ p∈L,p∈l
 nod:(L.map (·.1)).Nodup
def Gj.nil (es:Array MapEntry)(l:List (κ×Value)):Gj enc es l [] []:=⟨Vo.nil es,rfl,mV,mV⟩
def Gj.snoc (I:∀ a b,enc a=enc b->a=b){es:Array MapEntry}{l:List (κ×Value)}{D:List MapEntry}{L:List (κ×Value)}(V:es.toList.map (fun e=>(e.key,e.val))=l.map (fun p=>(enc p.1,p.2)))(W:(l.map (·.1)).Nodup)
 (h:Gj enc es l D L) {e:MapEntry} (U:e∈es.toList) (hi:Vo es (D++[e])):∃ p,p∈l/\e.key=enc p.1/\e.val=p.2/\p.1∉L.map (·.1)/\Gj enc es l (D++[e]) (L++[p]):=by
 have Y:(e.key,e.val)∈l.map (fun p=>(enc p.1,p.2)):=by rw[<-V];exact A1b.2 ⟨e,U,rfl⟩
 obtain⟨p,hp,j⟩:=A1b.1 Y;simp only[A2i]at j;have J:(es.toList.map (·.key)).Nodup:=by
  have X:es.toList.map (·.key)=(l.map (·.1)).map enc:=by
   have:=congrArg (List.map (·.1)) V;simpa[Function.comp_def] using this
  rw[X];exact List.pairwise_map.2 (W.imp fun K t=>K (I _ _ t))
 have E:p.1∉L.map (·.1):=by
  intro hm;obtain⟨q,C,R⟩:=A1b.1 hm;have Q:q=p:=Tt (·.1) W (h.sub q C) hp R;subst Q;have Z:(enc q.1,q.2)∈D.map (fun e=>(e.key,e.val)):=by rw[h.kv];exact A1b.2 ⟨q,C,rfl⟩
  obtain⟨t,F,H⟩:=A1b.1 Z;simp only[A2i]at H;have:t=e:=Tt (·.key) J (h.it.sub t F) U (H.1.trans j.1);subst this;have:=hi.nod;rw[A1i,A4p]at this;exact this.2.2 t.born (A1b.2 ⟨t,F,rfl⟩) t.born mV rfl
 refine⟨p,hp,j.1.symm,j.2.symm,E,hi,?_,fun q C=>?_,?_⟩
 ·rw[A1i,A1i,h.kv];simp[j.1,j.2]
 ·rcases A1h.1 C with C|C
  ·exact h.sub q C
  simp at C;subst C;exact hp
 rw[A1i,A4p];exact⟨h.nod,mV,fun a ha b T t=>E (by simp at T;rw[<-T,<-t];exact ha)⟩
def Gj.all (C:∀ a b,enc a=enc b->a=b){es:Array MapEntry}{l:List (κ×Value)}{D:List MapEntry}{L:List (κ×Value)}(J:es.toList.map (fun e=>(e.key,e.val))=l.map (fun p=>(enc p.1,p.2)))
 (h:Gj enc es l D L) (hp:D.Perm es.toList):∀ p∈l,p∈L:=by
 intro p E;have F:(enc p.1,p.2)∈es.toList.map (fun e=>(e.key,e.val)):=by rw[J];exact A1b.2 ⟨p,E,rfl⟩
 obtain⟨e,I,j⟩:=A1b.1 F;have H:(e.key,e.val)∈L.map (fun p=>(enc p.1,p.2)):=by rw[<-h.kv];exact A1b.2 ⟨e,hp.mem_iff.2 I,rfl⟩
 obtain⟨q,K,t⟩:=A1b.1 H;simp only[A2i]at t j;have:q=p:=A6z (C _ _ (t.1.trans j.1)) (t.2.trans j.2);subst this;exact K
def Gj.len {es:Array MapEntry}{l:List (κ×Value)}{D:List MapEntry}{L:List (κ×Value)}(h:Gj enc es l D L):L.length<=l.length:=Ym (·.1) h.nod h.sub
end
section rules
variable {P:Program} [A6 P] {fn:Func} {Post:Ce} {st:List KI×S} {u m:PH}
variable {κ:Type} [DecidableEq κ] {enc:κ->Value}
def G.mapNextL (t:∀ a b,enc a=enc b->a=b)(C g:Nat)(es:Array MapEntry)(j:Nat)(l:List (κ×Value))(D:List MapEntry)(L:List (κ×Value))(h:Ni P (adv P st)=.next (.pointer (zA C)))(F:Vl (adv P st)=true)
 (hi:m C=some (.mapIter (some g) j (Ar D) j)) (V:u g=some (.map es j)\/m g=some (.map es j)) (X:Stamped es j) (Q:es.toList.map (fun e=>(e.key,e.val))=l.map (fun p=>(enc p.1,p.2))) (W:(l.map (·.1)).Nodup) (E:Gj enc es l D L)
 (Y:(∀ p∈l,p∈L)->G P fn Post (nx (adv P st) (.tuple #[zL])) u m)
 (Z:∀ p e,p∈l->p.1∉L.map (·.1)->e∈es.toList->e.key=enc p.1->e.val=p.2->Gj enc es l (D++[e]) (L++[p])->G P fn Post (nx (adv P st) (.tuple #[zT,enc p.1,p.2])) u (m.upd C (.mapIter (some g) j (Ar (D++[e])) j))):G P fn Post st u m:=by
 refine G.mapNext C g es j D h F hi V X E.it (fun hp=>Y (E.all t Q hp)) (fun e K H=>?_);obtain⟨p,R,I,J,T,U⟩:=E.snoc t Q W K H;rw[I,J];exact Z p e R T K I J U
end rules
end
section
abbrev Par:=Int×zB
def Ud:∀ a:zB,Op.bytesLess a a=false
 |[]=>rfl
 |x::a=>by unfold Op.bytesLess;rw[Ud a];simp
def Se:∀ {a b c:zB},Op.bytesLess a b=true->Op.bytesLess b c=true->Op.bytesLess a c=true
 |_,[],_,h,_=>by simp[Op.bytesLess]at h
 |_,_::_,[],_,k=>by simp[Op.bytesLess]at k
 |[],_::_,_::_,_,_=>rfl
 |x::a,y::b,z::c,h,k=>by
  unfold Op.bytesLess at h k⊢;simp only[A4b,decide_eq_true_eq,A1m,beq_iff_eq]at h k⊢;rcases h with h|⟨rfl,h⟩
  ·rcases k with k|⟨rfl,k⟩
   ·exact .inl (UInt8.lt_trans h k)
   exact .inl h
  rcases k with k|⟨rfl,k⟩
  ·exact .inl k
  exact .inr ⟨rfl,Se h k⟩
def Ab1:∀ {a b:zB},Op.bytesLess a b=false->Op.bytesLess b a=false->a=b
 |[],[],_,_=>rfl
 |[],_::_,h,_=>by simp[Op.bytesLess]at h
 |_::_,[],_,k=>by simp[Op.bytesLess]at k
 |x::a,y::b,h,k=>by
  unfold Op.bytesLess at h k;simp only[Bool.or_eq_false_iff,decide_eq_false_iff_not,A8b,beq_eq_false_iff_ne]at h k;have j:x=y:=by
   rcases A5u x.toNat y.toNat with e|e|e
   ·exact absurd (A9v.2 e) h.1
   ·exact A8p.1 e
   exact absurd (A9v.2 e) k.1
  subst j;have m:=h.2.resolve_left (fun e=>e rfl);have t:=k.2.resolve_left (fun e=>e rfl);rw[Ab1 m t]
def Vj (a b:zB):Int:=if Op.bytesLess a b then -1 else if a=b then 0 else 1
def Q1 (x y:Int):Int:=if x<y then -1 else if y<x then 1 else 0
def Bk (a b:Par):Int:=if Q1 a.1 b.1≠0 then Q1 a.1 b.1 else Vj a.2 b.2
def Oc (a b:Par×Par):Int:=if Bk a.1 b.1≠0 then Bk a.1 b.1 else Bk a.2 b.2
structure Ord {κ:Type}(c:κ->κ->Int):Prop where
 refl:∀ a,c a a=0
 eq:∀ a b,c a b=0->a=b
 sym:∀ a b,c a b<0↔0<c b a
 trans:∀ a b d,c a b<0->c b d<0->c a d<0
def A0y:Ord Vj:=by
 refine⟨fun a=>by simp[Vj,Ud],fun a b h=>?_,fun a b=>?_,fun a b d h k=>?_⟩
 ·unfold Vj at h;split at h
  ·cases h
  split at h
  ·assumption
  cases h
 ·unfold Vj;by_cases h:Op.bytesLess a b=true
  ·rw[if_pos h];have j:¬ (Op.bytesLess b a=true):=fun k=>by have:=Se h k;rw[Ud]at this;cases this
   have t:¬ (b=a):=fun e=>by rw[e,Ud]at h;cases h
   rw[if_neg j,if_neg t];omega
  rw[if_neg h];constructor
  ·intro k;split at k<;>omega
  intro k;by_cases j:Op.bytesLess b a=true
  ·rw[if_pos j]at k;omega
  rw[if_neg j]at k;have:=Ab1 (Bool.eq_false_iff.2 j) (Bool.eq_false_iff.2 h);rw[if_pos this]at k;omega
 have m:Op.bytesLess a b=true:=by
  unfold Vj at h;split at h
  ·assumption
  split at h<;>omega
 have u:Op.bytesLess b d=true:=by
  unfold Vj at k;split at k
  ·assumption
  split at k<;>omega
 unfold Vj;rw[if_pos (Se m u)];omega
def A0o:Ord Q1:=by
 refine⟨fun a=>by simp[Q1],fun a b h=>?_,fun a b=>?_,fun a b d h k=>?_⟩;all_goals unfold Q1 at *
 ·split at h<;>(try split at h)<;>omega
 ·split<;>split<;>(try split)<;>omega
 split at h<;>split at k<;>(try split at h)<;>(try split at k)<;>split<;>(try split)<;>omega
def Ord.lex {α β:Type}{c:α->α->Int}{d:β->β->Int}(h:Ord c)(k:Ord d):Ord (fun (a b:α×β)=>if c a.1 b.1≠0 then c a.1 b.1 else d a.2 b.2):=by
 refine⟨fun a=>by simp[h.refl,k.refl],fun a b e=>?_,fun a b=>?_,fun a b x e f=>?_⟩
 ·by_cases h0:c a.1 b.1=0
  ·simp only[h0,ne_eq,not_true,if_false]at e;exact A6z (h.eq _ _ h0) (k.eq _ _ e)
  simp only[h0,ne_eq,not_false_eq_true,if_true]at e
 ·have E:=h.sym a.1 b.1;have H:=h.sym b.1 a.1;by_cases h0:c a.1 b.1=0
  ·have e:=h.eq _ _ h0;have t:c b.1 a.1=0:=by rw[<-e];exact h.refl _
   simp only[h0,t,ne_eq,not_true,if_false];exact k.sym _ _
  have t:c b.1 a.1≠0:=fun F=>h0 (by rw[h.eq _ _ F];exact h.refl _);simp only[h0,t,ne_eq,not_false_eq_true,if_true];exact E
 have g:∀ y z:α×β,(if c y.1 z.1≠0 then c y.1 z.1 else d y.2 z.2)<0↔(c y.1 z.1<0\/(y.1=z.1/\d y.2 z.2<0)):=fun y z=>by
  by_cases h0:c y.1 z.1=0
  ·have e:=h.eq _ _ h0;simp only[h0,ne_eq,not_true,if_false];constructor
   ·intro j;exact .inr ⟨e,j⟩
   rintro (j|⟨_,j⟩)
   ·omega
   exact j
  simp only[h0,ne_eq,not_false_eq_true,if_true];constructor
  ·intro j;exact .inl j
  rintro (j|⟨m,_⟩)
  ·exact j
  exact absurd (by rw[m];exact h.refl _) h0
 have m:=(g a b).1 e;have f':=(g b x).1 f;refine (g a x).2 ?_;rcases m with m|⟨u,C⟩
 ·rcases f' with f'|⟨f1,f2⟩
  ·exact .inl (h.trans _ _ _ m f')
  rw[<-f1];exact .inl m
 rcases f' with f'|⟨f1,f2⟩
 ·rw[u];exact .inl f'
 exact .inr ⟨u.trans f1,k.trans _ _ _ C f2⟩
def Et:Ord Bk:=Ord.lex A0o A0y
def A0t:Ord Oc:=Ord.lex Et Et
section
variable {κ:Type} {c:κ->κ->Int}
def Hb (c:κ->κ->Int)(l:List κ):Prop:=l.Pairwise fun a b=>c a b<0
def Ord.irr (h:Ord c)(a:κ):¬ c a a<0:=by rw[h.refl];omega
def Agg (h:Ord c):∀ {l l':List κ},Hb c l->Hb c l'->(∀ a,a∈l↔a∈l')->l=l'
 |[],[],_,_,_=>rfl
 |[],b::l',_,_,e=>by have:=(e b).2 mV;simp at this
 |a::l,[],_,_,e=>by have:=(e a).1 mV;simp at this
 |a::l,b::l',h1,h2,e=>by
  obtain⟨t,C⟩:=A8y.1 h1;obtain⟨u,E⟩:=A8y.1 h2;have m:a=b:=by
   rcases A1g.1 ((e a).1 mV) with r|r
   ·exact r
   rcases A1g.1 ((e b).2 mV) with s|s
   ·exact s.symm
   exact absurd (h.trans _ _ _ (t b s) (u a r)) (h.irr a)
  subst m
  congr 1
  refine Agg h C E fun x=>?_;constructor
  ·intro j;rcases A1g.1 ((e x).1 (by simp[j])) with r|r
   ·subst r;exact absurd (t x j) (h.irr x)
   exact r
  intro j;rcases A1g.1 ((e x).2 (by simp[j])) with r|r
  ·subst r;exact absurd (u x j) (h.irr x)
  exact r
def Hb.nodup (h:Ord c){l:List κ}(m:Hb c l):l.Nodup:=m.imp fun j e=>by rw[e]at j;exact h.irr _ j
structure Can (c:κ->κ->Int)(f:κ->Rat)(l:List (κ×Rat)):Prop where
 srt:Hb c (l.map (·.1))
 val:∀ p∈l,p.2=f p.1/\p.2≠0
 out:∀ k,k∉l.map (·.1)->f k=0
end
structure CF where
 c:Rat
 s:Par->Rat
 t:Par×Par->Rat
def Ay (p q:Par):Par×Par:=if 0<Bk p q then (q,p) else (p,q)
def Wi (p q:Par):Ay p q=Ay q p:=by
 unfold Ay;have j:=Et.sym p q;have m:=Et.sym q p;by_cases h:0<Bk p q
 ·rw[if_pos h,if_neg oV]
 rw[if_neg h];by_cases e:0<Bk q p
 ·rw[if_pos e]
 rw[if_neg e];have:=Et.eq p q oV;rw[this]
def CF.zero:CF:=⟨0,fun _=>0,fun _=>0⟩
def CF.add (a b:CF):CF:=⟨a.c+b.c,fun p=>a.s p+b.s p,fun q=>a.t q+b.t q⟩
def CF.scale (k:Rat)(a:CF):CF:=⟨a.c*k,fun p=>a.s p*k,fun q=>a.t q*k⟩
def I2 (a b:CF)(q:Par×Par):Rat:=if 0<Bk q.1 q.2 then 0 else if q.1=q.2 then 2*(a.s q.1*b.s q.1) else a.s q.1*b.s q.2+a.s q.2*b.s q.1
def CF.mul (a b:CF):CF:=⟨a.c*b.c,fun p=>b.s p*a.c+a.s p*b.c,fun q=>b.t q*a.c+a.t q*b.c+I2 a b q⟩
def CF.ext' {a b:CF}(e:a.c=b.c)(h:∀ p,a.s p=b.s p)(j:∀ q,a.t q=b.t q):a=b:=by
 cases a;cases b;simp only at e h j;rw[e,funext h,funext j]
theorem Ajg (a b:CF)(q:Par×Par):I2 a b q=I2 b a q:=by
 unfold I2;split
 ·rfl
 split<;>grind
theorem CF.mul_comm (a b:CF):a.mul b=b.mul a:=CF.ext' (by simp only[CF.mul];grind) (fun p=>by simp only[CF.mul];grind) (fun q=>by simp only[CF.mul];rw[Ajg];grind)
theorem CF.mul_zero (a:CF):a.mul CF.zero=CF.zero:=by
 refine CF.ext' (by simp only[CF.mul,CF.zero];grind) (fun p=>by simp only[CF.mul,CF.zero];grind) (fun q=>?_);simp only[CF.mul,CF.zero,I2];split
 ·grind
 split<;>grind
end
section
variable {F G:CF}{M N d e:Nat}{a b k q r:Rat}
def Dn (d N:Nat)(q:Rat):Prop:=∃ k:Int,q*((12^d:Nat):Rat)=(k:Rat)/\k.natAbs<=N
def Adj (d:Nat):0<12^d:=A66 oV
def Ax0 (d:Nat):((12^d:Nat):Rat)≠0:=by
 intro h;have j:((12^d:Nat):Rat)=((0:Nat):Rat):=h;have:=A9l.1 j;have:=Adj d;omega
def Dn.mono (h:Dn d N q)(t:N<=M):Dn d M q:=by
 obtain⟨k,j,m⟩:=h;exact⟨k,j,oV⟩
theorem Dn.add (h:Dn d N q)(j:Dn d M r):Dn d (N+M) (q+r):=by
 obtain⟨k,m,u⟩:=h;obtain⟨l,t,C⟩:=j;exact⟨k+l,by rw[A7d,<-m,<-t];grind,oV⟩
theorem Dn.mul (h:Dn d N q)(j:Dn e M r):Dn (d+e) (N*M) (q*r):=by
 obtain⟨k,m,t⟩:=h;obtain⟨l,u,C⟩:=j;refine⟨k*l,?_,by rw[A26];exact A25 t C⟩;rw[A3c,<-m,<-u,A4k,A7e];grind
def Dn.zero (d N:Nat):Dn d N 0:=⟨0,by rw[Ban];rfl,A1t _⟩
theorem Dn.two (h:Dn d N q):Dn d (2*N) (2*q):=by
 have:=h.add h;rw[show 2*q=q+q by grind,show 2*N=N+N by omega];exact this
theorem Dn.frac (h:Dn d N q):q.num.natAbs<=N/\q.den<=12^d:=by
 obtain⟨k,t,E⟩:=h;have hp:=Adj d;have H:q=Rat.divInt k ((12^d:Nat):Int):=by
  rw[A37,A2r,<-t];have:=Ax0 d;grind
 obtain⟨j,m,I⟩:=O7 (y:=k) (z:=((12^d:Nat):Int)) oV;have C:0<Nat.gcd k.natAbs (12^d):=A7j _ hp;rw[H];constructor
 ·rw[j,A8o];exact A04 (A3u _ _) E
 have u:((Rat.divInt k ((12^d:Nat):Int)).den:Int)<=((12^d:Nat):Int):=by
  rw[m,show (((12^d:Nat):Int)).natAbs=12^d from rfl,A32 oV,<-A5k];exact Bao.2 (A3u _ _)
 exact Bao.1 u
def Dn.small (h:Dn d N q)(E:d<=50)(C:N<10^100):Og q=true:=by
 obtain⟨j,m⟩:=h.frac;have t:12^d<=12^50:=A10 oV E;have u:12^50<10^100:=jV
 simp only[Og,A1m,decide_eq_true_eq];exact⟨A22 j C,A22 m (A22 t u)⟩
theorem SmW.dn (h:SmW q):Dn 1 18540 q:=by
 obtain⟨k,u⟩:=h.den;refine⟨q.num*(k:Int),?_,?_⟩
 ·have t:q*(q.den:Rat)=(q.num:Rat):=by
   have m:q=(q.num:Rat)/(((q.den:Int)):Rat):=by rw[<-A37,A7h]
   have hi:=Bap ((q.den:Nat):Rat) (fun e=>absurd (A9l.1 (e.trans (rfl:(0:Rat)=((0:Nat):Rat)))) (Nat.pos_iff_ne_zero.1 q.den_pos));rw[A2r,A8v]at m;generalize ((q.den:Nat):Rat)⁻¹=j at m hi;rw[m];grind
  show q*((12^1:Nat):Rat)=_;rw[show (12^1:Nat)=12 from rfl,u,A7e,A3c,A2r,<-t];grind
 rw[A26,A1s];have t:=h.num;have m:k<=12:=by
  have:=h.le;have:0<q.den:=q.den_pos;rcases A2a k with h0|h0
  ·omega
  exact A48 oV ⟨q.den,by rw[A19];exact u⟩
 exact A25 t m
structure CFD (d N:Nat)(F:CF):Prop where
 c:Dn d N F.c
 s:∀ p,Dn d N (F.s p)
 t:∀ q,Dn d N (F.t q)
def CFD.mono {d N M:Nat}{F:CF}(h:CFD d N F)(j:N<=M):CFD d M F:=⟨h.c.mono j,fun p=>(h.s p).mono j,fun q=>(h.t q).mono j⟩
def CFD.add {d N M:Nat}{F G:CF}(h:CFD d N F)(j:CFD d M G):CFD d (N+M) (F.add G):=⟨h.c.add j.c,fun p=>(h.s p).add (j.s p),fun q=>(h.t q).add (j.t q)⟩
def CFD.scale (h:CFD d N F)(j:Dn e M k):CFD (d+e) (N*M) (F.scale k):=⟨h.c.mul j,fun p=>(h.s p).mul j,fun q=>(h.t q).mul j⟩
theorem CFD.mul {d e N M:Nat}{F G:CF}(h:CFD d N F)(j:CFD e M G):CFD (d+e) (4*(N*M)) (F.mul G):=by
 have m:∀ {q r:Rat},Dn d N q->Dn e M r->Dn (d+e) (N*M) (r*q):=fun {q r} hq hr=>by rw[show r*q=q*r by grind];exact hq.mul hr
 refine⟨(h.c.mul j.c).mono oV,fun p=>((m h.c (j.s p)).add ((h.s p).mul j.c)).mono oV,fun q=>?_⟩;have u:=(m h.c (j.t q)).add ((h.t q).mul j.c);have C:Dn (d+e) (N*M+N*M) (I2 F G q):=by
  unfold I2;split
  ·exact Dn.zero _ _
  split
  ·have:=((h.s q.1).mul (j.s q.1)).two;exact this.mono oV
  exact ((h.s q.1).mul (j.s q.2)).add ((h.s q.2).mul (j.s q.1))
 exact (u.add C).mono oV
def Aym (c:UInt8):Bool:=decide (97<=c.toNat)&&decide (c.toNat<=122)
def Hn (s:zB):Bool:=match s with
 |[]=>false
 |c::l=>Aym c&&l.all (fun x=>Aym x||(decide (x.toNat=45)||(decide (48<=x.toNat)&&decide (x.toNat<=57))))&&decide (s.length<=12)
structure PV (p:Par):Prop where
 lo:-1<=p.1
 hi:p.1<=1000
 cat:p.2 = []\/Hn p.2=true
structure CFV (F:CF):Prop where
 s:∀ p,F.s p≠0->PV p
 t:∀ q,F.t q≠0->PV q.1/\PV q.2/\¬ 0<Bk q.1 q.2
theorem G1 (h:a+b≠0):a≠0\/b≠0:=by
 by_cases j:a=0
 ·right;rintro rfl;apply h;rw[j];grind
 exact .inl j
theorem C1 (h:a*b≠0):a≠0/\b≠0:=⟨fun e=>h (by rw[e];grind),fun e=>h (by rw[e];grind)⟩
def CFV.add (h:CFV F)(j:CFV G):CFV (F.add G) :=
 ⟨fun p hp=>(G1 hp).elim (h.s p) (j.s p),fun q m=>(G1 m).elim (h.t q) (j.t q)⟩
def CFV.scale (h:CFV F)(k:Rat):CFV (F.scale k):=⟨fun p hp=>h.s p (C1 hp).1,fun q j=>h.t q (C1 j).1⟩
def CFV.mul (h:CFV F)(j:CFV G):CFV (F.mul G):=by
 refine⟨fun p hp=>(G1 hp).elim (fun e=>j.s p (C1 e).1) (fun e=>h.s p (C1 e).1),fun q m=>?_⟩;rcases G1 m with e|e
 ·exact (G1 e).elim (fun e=>j.t q (C1 e).1) (fun e=>h.t q (C1 e).1)
 unfold I2 at e;split at e
 ·exact absurd rfl e
 rename_i hno;split at e
 ·rename_i heq;have:=C1 (C1 e).2;exact⟨h.s _ this.1,by rw[<-heq];exact h.s _ this.1,hno⟩
 rcases G1 e with e|e
 ·have:=C1 e;exact⟨h.s _ this.1,j.s _ this.2,hno⟩
 have:=C1 e;exact⟨j.s _ this.2,h.s _ this.1,hno⟩
def CFV.count (k:Rat):CFV ⟨k,fun _=>0,fun _=>0⟩:=⟨fun p h=>absurd rfl h,fun q h=>absurd rfl h⟩
def CFD.count (h:Dn d N k):CFD d N ⟨k,fun _=>0,fun _=>0⟩:=⟨h,fun _=>Dn.zero _ _,fun _=>Dn.zero _ _⟩
end
section
variable {F G:CF}{L:List (Par×Par)}{M N d e:Nat}{p q:Par}
structure CFS (F:CF):Prop where
 c:Og F.c=true
 s:∀ p,Og (F.s p)=true
 t:∀ q,Og (F.t q)=true
def CFD.cfs (h:CFD d N F)(m:d<=50)(j:N<10^100):CFS F:=⟨h.c.small m j,fun p=>(h.s p).small m j,fun q=>(h.t q).small m j⟩
def con (F G:CF)(x:Par×Par):Rat:=if x.1=x.2 then F.s x.1*G.s x.2+F.s x.1*G.s x.2 else F.s x.1*G.s x.2
def Er (F G:CF):List (Par×Par)->Par×Par->Rat
 |[],_=>0
 |x::L,k=>(if Ay x.1 x.2=k then con F G x else 0)+Er F G L k
theorem Jt (F G:CF)(x:Par×Par):∀ (L:List (Par×Par)) (k:Par×Par),Er F G (L++[x]) k=if k=Ay x.1 x.2 then con F G x+Er F G L k else Er F G L k
 |[],k=>by
  simp only[A3q,Er];by_cases h:k=Ay x.1 x.2
  ·rw[if_pos h.symm,if_pos h]
  rw[if_neg (fun e=>h e.symm),if_neg h];grind
 |y::L,k=>by
  simp only[A4x,Er];rw[Jt F G x L k];by_cases h:k=Ay x.1 x.2
  ·rw[if_pos h,if_pos h];grind
  rw[if_neg h,if_neg h]
def two (F G:CF)(L:List (Par×Par))(k:Par×Par):Rat :=
 if 0<Bk k.1 k.2 then 0 else if k.1=k.2 then (if k∈L then con F G k else 0) else (if k∈L then con F G k else 0)+(if (k.2,k.1)∈L then con F G (k.2,k.1) else 0)
def Ro (h:0<Bk p q):Ay p q=(q,p):=by unfold Ay;rw[if_pos h]
def Ii (h:¬ 0<Bk p q):Ay p q=(p,q):=by unfold Ay;rw[if_neg h]
def To (p q:Par):¬ 0<Bk (Ay p q).1 (Ay p q).2:=by
 by_cases h:0<Bk p q
 ·rw[Ro h];intro j;have:=(Et.sym p q).1;have m:=(Et.sym q p).2 h;simp only at j;omega
 rw[Ii h];exact h
def L5 {p q a b:Par}:Ay p q=(a,b)↔¬ 0<Bk a b/\((p=a/\q=b)\/(p=b/\q=a)):=by
 constructor
 ·intro h;have:=To p q;rw[h]at this;refine⟨this,?_⟩;by_cases j:0<Bk p q
  ·rw[Ro j]at h;cases h;exact .inr ⟨rfl,rfl⟩
  rw[Ii j]at h;cases h;exact .inl ⟨rfl,rfl⟩
 rintro⟨h,⟨rfl,rfl⟩|⟨rfl,rfl⟩⟩
 ·exact Ii h
 rw[Wi];exact Ii h
theorem Ub (F G:CF):∀ (L:List (Par×Par)) (k:Par×Par),L.Nodup->Er F G L k=two F G L k
 |[],k,_=>by
  unfold Er two;split
  ·rfl
  split
  ·simp
  simp;grind
 |(p,q)::L,(a,b),hn=>by
  rw[A4j]at hn;unfold Er;rw[Ub F G L (a,b) hn.2];unfold two;simp only;by_cases h0:0<Bk a b
  ·rw[if_pos h0,if_pos h0,if_neg (fun e=>(L5.1 e).1 h0)];grind
  rw[if_neg h0,if_neg h0];by_cases h:a=b
  ·subst h;rw[if_pos rfl,if_pos rfl];by_cases j:(p,q)=(a,a)
   ·cases j;rw[if_pos (L5.2 ⟨h0,.inl ⟨rfl,rfl⟩⟩),if_neg hn.1,if_pos mV];grind
   rw[if_neg (fun e=>j (by rcases (L5.1 e).2 with ⟨rfl,rfl⟩|⟨rfl,rfl⟩<;>rfl))]
   have:((a,a)∈(p,q)::L)↔(a,a)∈L:=by simp[A1g,Ne.symm j]
   simp only[this];grind
  rw[if_neg h,if_neg h];by_cases j:(p,q)=(a,b)
  ·cases j;rw[if_pos (L5.2 ⟨h0,.inl ⟨rfl,rfl⟩⟩),if_neg hn.1,if_pos (show (p,q)∈(p,q)::L by simp)];have:((q,p)∈(p,q)::L)↔(q,p)∈L:=by simp[A1g,Ne.symm h]
   simp only[this];grind
  by_cases m:(p,q)=(b,a)
  ·cases m;rw[if_pos (L5.2 ⟨h0,.inr ⟨rfl,rfl⟩⟩),if_neg hn.1,if_pos (show (p,q)∈(p,q)::L by simp)];have:((q,p)∈(p,q)::L)↔(q,p)∈L:=by simp[A1g,h]
   simp only[this];grind
  rw[if_neg (fun e=>by rcases (L5.1 e).2 with ⟨rfl,rfl⟩|⟨rfl,rfl⟩;exact j rfl;exact m rfl)];have t:((a,b)∈(p,q)::L)↔(a,b)∈L:=by simp[A1g,Ne.symm j]
  have u:((b,a)∈(p,q)::L)↔(b,a)∈L:=by simp[A1g,Ne.symm m]
  simp only[t,u];grind
theorem Amk (F G:CF)(C:L.Nodup)(u:∀ p q,F.s p≠0->G.s q≠0->(p,q)∈L)(k:Par×Par):Er F G L k=I2 F G k:=by
 rw[Ub F G L k C];have key:∀ p q:Par,(if (p,q)∈L then con F G (p,q) else 0)=con F G (p,q):=fun p q=>by
  by_cases h:(p,q)∈L
  ·rw[if_pos h]
  rw[if_neg h];have:F.s p=0\/G.s q=0:=by
   by_cases j:F.s p=0
   ·exact .inl j
   by_cases m:G.s q=0
   ·exact .inr m
   exact absurd (u p q j m) h
  unfold con;simp only;rcases this with j|j<;>rw[j]<;>split<;>grind
 obtain⟨a,b⟩:=k;unfold two I2;simp only[key];split
 ·rfl
 split
 ·rename_i e;subst e;unfold con;simp only[if_true];grind
 rename_i e;unfold con;simp only[if_neg e,if_neg (fun t:b=a=>e t.symm)]
def Apx (h:CFD d N F)(j:CFD e M G)(x:Par×Par):Dn (d+e) (2*(N*M)) (con F G x):=by
 unfold con;split
 ·exact (((h.s x.1).mul (j.s x.2)).add ((h.s x.1).mul (j.s x.2))).mono oV
 exact ((h.s x.1).mul (j.s x.2)).mono oV
def Ard (h:CFD d N F)(m:CFD e M G)(t:L.Nodup)(k:Par×Par):Dn (d+e) (4*(N*M)) (Er F G L k):=by
 rw[Ub F G L k t];have j:∀ x,Dn (d+e) (2*(N*M)) (if x∈L then con F G x else 0):=fun x=>by
  split
  ·exact Apx h m x
  exact Dn.zero _ _
 unfold two;split
 ·exact Dn.zero _ _
 split
 ·exact (j k).mono oV
 exact ((j k).add (j _)).mono oV
def Fo {κ:Type}[DecidableEq κ](a:κ):List (κ×Rat)->Rat
 |[]=>0
 |(b,q)::l=>if a=b then q else Fo a l
section
variable {κ:Type} [DecidableEq κ]
def Kh {a:κ}{q:Rat}:∀ {l:List (κ×Rat)},(l.map (·.1)).Nodup->(a,q)∈l->Fo a l=q
 |(b,r)::l,hn,h=>by
  simp only[A2u,A4j]at hn;unfold Fo;rcases A1g.1 h with e|e
  ·cases e;rw[if_pos rfl]
  have:a≠b:=fun j=>hn.1 (by rw[<-j];exact A1b.2 ⟨_,e,rfl⟩);rw[if_neg this];exact Kh hn.2 e
def Na {a:κ}:∀ {l:List (κ×Rat)},a∉l.map (·.1)->Fo a l=0
 |[],_=>rfl
 |(b,r)::l,h=>by
  simp only[A2u,A1g,not_or]at h;unfold Fo;rw[if_neg h.1];exact Na h.2
end
end
section
variable {k:IntKind}{o:Nat}{t ti ts:TypeId}{xs:Array Value}
def Ap (p:Par):Value:=.agg #[zI p.1,zS p.2]
def prV (q:Par×Par):Value:=.agg #[zI q.1.1,zS q.1.2,zI q.2.1,zS q.2.2]
def Abc (f:Field):Bool×TypeId×Nat:=(f.name != "_",f.type,f.offset)
section
variable {P:Program}
def Jh {v:Value}(h:Qj P t=some false)(e:xs[o]?=some v)(w:World):(part t xs o).run P w=.ok v w:=by
 simp[part,Eo h,e]
def Jq {n:Nat}(h:Qj P t=some true)(e:szB P t=some n)(w:World):(part t xs o).run P w=.ok (.agg (xs.extract o (o+n))) w:=by
 simp[part,Eo h,Bf e]
def Qk (h:P.underlying t=some (.int k)):Qj P t=some false:=by unfold Qj;rw[h]
def Qc (h:P.underlying t=some .string):Qj P t=some false:=by unfold Qj;rw[h]
def Auf (a b:zB):((mkS a).toList==(mkS b).toList)=decide (a=b):=Mf a b
def Akl {A B:Type}{h:A->B}{e:List A}{x y:B}(j:e.map h = [x,y]):∃ f g,e = [f,g]:=by
 have h0:=congrArg List.length j;simp only[A03,A3f,A30]at h0
 match e,h0 with
 |[f,g],_=>exact⟨f,g,rfl⟩
def Qn (h:(P.fieldsOf t).toList.map Abc = [(true,ti,0),(true,ts,1)])(I:P.underlying t=some (.struct (P.fieldsOf t)))(hp:P.stoodInHeld t=false)(hi:P.underlying ti=some (.int k))(u:P.underlying ts=some .string)(d:Nat)(a b:Par)(w:World) :
 (Op.equalIn (d+2) t (Ap a) (Ap b)).run P w=.ok (decide (a=b)) w:=by
 unfold Ap;rw[run_equalIn_struct w (d+1) t _ _ I hp];generalize (P.fieldsOf t).toList=fs at h;obtain⟨f,g,m⟩:=Akl h;subst m;simp only[A2u,A7m,A3g,Abc,A2i,bne_iff_ne,ne_eq,and_true]at h;obtain⟨⟨n1,rfl,F⟩,n2,rfl,H⟩:=h;obtain⟨a1,a2⟩:=a;obtain⟨j,C⟩:=b;simp only[Op.eqFields,ne_eq,n1,n2,not_false_eq_true,if_true,Sem.run_bind];rw[Jh (Qk hi) (v:=zI a1) (by rw[F];rfl),Result.andThen_ok,Jh (Qk hi) (v:=zI j) (by rw[F];rfl),Result.andThen_ok,run_equalIn_int w d _ _ _ _ _ hi,Result.andThen_ok];by_cases e:a1=j
 ·subst e;simp only[beq_self_eq_true,A72,A4z,if_false,Sem.run_bind];rw[Jh (Qc u) (v:=zS a2) (by rw[H];rfl),Result.andThen_ok,Jh (Qc u) (v:=zS C) (by rw[H];rfl),Result.andThen_ok,run_equalIn_string w d _ _ _ u,Result.andThen_ok,Auf];by_cases E:a2=C
  ·subst E;simp
  simp[E]
 have:(a1==j)=false:=by simpa using e
 simp[this,e]
def Sl (h:(∃ k,P.underlying t=some (.int k))\/P.underlying t=some .string)(e:Bool)(d:Nat)(v:Value)(w:World):(Instr.checkKey e (d+1) t v).run P w=.ok () w:=by
 unfold Instr.checkKey;rcases h with ⟨k,h⟩|h<;>simp[run_underlying h]
def Ns (h:(P.fieldsOf t).toList.map Abc = [(true,ti,0),(true,ts,1)])(E:P.underlying t=some (.struct (P.fieldsOf t)))(hi:P.underlying ti=some (.int k))(m:P.underlying ts=some .string)(e:Bool)(d:Nat)(a:Par)(w:World) :
 (Instr.checkKey e (d+2) t (Ap a)).run P w=.ok () w:=by
 unfold Ap;rw[Instr.checkKey];simp only[Sem.run_bind,run_underlying E,Result.andThen_ok];rw[<-Array.forIn_toList];generalize (P.fieldsOf t).toList=fs at h;obtain⟨f,g,j⟩:=Akl h;subst j;simp only[A2u,A7m,A3g,Abc,A2i,bne_iff_ne,ne_eq,and_true]at h;obtain⟨⟨n1,u,F⟩,n2,C,H⟩:=h;simp only[List.forIn_cons,List.forIn_nil,ne_eq,n1,n2,not_false_eq_true,if_true,Sem.run_bind,u,C,F,H];rw[Jh (Qk hi) (v:=zI a.1) rfl,Result.andThen_ok,Sl (.inl ⟨k,hi⟩)];simp only[Result.andThen_ok,Sem.run_pure,Sem.run_bind];rw[Jh (Qc m) (v:=zS a.2) rfl,Result.andThen_ok,Sl (.inr m)];simp
def As0 (a b:Par)(h:Ap a=Ap b):a=b:=by
 unfold Ap at h;simp only[Value.agg.injEq,A5j,A3g,Value.int.injEq,Value.string.injEq,true_and,and_true]at h;exact A6z h.1 (Ads.1 h.2)
def Auq (a b:Par×Par)(h:prV a=prV b):a=b:=by
 unfold prV at h;simp only[Value.agg.injEq,A5j,A3g,Value.int.injEq,Value.string.injEq,true_and,and_true]at h;exact A6z (A6z h.1 (Ads.1 h.2.1)) (A6z h.2.2.1 (Ads.1 h.2.2.2))
def Af9 (d:Nat)(k:IntKind)(z:Int):Instr.sameBits d (.int k z) (.int k z)=true:=by unfold Instr.sameBits;simp
def Agj (d:Nat)(z:ByteArray):Instr.sameBits d (.string z) (.string z)=true:=by
 obtain⟨⟨l⟩⟩:=z;have:((⟨⟨l⟩⟩:ByteArray) == ⟨⟨l⟩⟩)=true:=by rw[beq_toListBytes];simp
 unfold Instr.sameBits;exact this
def Asi (a:Par):Instr.sameBits 10000 (Ap a) (Ap a)=true:=by
 show Instr.sameBits (9999+1) _ _=true;unfold Ap Instr.sameBits;simp[Af9,Agj]
def Ava (a:Par×Par):Instr.sameBits 10000 (prV a) (prV a)=true:=by
 show Instr.sameBits (9999+1) _ _=true;unfold prV Instr.sameBits;simp[Af9,Agj]
end
theorem Bq:Zk prog 118 Ap :=
 ⟨fun a b w=>Qn (P:=prog) (t:=118) (ti:=3) (ts:=9) (k:=.i64) kV kV kV kV kV 9998 a b w,
  ⟨_,(by kernel_rfl:prog.underlying 118=some (.struct (prog.fieldsOf 118))),.inl fun _ _=>rfl⟩,
  fun e a w=>Ns (P:=prog) (t:=118) (ti:=3) (ts:=9) (k:=.i64) kV kV kV kV e 9998 a w,Asi,As0⟩
end
section
def Aur {x y:zB}(h:Op.bytesLess x y=true):Op.bytesLess y x=false:=by
 cases h':Op.bytesLess y x with
 |false=>rfl
 |true=>have:=Se h h';rw[Ud]at this;cases this
def Azv (x y:zB):(!(Op.bytesLess x y||decide (x=y)))=Op.bytesLess y x:=by
 cases h1:Op.bytesLess x y with
 |true=>rw[Aur h1];rfl
 |false =>
  by_cases e:x=y
  ·subst e;rw[h1];simp
  cases h2:Op.bytesLess y x with
  |true=>simp[e]
  |false=>exact absurd (Ab1 h1 h2) e
section rules
variable [Cl] {P:Program} [A6 P] {fn:Func} {Post:Ce} {st:List KI×S} {u m:PH}
def G.ltS (a b:zB)(r:Bool)(h:Aj P (adv P st)=.bin .lss (zS a) (zS b))(e:Op.bytesLess a b=r)(k:G P fn Post (nx (adv P st) (.bool r)) u m):G P fn Post st u m :=
 G.bin (.bool r) h (fun t X Y w=>H8 t X Y w) (fun t w=>by simp only[binOp,Op.stringOp,Ng];rw[e];rfl) k
def G.gtS (a b:zB)(r:Bool)(h:Aj P (adv P st)=.bin .gtr (zS a) (zS b))(j:Op.bytesLess b a=r)(k:G P fn Post (nx (adv P st) (.bool r)) u m):G P fn Post st u m :=
 G.bin (.bool r) h (fun t X Y w=>H8 t X Y w) (fun t w=>by
  rw[<-j,<-Azv];simp only[binOp,Op.stringOp,Ng];rw[show (a==b)=decide (a=b) from by by_cases e:a=b<;>simp[e]]
  rfl) k
end rules
section
variable [Cl] {u:PH}
def Akp (x:Int):zF 273 [zI x] u fun v _=>v=zL:=Fn0.o func273<|G.nF x x<|G.z zL
def Alf (x:zB):zF 274 [zS x] u fun v _=>v=zL:=Fn0.o func274<|G.y x x rfl<|G.z zL
def Azt (x y:Int):zF 244 [zI x,zI y] u fun v _=>v=zI (Q1 x y):=by
 refine Fn0.o func244<|G.c call273 (Akp x) ?_;rintro E t j rfl;refine G.c call273 (Akp y) ?_;rintro F C l2 rfl;unfold Q1;by_cases h:x<y
 ·exact G.lT' x y h<|G.r (zI (-1)) ⟨rfl,by rw[if_pos h]⟩
 refine G.lF' x y h ?_;by_cases e:x>y
 ·exact G.gT' x y e<|G.r (zI 1) ⟨rfl,by rw[if_neg h,if_pos e]⟩
 exact G.gF' x y e<|G.r zO ⟨rfl,by rw[if_neg h,if_neg e]⟩
def Aze (x y:zB):zF 245 [zS x,zS y] u fun v _=>v=zI (Vj x y):=by
 refine Fn0.o func245<|G.c call274 (Alf x) ?_;rintro E t j rfl;refine G.c call274 (Alf y) ?_;rintro F C l2 rfl;unfold Vj;cases h:Op.bytesLess x y with
 |true =>
  exact G.ltS x y true kV h<|G.r (zI (-1)) ⟨rfl,by rw[if_pos rfl]⟩
 |false =>
  refine G.ltS x y false kV h ?_;cases h':Op.bytesLess y x with
  |true =>
   exact G.gtS x y true kV h'<|G.r (zI 1) ⟨rfl,by rw[if_neg mV,if_neg (fun e=>by subst e;rw[Ud]at h';cases h')]⟩
  |false =>
   exact G.gtS x y false kV h'<|G.r zO ⟨rfl,by rw[if_neg mV,if_pos (Ab1 h h')]⟩
def Ayo (x y:Int){b:Nat}(h:Hc u b 0 1 [zI x,zI y]):zF 243 [zG b 2 2] u fun v _=>v=zI (if x≠0 then x else y):=by
 refine Fn0.o func243<|G.l (ι:=Nat) (fun i=>[(3,iV 0),(6,sV (zA b) 2 2),(7,iV (2:Nat)),(8,iV i)]) (fun _=>[])
  (fun i F E=>i<=2/\E=PH.mt/\(1<=i->x=0)/\(2<=i->y=0)) (fun i=>2-i) 0 ⟨oV,rfl,oV,oV⟩ ?_
 rintro J i I F E j ⟨hi,rfl,C,K⟩;by_cases t:i=2
 ·subst t;exact G.lF (2:Nat) (2:Nat)<|G.r zO ⟨rfl,by rw[if_neg (by simp[C oV]),K oV]⟩
 refine G.lT i (2:Nat)<|G.a b 0 2 2 i 1 oV ?_;obtain⟨z,e,H,t⟩:∃ z:Int,ElP F b (0+i*1) (zI z)/\(z≠0->(if x≠0 then x else y)=z)/\(z=0->(1<=i+1->x=0)/\(2<=i+1->y=0)):=by
  rcases (by omega:i=0\/i=1) with rfl|rfl
  ·exact⟨x,(h 0 _ rfl).mono j,fun e=>if_pos e,fun e=>⟨fun _=>e,oV⟩⟩
  exact⟨y,(h 1 _ rfl).mono j,fun e=>if_neg (by simp[C oV]),fun e=>⟨fun _=>C oV,fun _=>e⟩⟩
 refine G.g none e ?_;by_cases h0:z=0
 ·exact G.nF z 0<|G.i i<|G.b (I (i+1) _ _ _ cV j ⟨oV,rfl,(t h0).1,(t h0).2⟩ oV)
 exact G.nT' z 0 h0<|G.r (zI z) ⟨rfl,by rw[H h0]⟩
def Afb (p q:Par):zF 200 [Ap p,Ap q] u fun v _=>v=zI (Bk p q):=by
 refine Fn0.o func200<|G.c call244 (Azt p.1 q.1) ?_;rintro I C h rfl;refine G.c call245 (Aze p.2 q.2) ?_;rintro J E l2 rfl;refine G.B 3 1 8 zO [zI (Q1 p.1 q.1),zI (Vj p.2 q.2)] (N7 [_,_]) ?_;intro g F j e;refine G.c call243 (Ayo _ _ e) ?_;rintro K H t rfl;exact G.z _
end
end
section
variable {q:Rat}
abbrev SB (q:Rat):Prop:=Og q=true
def SB.sz (h:SB q):Sz q 12:=(Uo h).2
def SB.tx (h:SB q):Tx q:=(Uo h).1
def SB.zero:SB 0:=fV
abbrev fz:Value:=.agg #[zL,zN,zL,zN]
def A0g :sgn q.num=0↔q=0:=by
 constructor
 ·intro h;have:q.num=0:=by
   rcases A4q q.num 0 with e|e|e
   ·rw[Ep e]at h;cases h
   ·exact e
   rw[C5 e]at h;cases h
  exact A4r.1 this
 rintro rfl;rfl
end
section
section
variable {κ:Type} [DecidableEq κ]
def Ek (f g:κ->Rat)(q:Rat)(L:List κ):κ->Rat:=fun k=>if k∈L then g k*q+f k else f k
def Jo (f g:κ->Rat)(q:Rat){L:List κ}{k:κ}(h:k∉L):Nh (Ek f g q L) k (g k*q+Ek f g q L k)=Ek f g q (L++[k]):=by
 funext j
 unfold Nh Ek;by_cases e:j=k
 ·subst e;rw[if_pos rfl,if_neg h,if_pos mV]
 rw[if_neg e];by_cases m:j∈L
 ·rw[if_pos m,if_pos (by simp[m])]
 rw[if_neg m,if_neg (by simp[m,e])]
theorem Me (f g:κ->Rat)(q:Rat){L:List κ}(h:∀ k,k∉L->g k=0):Ek f g q L=fun k=>f k+g k*q:=by
 funext k
 unfold Ek;by_cases e:k∈L
 ·rw[if_pos e];grind
 rw[if_neg e,h k e];grind
def O3 {f g:κ->Rat}{q:Rat}{L:List κ}(e:∀ k,SB (f k))(h:∀ k,SB (f k+g k*q))(k:κ):SB (Ek f g q L k):=by
 unfold Ek;split
 ·rw[A46];exact h k
 exact e k
end
end
section
def Alv (t:TypeId):Op->Bool
 |.binOp _ t' ..=>Nat.beq t' t
 |_=>false
section rules
variable [Cl] {P:Program} [A6 P] {fn:Func} {Post:Ce} {st:List KI×S} {u m:PH}
def Uu {h:BinOp}{t:TypeId}{xs ys:Array Value}(X Y:Operand)(e:P.eqGuardType P.depth t=false)(w:World):(eqGuard h t X Y (.agg xs) (.agg ys)).run P w=.ok () w:=by
 unfold eqGuard;split<;>simp[e]
def G.eqAgg (t:TypeId)(xs ys:Array Value)(r:Bool)(h:Aj P (adv P st)=.binT .eql (P.underlying t) (.agg xs) (.agg ys))(R:Yr (Alv t) (adv P st)=true)(Q:P.eqGuardType P.depth t=false)(L:∀ w,(Op.equal t (.agg xs) (.agg ys)).run P w=.ok r w)
 (k:G P fn Post (nx (adv P st) (.bool r)) u m):G P fn Post st u m:=by
 refine G.askQ (Alv t) h R mV (fun J o j K w _=>?_) k;obtain⟨U,X,Y,W,e,H,I,V⟩:=Mb j;obtain⟨F,T,E,pos,after,C⟩:=o;simp only at e;subst e;obtain rfl:U=t:=A1y K;simp[execOp,H,I,Uu X Y Q,binOp,L]
def G.neAgg (t:TypeId)(xs ys:Array Value)(r:Bool)(h:Aj P (adv P st)=.binT .neq (P.underlying t) (.agg xs) (.agg ys))(R:Yr (Alv t) (adv P st)=true)(Q:P.eqGuardType P.depth t=false)(L:∀ w,(Op.equal t (.agg xs) (.agg ys)).run P w=.ok r w)
 (k:G P fn Post (nx (adv P st) (.bool (!r))) u m):G P fn Post st u m:=by
 refine G.askQ (Alv t) h R mV (fun J o j K w _=>?_) k;obtain⟨U,X,Y,W,e,H,I,V⟩:=Mb j;obtain⟨F,T,E,pos,after,C⟩:=o;simp only at e;subst e;obtain rfl:U=t:=A1y K;simp[execOp,H,I,Uu X Y Q,binOp,L]
end rules
end
structure Aw3 (F H:CF):Prop where
 a:CFS F
 b:CFS H
 c:CFS (H.scale F.c)
 d:CFS (F.scale H.c)
 e:CFS ((H.scale F.c).add (F.scale H.c))
 f:SB (F.c*H.c)
 pr:∀ p q,SB (F.s p*H.s q)
 con:∀ x,SB (con F H x)
 acc:∀ Ps:List (Par×Par),Ps.Nodup->∀ k,SB (((H.scale F.c).add (F.scale H.c)).t k+Er F H Ps k)
def Azw {d e N M:Nat}{F H:CF}(h:CFD d N F)(j:CFD e M H)(m:d+e<=50)(L:8*(N*M)<10^100)(u:0<N)(C:0<M):Aw3 F H:=by
 have J:N<=N*M:=Nat.le_mul_of_pos_right _ C;have K:M<=N*M:=Nat.le_mul_of_pos_left _ u;have c1:CFD (d+e) (N*M) (H.scale F.c):=by have:=j.scale h.c;rw[A89,A19]at this;exact this
 have c2:CFD (d+e) (N*M) (F.scale H.c):=h.scale j.c;exact⟨h.cfs oV oV,j.cfs oV oV,c1.cfs m oV,c2.cfs m oV,(c1.add c2).cfs m oV,(h.c.mul j.c).small m oV,
  fun p q=>((h.s p).mul (j.s q)).small m oV,fun x=>(Apx h j x).small m oV,fun I E k=>(((c1.add c2).t k).add (Ard h j E k)).small m oV⟩
def Bt (p:Par×Rat):Value:=.agg #[zI p.1.1,zS p.1.2,zS (Ae p.2)]
def D8 (x:(Par×Par)×Rat):Value:=.agg #[zI x.1.1.1,zS x.1.1.2,zI x.1.2.1,zS x.1.2.2,zS (Ae x.2)]
def No (u:PH)(v:Value)(F:CF)(K:Nat):Prop :=
 ∃ (T:List (Par×Rat)) (Q:List ((Par×Par)×Rat)) (a1:zP) (c1:Nat) (a2:zP) (c2:Nat),v=.agg #[zS (Ae F.c),.slice a1 T.length c1,.slice a2 Q.length c2] /\
  Ac u (.slice a1 T.length c1) 3 (T.map Bt)/\Ac u (.slice a2 Q.length c2) 5 (Q.map D8)/\Can Bk F.s T/\Can Oc F.t Q/\T.length<=K/\Q.length<=K
def No.mono {u m:PH}{v:Value}{F:CF}{K:Nat}(h:No u v F K)(j:PH.le u m):No m v F K:=by
 obtain⟨T,Q,a1,c1,a2,c2,e,t,C,E⟩:=h;exact⟨T,Q,a1,c1,a2,c2,e,t.mono j,C.mono j,E⟩
section
open Go.RowKit Go.MapKept Go.Shelf
end
section
open Go.RowKit Go.MapKept Go.Shelf
end
section
open Go.RowKit Go.MapKept Go.Shelf
end
section
open Go.RowKit Go.MapKept Go.Shelf
abbrev Ci (p:Par):zV:=[zI p.1,zS p.2]
end
section
open Go.RowKit Go.MapKept Go.Shelf
end
end Go.Proofs.YtemmheaocgmebaaGreatDoor
section
namespace Go.Proofs
open Go.Shelf
def Tryz.sortPar_ren:Go.Shelf.Ren:=⟨fun|6=>267|15=>303|14=>302|28=>331|29=>316|20=>323|21=>324|22=>325|23=>326|24=>327|25=>328|26=>329|27=>330|46=>340|47=>341|48=>342|49=>343|50=>344|57=>346|n=>n,fun|22=>43|24=>118|25=>252|3=>3|39=>288|0=>0|53=>314|55=>246|4=>4|46=>350|45=>349|50=>237|5=>5|9=>9|66=>362|70=>365|76=>372|77=>373|n=>n,fun|n=>n⟩
theorem Tryz.sortPar:Go.Proofs.SlLaysF0.n6 Tryz.prog Tryz.sortPar_ren:={
 mixed:=by kernel_rfl
 f6:=⟨Tryz.f267.name,by decide,Tryz.func267.trans (congrArg some (by kernel_rfl))⟩
 f14:=⟨Tryz.f302.name,by decide,Tryz.func302.trans (congrArg some (by kernel_rfl))⟩
 f15:=Tryz.func303.trans (congrArg some (by kernel_rfl))
 f20:=⟨Tryz.f323.name,by decide,Tryz.func323.trans (congrArg some (by kernel_rfl))⟩
 f21:=⟨Tryz.f324.name,by decide,Tryz.func324.trans (congrArg some (by kernel_rfl))⟩
 f22:=⟨Tryz.f325.name,by decide,Tryz.func325.trans (congrArg some (by kernel_rfl))⟩
 f23:=⟨Tryz.f326.name,by decide,Tryz.func326.trans (congrArg some (by kernel_rfl))⟩
 f24:=⟨Tryz.f327.name,by decide,Tryz.func327.trans (congrArg some (by kernel_rfl))⟩
 f25:=⟨Tryz.f328.name,by decide,Tryz.func328.trans (congrArg some (by kernel_rfl))⟩
 f26:=⟨Tryz.f329.name,by decide,Tryz.func329.trans (congrArg some (by kernel_rfl))⟩
 f27:=⟨Tryz.f330.name,by decide,Tryz.func330.trans (congrArg some (by kernel_rfl))⟩
 f28:=Tryz.func331.trans (congrArg some (by kernel_rfl))
 f29:=Tryz.func316.trans (congrArg some (by kernel_rfl))
 f46:=⟨Tryz.f340.name,by decide,Tryz.func340.trans (congrArg some (by kernel_rfl))⟩
 f47:=Tryz.func341.trans (congrArg some (by kernel_rfl))
 f48:=Tryz.func342.trans (congrArg some (by kernel_rfl))
 f49:=⟨Tryz.f343.name,by decide,Tryz.func343.trans (congrArg some (by kernel_rfl))⟩
 f50:=⟨Tryz.f344.name,by decide,Tryz.func344.trans (congrArg some (by kernel_rfl))⟩
 f57:=⟨Tryz.f346.name,by decide,Tryz.func346.trans (congrArg some (by kernel_rfl))⟩
 t0:=Tryz.underlying0
 a0:=Tryz.isAgg0
 z0:=Tryz.sizeOf0
 v0:=Tryz.zeroValue0
 t3:=Tryz.underlying3
 a3:=Tryz.isAgg3
 z3:=Tryz.sizeOf3
 v3:=Tryz.zeroValue3
 t4:=Tryz.underlying4
 a4:=Tryz.isAgg4
 z4:=Tryz.sizeOf4
 v4:=Tryz.zeroValue4
 t5:=Tryz.underlying5
 a5:=Tryz.isAgg5
 z5:=Tryz.sizeOf5
 v5:=Tryz.zeroValue5
 t9:=Tryz.underlying9
 a9:=Tryz.isAgg9
 z9:=Tryz.sizeOf9
 v9:=Tryz.zeroValue9
 t22:=Tryz.underlying43
 a22:=Tryz.isAgg43
 z22:=Tryz.sizeOf43
 v22:=Tryz.zeroValue43
 t25:=Tryz.underlying252
 a25:=Tryz.isAgg252
 z25:=Tryz.sizeOf252
 v25:=Tryz.zeroValue252
 t39:=Tryz.underlying288
 a39:=Tryz.isAgg288
 z39:=Tryz.sizeOf288
 v39:=Tryz.zeroValue288
 t45:=Tryz.underlying349
 a45:=Tryz.isAgg349
 z45:=Tryz.sizeOf349
 v45:=Tryz.zeroValue349
 t46:=Tryz.underlying350
 a46:=Tryz.isAgg350
 z46:=Tryz.sizeOf350
 v46:=Tryz.zeroValue350
 t50:=Tryz.underlying237
 a50:=Tryz.isAgg237
 z50:=Tryz.sizeOf237
 v50:=Tryz.zeroValue237
 t53:=Tryz.underlying314
 a53:=Tryz.isAgg314
 z53:=Tryz.sizeOf314
 v53:=Tryz.zeroValue314
 t55:=Tryz.underlying246
 a55:=Tryz.isAgg246
 z55:=Tryz.sizeOf246
 v55:=Tryz.zeroValue246
 t66:=Tryz.underlying362
 a66:=Tryz.isAgg362
 z66:=Tryz.sizeOf362
 v66:=Tryz.zeroValue362
 t70:=Tryz.underlying365
 a70:=Tryz.isAgg365
 z70:=Tryz.sizeOf365
 v70:=Tryz.zeroValue365
 t76:=Tryz.underlying372
 a76:=Tryz.isAgg372
 z76:=Tryz.sizeOf372
 v76:=Tryz.zeroValue372
 t77:=Tryz.underlying373
 a77:=Tryz.isAgg373
 z77:=Tryz.sizeOf373
 v77:=Tryz.zeroValue373 }
end Go.Proofs
end
namespace Go.Proofs.YtemmheaocgmebaaGreatDoor
open Go.Proofs.Tryz
open Go.RowKit Go.MapKept
section
open Go.RowKit Go.Sort
def Azd (w:World):PH:=fun g=>w.heap[g]?
def A0a (w:World):Bv (Azd w) PH.mt w:=⟨fun _ _ h=>h,Fj.mt w,fun _=>.inr rfl,fun _ _ _ _ _ _ h _=>h⟩
@[reducible] def Cl.yes:Cl:=⟨True⟩
def Agm [Fl:Cl](hF:Fl.on){w w':World}{T:PH}(h:B0 (Azd w) PH.mt w T PH.mt w'):∃ n E,w'=grow (w.drewN n) E:=by
 have C:=h.dr hF;refine⟨w'.drawn-w.drawn,w'.heap.extract w.heap.size w'.heap.size,?_⟩;obtain⟨hp,V,U,E,Q⟩:=w;obtain⟨e,R,H,P,F⟩:=w';have j:=C.tape;have I:=C.dr;have m:=h.io.1;have t:=h.io.2;have J:=h.sz;have u:=fun g K=>h.old g K rfl;simp only at j I m t J u;subst j m t;unfold grow World.drewN;simp only[World.mk.injEq,and_true,true_and];refine⟨?_,oV⟩;apply Baq;intro i;by_cases hi:i<hp.size
 ·rw[A5s hi];exact u i hi
 rw[Array.getElem?_append_right oV,Array.getElem?_extract];by_cases L:i<e.size
 ·rw[if_pos oV];congr 1;omega
 rw[if_neg oV,A43 oV]
def Fn0.exact [Fl:Cl](hF:Fl.on){P:Program}{f:FuncId}{args:zV}{r:Value}(h:∀ u,Fn0 P f args u (fun v _=>v=r))(w:World):Calls P f args.toArray w fun e w'=>e=.returned r/\∃ n F,w'=grow (w.drewN n) F:=by
 refine Calls.mono (h (Azd w) w (A0a w)) fun e w' E=>?_;obtain⟨v,I,H,j,_,m,t,C⟩:=E;subst t C;exact⟨j,Agm hF m⟩
def Ai5 (e off size:Nat)(w:World):Go.Proofs.CmpLays prog 200 #[] (fun p:Par=>[zI p.1,zS p.2]) 2 Bk e off size w :=
 fun m j h _ x y=>@Fn0.exact Cl.yes trivial _ _ _ _ (fun u=>@Afb Cl.yes u x y) _
end
section
open Go.RowKit Go.Sort
section
variable {κ:Type} {c:κ->κ->Int}
def Ord.swo (h:Ord c):SWO (ltOf c) where
 irrefl x:=by simp[ltOf,h.irr x]
 trans x y z h1 h2:=by
  simp only[ltOf,decide_eq_true_eq]at *
  exact h.trans x y z h1 h2
 ntrans x y z h1 h2:=by
  simp only[ltOf,decide_eq_false_iff_not]at *
  intro j;rcases A4q (c x y) 0 with e|e|e
  ·exact h1 e
  ·rw[h.eq x y e]at j;exact h2 j
  exact h2 (h.trans y x z ((h.sym y x).2 e) j)
def Ord.tot (h:Ord c)(x y:κ)(j:ltOf c x y=false)(m:ltOf c y x=false):x=y:=by
 simp only[ltOf,decide_eq_false_iff_not]at *
 rcases A4q (c x y) 0 with e|e|e
 ·exact absurd e j
 ·exact h.eq x y e
 exact absurd ((h.sym y x).2 e) m
def E6 (c:κ->κ->Int)(l:List κ):List κ:=l.mergeSort fun x y=>!(ltOf c) y x
def Ir (l:List κ):(E6 c l).Perm l:=List.mergeSort_perm _ _
def Va (h:Ord c){l:List κ}(t:l.Nodup):Hb c (E6 c l):=by
 have j:(E6 c l).Pairwise fun a b=>(!(ltOf c) b a)=true:=by
  refine List.pairwise_mergeSort (fun a b d j m=>?_) (fun a b=>?_) l
  ·simp only[A3w]at j m⊢;exact h.swo.ntrans d b a m j
  simp only[A4b,A3w];cases e:ltOf c b a with
  |false=>exact .inl rfl
  |true =>
   right;simp only[ltOf,decide_eq_true_eq,decide_eq_false_iff_not]at *
   have:=(h.sym b a).1 e;omega
 have m:(E6 c l).Nodup:=(Ir l).nodup_iff.2 t;refine (j.and m).imp fun {a b} ⟨e1,e2⟩=>?_;simp only[A3w,ltOf,decide_eq_false_iff_not]at e1;rcases A4q (c a b) 0 with e|e|e
 ·exact e
 ·exact absurd (h.eq a b e) e2
 exact absurd ((h.sym b a).2 e) e1
end
section
variable {κ:Type} [Inhabited κ] {enc:κ->zV} {k:Nat}
def Qb (e:∀ x,(enc x).length=k):∀ (ss:List κ) (t:Nat),t<ss.length*k->(ss.flatMap enc)[t]?=some ((enc ss.toArray[t/k]!)[t%k]!)
 |[],t,h=>by simp at h
 |x::ss,t,h=>by
  have m:0<k:=by
   rcases A2a k with h0|h0
   ·rw[h0]at h;simp at h
   exact h0
  rw[A6o];by_cases j:t<k
  ·rw[A1r (by rw[e];exact j),A49 j,A5i j];have:t<(enc x).length:=by rw[e];exact j
   simp[getElem!_pos,this]
  rw[A18 (by rw[e];omega),e,Qb e ss (t-k) (by simp only[A3f,A16]at h;omega)];have u:t/k=(t-k)/k+1:=by rw[Nat.div_eq_sub_div m oV]
  have C:t%k=(t-k)%k:=Nat.mod_eq_sub_mod oV;rw[u,C];simp
def Ani (H:∀ x,(enc x).length=k){W:World}{E:Nat}{e:TypeId}{h:Array Value}{ss:List κ}(m:W.heap[E]?=some (.cells h e (0,0)))(j:h.toList.take (ss.length*k)=ss.flatMap enc):HoldsK enc k W E 0 ss.toArray:=by
 intro t C;rw[size_flatK]at C;have u:t<ss.length*k:=by simpa using C
 have F:h[t]?=some ((flatK enc k ss.toArray)[t]!):=by
  rw[get_flatK enc k _ t C,<-Qb H ss t u,<-j,A3y,if_pos u,A6u]
 constructor
 ·simp[World.cell?,m,F]
 simp[World.frozen?,m]
end
end
section
open Go.RowKit Go.MapKept Go.Shelf Go.Sort
def Nf (x:Par):(Ci x).length=2:=rfl
def Ip (P:Program)(st:List KI×S):List KI×S:=match one P (Ff P 200 st).1 (Ff P 200 st).2 with|some st'=>st'|none=>st
section
variable {P:Program} [A6 P] {fn:Func} {Post:Ce} {st:List KI×S} {u m:PH}
def G.pastI (h:G P fn Post (Ip P st) u m):G P fn Post st u m:=by
 unfold Ip at h;split at h
 ·rename_i st' he;exact⟨Mq 200 st (Pa A6.mx he h.out)⟩
 exact h
def Fn0.weak {f:FuncId}{args:zV}{R t:Value->PH->Prop}(h:Fn0 P f args u R)(K:∀ v j,R v j->t v j):Fn0 P f args u t:=fun w J=>Calls.mono (h w J) fun e w' ⟨v,j,L,C,E,F,H,I⟩=>⟨v,j,L,C,E,F,H,K _ _ I⟩
end
end
section
open Go.RowKit Go.MapKept Go.Shelf Go.Sort
end
def Af.le {m0 m:PH}{v:Value}{t:TypeId}{sz:Nat}{es:zV}(h:Af m0 m v t sz es):PH.le m0 m:=by
 rcases h.2 with ⟨_,_,rfl⟩|⟨g,cap,rest,e,rfl,_⟩
 ·exact PH.le_refl _
 exact Jw _ e
def Afk (p:Par×Rat):A9 3 [Bt p]:=fun e h=>by
 simp at h;subst h;exact⟨rfl,fun y j=>by simp[Bt,Value.cells]at j;rcases j with rfl|rfl|rfl<;>rfl⟩
def Aj6 (p:(Par×Par)×Rat):A9 5 [D8 p]:=fun e h=>by
 simp at h;subst h;exact⟨rfl,fun y j=>by simp[D8,Value.cells]at j;rcases j with rfl|rfl|rfl|rfl|rfl<;>rfl⟩
section
variable {i:Nat}{q:Rat}{s:zB}{u:PH}{x:Par×Rat}
def Sf (h:q≠0):Ae q≠[48]:=by
 intro e;unfold Ae at e;split at e
 ·have:=Im (e.trans E5.symm);exact h (A4r.1 this)
 have:(47:UInt8)∈Lib.itoa q.num++47::Lib.itoa (q.den:Int):=mV;rw[e]at this;simp at this
def Re (p q:Par)(r:Bool)(h:decide (Bk p q<0)=r):zF 127 [Ap p,Ap q] u fun v _=>v=.bool r:=by
 refine Fn0.o func127<|G.c call200 (Afb p q) ?_;rintro m j e rfl;cases r with
 |true =>
  exact G.lT' (Bk p q) 0 (of_decide_eq_true h)<|G.z zT
 |false =>
  exact G.lF' (Bk p q) 0 (of_decide_eq_false h)<|G.z zL
def Aoz (h:Tx q)(h0:q≠0):zF 294 [zS (Ae q)] u fun v _=>v=zT:=by
 refine Fn0.o func294<|G.c call169 (Gu h) ?_;rintro m j e rfl;exact G.x (Ae q) [48] (Sf h0)<|G.z zT
theorem Aa2 (h:Hn s=true):1<=s.length/\s.length<=12:=by
 unfold Hn at h;split at h
 ·cases h
 grind
theorem Y3 (h:Hn s=true){c:UInt8}(hi:s[i]?=some c):(97<=c.toNat/\c.toNat<=122)\/(i≠0/\(c.toNat=45\/(48<=c.toNat/\c.toNat<=57))):=by
 unfold Hn at h;split at h
 ·cases h
 simp only[Aym]at h
 match i,hi with
 |0,hi=>grind
 |i+1,hi=>grind
theorem Asw (h:Hn s=true):zF 218 [zS s] u fun v _=>v=zT:=by
 obtain⟨I,K⟩:=Aa2 h;refine Fn0.o func218<|G.convSB (some .string) 5 s kV kV kV ?_;intro X V R E;obtain⟨a,c,rfl⟩:=Ac.opn E;rw[Au]at E⊢;refine G.l (ι:=Nat) (fun i=>[(0,tV s),(7,sV a s.length c),(8,iV s.length),(9,iV i)]) (fun _=>[])
  (fun i U Q=>i<=s.length/\Q=PH.mt) (fun i=>s.length-i) 0 ⟨oV,rfl⟩ ?_
 rintro J i C W T l2 ⟨hi,rfl⟩;by_cases m:i<s.length
 ·refine G.lT i s.length ?_;have t:s[i]?=some s[i]:=A01 m;obtain⟨b,off,rfl,e⟩:=Ac.at' (E.mono l2) (j:=i) (e:=.int .u8 (s[i].toNat:Int)) (by simp[Bm,t]);have P:=Y3 h t;generalize s[i].toNat=n at e P;refine G.N s.length c m e ?_;by_cases L:97<=n/\n<=122
  ·exact G.cmpG .geq .u8 (n:Int) 97 true kV rfl (by simp[Db];omega)<|G.cmpG .leq .u8 (n:Int) 122 true kV rfl (by simp[Db];omega)<|G.i i<|G.b (C (i+1) _ _ _ cV l2 ⟨oV,rfl⟩ oV)
  by_cases H:97<=n
  ·grind
  refine G.cmpG .geq .u8 (n:Int) 97 false kV rfl (by simp[Db];omega)<|G.eF i 0 ?_;by_cases F:n=45
  ·exact G.cmpG .neq .u8 (n:Int) 45 false kV rfl (by simp[Db];omega)<|G.i i<|G.b (C (i+1) _ _ _ cV l2 ⟨oV,rfl⟩ oV)
  exact G.cmpG .neq .u8 (n:Int) 45 true kV rfl (by simp[Db];omega)<|G.cmpG .lss .u8 (n:Int) 48 false kV rfl (by simp[Db];omega)<|G.cmpG .gtr .u8 (n:Int) 57 false kV rfl (by simp[Db];omega)<|G.i i<|G.b (C (i+1) _ _ _ cV l2 ⟨oV,rfl⟩ oV)
 obtain rfl:i=s.length:=oV;exact G.lF s.length s.length<|G.hT s.length 1<|G.kT s.length 12<|G.z zT
def Ahn {p:Par}(h:PV p):zF 293 [Ap p] u fun v _=>v=zT:=by
 refine Fn0.o func293<|G.hT' p.1 (-1) (by have:=h.lo;omega) ?_;by_cases e:p.2 = []
 ·exact G.q p.2 [] e<|G.z zT
 refine G.w p.2 [] e<|G.c call218 (Asw (h.cat.resolve_left e)) ?_;rintro t m j rfl;exact G.z zT
def A0m (h:PV x.1)(e:Tx x.2)(h0:x.2≠0):zF 292 [Bt x] u fun v _=>v=zL:=by
 refine Fn0.o func292<|G.c call293 (Ahn h) ?_;rintro C m j rfl;refine G.c call294 (Aoz e h0) ?_;rintro E t l2 rfl;exact G.z zL
def A0u {x:(Par×Par)×Rat}(h:PV x.1.1)(j:PV x.1.2)(m:¬ 0<Bk x.1.1 x.1.2)(t:Tx x.2)(h0:x.2≠0):zF 296 [D8 x] u fun v _=>v=zL:=by
 refine Fn0.o func296<|G.c call293 (Ahn h) ?_;rintro L H C rfl;refine G.c call293 (Ahn j) ?_;rintro P I l2 rfl;refine G.c call127 (Re x.1.2 x.1.1 false (decide_eq_false fun e=>m ((Et.sym _ _).1 e))) ?_;rintro Q J E rfl;refine G.c call294 (Aoz t h0) ?_;rintro R K F rfl;exact G.z zL
def Ayf {x y:Par×Rat}(h:Bk x.1 y.1<0):zF 298 [Bt x,Bt y] u fun v _=>v=zT:=by
 refine Fn0.o func298<|G.c call127 (Re x.1 y.1 true (decide_eq_true h)) ?_;rintro m j e rfl;exact G.z zT
def Ax6 {x y:(Par×Par)×Rat}(h:Oc x.1 y.1<0):zF 300 [D8 x,D8 y] u fun v _=>v=zT:=by
 refine Fn0.o func300 ?_;by_cases j:Bk x.1.1 y.1.1<0
 ·refine G.c call127 (Re x.1.1 y.1.1 true (decide_eq_true j)) ?_;rintro F E C rfl;exact G.z zT
 have m:Bk x.1.1 y.1.1=0/\Bk x.1.2 y.1.2<0:=by
  unfold Oc at h;split at h
  ·exact absurd h j
  rename_i e;exact⟨by simpa using e,h⟩
 have t:=Et.eq _ _ m.1;refine G.c call127 (Re x.1.1 y.1.1 false (decide_eq_false j)) ?_;rintro F E C rfl;refine G.eqAgg 118 #[zI x.1.1.1,zS x.1.1.2] #[zI y.1.1.1,zS y.1.1.2] true kV kV kV (fun w=>by rw[<-decide_eq_true t];exact Bq.eq x.1.1 y.1.1 w)<|G.c call127 (Re x.1.2 y.1.2 true (decide_eq_true m.2)) ?_;rintro I H l2 rfl;exact G.z zT
theorem Atj {u:PH}{v:Value}{T:List (Par×Rat)}{fid:Nat}(h:Ac u v 3 (T.map Bt))(hl:T.length<=1000000)
 (hcall:∀ args w,(callFunc fid args).run prog w=.ok (.enter fid args) w) (hf:∀ p∈T,∀ u',PH.le u u'->zF fid [Bt p] u' fun v _=>v=zL) :
 zF 301 [v,.func (.func fid) #[] #[]] u fun v' _=>v'=zI (-1):=by
 obtain⟨a,c,rfl⟩:=h.opn;rw[A03]at h⊢;refine Fn0.o func301 ?_;refine G.l (ι:=Nat) (fun i=>[(0,sV a T.length c),(1,.v (.func (.func fid) #[] #[])),(7,iV T.length),(8,iV i)]) (fun _=>[])
  (fun i u' m'=>i<=T.length/\m'=PH.mt) (fun i=>T.length-i) 0 ⟨oV,rfl⟩ ?_
 rintro J i hJ u1 m1 l1 ⟨hi,rfl⟩;by_cases hlt:i<T.length
 ·refine G.lT (i:Int) (T.length:Int) ?_;have hTi:T[i]?=some T[i]:=A01 hlt;obtain⟨ba,oa,rfl,ea⟩:=Ac.at' (h.mono l1) (j:=i) (e:=Bt T[i]) (by simp[hTi]);refine G.a ba oa T.length c i 3 oV ?_;refine G.g (some 3) ea ?_;refine G.call0 fid [Bt T[i]] kV hcall (hf T[i] (A09 hlt) u1 l1) ?_;rintro v2 u2 l2 rfl;refine G.i i ?_;exact G.b (hJ (i+1) _ _ _ cV (l1.trans l2) ⟨oV,rfl⟩ oV)
 ·obtain rfl:i=T.length:=oV
  refine G.lF (T.length:Int) (T.length:Int) ?_;exact G.z (zI (-1))
def Aic {u:PH}{v:Value}{T:List (Par×Rat)}{fid:Nat}(h:Ac u v 3 (T.map Bt))(t:T.length<=1000000)
 (e:∀ args w,(callFunc fid args).run prog w=.ok (.enter fid args) w) (m:∀ p∈T,∀ j,PH.le u j->zF fid [Bt p] j fun v _=>v=zL) :
 zF 263 [v,.func (.func fid) #[] #[]] u fun C _=>C=zL:=by
 refine Fn0.o func263<|G.c call301 (Atj h t e m) ?_;rintro H F E rfl;exact G.hF (-1) 0<|G.z zL
def Agx {u:PH}{v:Value}{T:List (Par×Rat)}{fid:Nat}(h:Ac u v 3 (T.map Bt))(X:T.length<=1000000)
 (m:∀ args w,(callFunc fid args).run prog w=.ok (.enter fid args) w) (Q:∀ (i:Nat) x y,T[i]?=some x->T[i+1]?=some y->∀ H,zF fid [Bt x,Bt y] H fun v _=>v=zT) :
 zF 297 [v,.func (.func fid) #[] #[]] u fun V _=>V=zT:=by
 obtain⟨a,c,rfl⟩:=h.opn;rw[A03]at h⊢;refine Fn0.o func297<|G.l (ι:=Nat) (fun i=>[(0,sV a T.length c),(1,.v (.func (.func fid) #[] #[])),(5,iV (i+1:Nat))]) (fun _=>[])
  (fun i H R=>i<=T.length/\R=PH.mt) (fun i=>T.length-i) 0 ⟨oV,rfl⟩ ?_
 rintro J i P U Y F ⟨hi,rfl⟩;by_cases E:i+1<T.length
 ·refine G.lT (i+1:Nat) T.length ?_;have t:T[i]?=some T[i]:=A01 oV;have C:T[i+1]?=some T[i+1]:=A01 E;obtain⟨W,Z,rfl,K⟩:=Ac.at' (h.mono F) (j:=i) (e:=Bt T[i]) (by simp[t]);obtain⟨_,_,I,L⟩:=Ac.at' (h.mono F) (j:=i+1) (e:=Bt T[i+1]) (by simp[C]);cases I;refine G.s (i+1:Nat) 1 i<|G.n T.length c K<|G.n T.length c L<|G.call0 fid [Bt T[i],Bt T[i+1]] kV m (Q i _ _ t C U) ?_;rintro v2 u2 l2 rfl;exact G.p (i+1:Nat) 1 (i+1+1:Nat)<|G.b (P (i+1) _ _ _ cV (F.trans l2) ⟨oV,rfl⟩ oV)
 exact G.lF (i+1:Nat) T.length<|G.z zT
def Atx {u:PH}{v:Value}{T:List ((Par×Par)×Rat)}{fid:Nat}(h:Ac u v 5 (T.map D8))(U:T.length<=1000000)
 (m:∀ args w,(callFunc fid args).run prog w=.ok (.enter fid args) w) (K:∀ p∈T,∀ F,PH.le u F->zF fid [D8 p] F fun v _=>v=zL) :
 zF 322 [v,.func (.func fid) #[] #[]] u fun Q _=>Q=zI (-1):=by
 obtain⟨a,c,rfl⟩:=h.opn;rw[A03]at h⊢;refine Fn0.o func322<|G.l (ι:=Nat) (fun i=>[(0,sV a T.length c),(1,.v (.func (.func fid) #[] #[])),(7,iV T.length),(8,iV i)]) (fun _=>[])
  (fun i F L=>i<=T.length/\L=PH.mt) (fun i=>T.length-i) 0 ⟨oV,rfl⟩ ?_
 rintro J i I P V E ⟨hi,rfl⟩;by_cases t:i<T.length
 ·refine G.lT i T.length ?_;have C:T[i]?=some T[i]:=A01 t;obtain⟨R,W,rfl,H⟩:=Ac.at' (h.mono E) (j:=i) (e:=D8 T[i]) (by simp[C]);refine G.n T.length c H<|G.call0 fid [D8 T[i]] kV m (K T[i] (A09 t) P E) ?_;rintro Y X l2 rfl;exact G.i i<|G.b (I (i+1) _ _ _ cV (E.trans l2) ⟨oV,rfl⟩ oV)
 obtain rfl:i=T.length:=oV;exact G.lF T.length T.length<|G.z (zI (-1))
def Ahk {u:PH}{v:Value}{T:List ((Par×Par)×Rat)}{fid:Nat}(h:Ac u v 5 (T.map D8))(t:T.length<=1000000)
 (e:∀ args w,(callFunc fid args).run prog w=.ok (.enter fid args) w) (m:∀ p∈T,∀ j,PH.le u j->zF fid [D8 p] j fun v _=>v=zL) :
 zF 295 [v,.func (.func fid) #[] #[]] u fun C _=>C=zL:=by
 refine Fn0.o func295<|G.c call322 (Atx h t e m) ?_;rintro H F E rfl;exact G.hF (-1) 0<|G.z zL
def Aew {u:PH}{v:Value}{T:List ((Par×Par)×Rat)}{fid:Nat}(h:Ac u v 5 (T.map D8))(X:T.length<=1000000)
 (m:∀ args w,(callFunc fid args).run prog w=.ok (.enter fid args) w) (Q:∀ (i:Nat) x y,T[i]?=some x->T[i+1]?=some y->∀ H,zF fid [D8 x,D8 y] H fun v _=>v=zT) :
 zF 299 [v,.func (.func fid) #[] #[]] u fun V _=>V=zT:=by
 obtain⟨a,c,rfl⟩:=h.opn;rw[A03]at h⊢;refine Fn0.o func299<|G.l (ι:=Nat) (fun i=>[(0,sV a T.length c),(1,.v (.func (.func fid) #[] #[])),(5,iV (i+1:Nat))]) (fun _=>[])
  (fun i H R=>i<=T.length/\R=PH.mt) (fun i=>T.length-i) 0 ⟨oV,rfl⟩ ?_
 rintro J i P U Y F ⟨hi,rfl⟩;by_cases E:i+1<T.length
 ·refine G.lT (i+1:Nat) T.length ?_;have t:T[i]?=some T[i]:=A01 oV;have C:T[i+1]?=some T[i+1]:=A01 E;obtain⟨W,Z,rfl,K⟩:=Ac.at' (h.mono F) (j:=i) (e:=D8 T[i]) (by simp[t]);obtain⟨_,_,I,L⟩:=Ac.at' (h.mono F) (j:=i+1) (e:=D8 T[i+1]) (by simp[C]);cases I;refine G.s (i+1:Nat) 1 i<|G.n T.length c K<|G.n T.length c L<|G.call0 fid [D8 T[i],D8 T[i+1]] kV m (Q i _ _ t C U) ?_;rintro v2 u2 l2 rfl;exact G.p (i+1:Nat) 1 (i+1+1:Nat)<|G.b (P (i+1) _ _ _ cV (F.trans l2) ⟨oV,rfl⟩ oV)
 exact G.lF (i+1:Nat) T.length<|G.z zT
def Aad {κ:Type}{c:κ->κ->Int}{T:List (κ×Rat)}(h:Hb c (T.map (·.1))){x y:κ×Rat}(m:T[i]?=some x)(t:T[i+1]?=some y):c x.1 y.1<0:=by
 obtain⟨e,rfl⟩:=A05.1 m;obtain⟨j,rfl⟩:=A05.1 t;have:=A3n.1 h i (i+1) (by simpa using e) (by simpa using j) oV;simpa using this
def Ax1 {v:Value}{F:CF}{K:Nat}(V:No u v F K)(E:CFS F)(R:CFV F)(Y:K<=1000000):zF 262 [v] u fun X _=>X=zT:=by
 obtain⟨T,Q,a1,c1,a2,c2,rfl,hT,L,J,I,kT,Z⟩:=V;refine Fn0.o func262<|G.c call169 (Gu (SB.tx E.c)) ?_;rintro v1 u1 j rfl;refine G.c call263 (Aic (fid:=292) (hT.mono j) oV call292 (fun p hp H _=>by
  obtain⟨e,h⟩:=J.val p hp;exact A0m (R.s _ (by rw[<-e];exact h)) (SB.tx (by rw[e];exact E.s _)) h)) ?_
 rintro v2 u2 l2 rfl;refine G.c call295 (Ahk (fid:=296) (L.mono (j.trans l2)) oV call296 (fun p hp H _=>by
  obtain⟨e,h⟩:=I.val p hp;obtain⟨f1,f2,U⟩:=R.t p.1 (by rw[<-e];exact h);exact A0u f1 f2 U (SB.tx (by rw[e];exact E.t _)) h)) ?_
 rintro v3 u3 P rfl;refine G.c call297 (Agx (fid:=298) (hT.mono ((j.trans l2).trans P)) oV call298 (fun i x y m C H=>Ayf (Aad J.srt m C))) ?_;rintro v4 u4 W rfl;refine G.c call299 (Aew (fid:=300) (L.mono (((j.trans l2).trans P).trans W)) oV call300 (fun i x y m C H=>Ax6 (Aad I.srt m C))) ?_;rintro v5 u5 l5 rfl;exact G.z zT
end
def Azl (u:PH)(v:Value)(F:CF)(K:Nat):Prop:=∃ r,v=.tuple #[r,zO]/\No u r F K
def No.opn {u:PH}{v:Value}{F:CF}{K:Nat}(h:No u v F K):∃ a1 n1 c1 a2 n2 c2,v=.agg #[zS (Ae F.c),.slice a1 n1 c1,.slice a2 n2 c2]:=by
 obtain⟨T,Q,a1,c1,a2,c2,rfl,_⟩:=h;exact⟨_,_,_,_,_,_,rfl⟩
def CF.num (k:Rat):CF:=⟨k,fun _=>0,fun _=>0⟩
section
variable {b c n:Nat}{x:zB}
section rules
variable [Cl] {P:Program} [A6 P] {fn:Func} {Post:Ce} {st:List KI×S} {u m:PH}
def FnK (P:Program)(f:FuncId)(args:zV)(u m:PH)(R:Value->PH->Prop):Prop:=Ag P f args u m fun v u' m'=>m'=m/\R v u'
def FnK.of {R:Value->PH->Prop}{f:FuncId}{args:zV}(j:P.funcs[f]?=some fn)(e:fn.body.isSome=true)(t:Nat.ble args.length fn.ntmps=true)(h:G P fn ⟨fun v E C=>C=m/\R v E,m⟩ (st0 fn args) u m):FnK P f args u m R:=Ag.of j e t h
def G.callK (f:Nat)(args:zV){R:Value->PH->Prop}(h:Aj P (adv P st)=.call f args)(W:∀ args w,(callFunc f args).run P w=.ok (.enter f args) w)(c:FnK P f args u m R)
 (k:∀ v j,PH.le u j->R v j->G P fn Post (nx (adv P st) v) j m):G P fn Post st u m:=by
 refine G.big (K:=fun v j C=>C=m/\R v j) h mV Dv (.inl fun v j C U=>by rw[U.1];exact fun g o Y=>Y) (fun L o t w E=>?_) (fun v j C Q T=>?_)
 ·refine Hq t W w _ (Calls.mono (c w E) fun e w' X=>?_);obtain⟨v,j,C,F,H,I,J⟩:=X;exact⟨v,F,j,C,H,I,J⟩
 obtain⟨rfl,V⟩:=T;exact k v j Q V
end rules
section
def Av8 {u m:PH}(L:zW)(Q:n<=L.length)(K:n<=1000000)(C:∀ j s,L[j]?=some s->ElP m b (0+j*1) (zS s))(F:∀ j s,j<n->L[j]?=some s->s≠x) :
 FnK prog 291 [zG b n c,zS x] u m fun v _=>v=zI (-1):=by
 refine FnK.of func291 kV kV<|G.l (ι:=Nat) (fun i=>[(0,sV (zA b) n c),(1,tV x),(7,iV n),(8,iV i)]) (fun _=>[])
  (fun i T I=>i<=n/\I=m) (fun i=>n-i) 0 ⟨oV,rfl⟩ ?_
 rintro J i E U R H ⟨hi,rfl⟩;by_cases t:i<n
 ·refine G.lT i n ?_;have h:L[i]?=some L[i]:=A01 oV;exact G.O n c t (C i _ h)<|G.w x L[i] (fun e=>F i _ t h e.symm)<|G.i i<|G.b (E (i+1) _ _ _ cV H ⟨oV,rfl⟩ oV)
 obtain rfl:i=n:=oV;exact G.lF i i<|G.z (zI (-1))
def Aiw {u m:PH}(L:zW)(t:n<=L.length)(h:n<=1000000)(e:∀ j s,L[j]?=some s->ElP m b (0+j*1) (zS s))(C:∀ j s,j<n->L[j]?=some s->s≠x) :
 FnK prog 259 [zG b n c,zS x] u m fun v _=>v=zL:=by
 refine FnK.of func259 kV kV<|G.callK _ _ kV call291 (Av8 (c:=c) L t h e C) ?_;rintro H F E rfl;exact G.hF (-1) 0<|G.z zL
structure Rc (L:zW):Prop where
 word:∀ s∈L,Hn s=true
 nodup:L.Nodup
def Aqj {u m:PH}{b k c:Nat}{L:zW}(h:Rc L)(R:L.length<=1000)(K:L.length<=c)(C:L[k]?=some x)(E:∀ j s,L[j]?=some s->ElP m b (0+j*1) (zS s)) :
 FnK prog 224 [zG b L.length c,zI k] u m fun v _=>v=zO:=by
 obtain⟨t,I⟩:=A05.1 C;refine FnK.of func224 kV kV<|G.O L.length c t (E k x C)<|G.c call218 (Asw (h.word x (A1k C))) ?_;rintro W U T rfl;refine G.sliceTo 1 (zA b) L.length c k kV oV<|G.O L.length c t (E k x C)<|G.callK _ _ kV call259 (Aiw (n:=k) (c:=c) (x:=x) L oV oV E fun j s Q J e=>?_) ?_
 ·obtain⟨F,H⟩:=A05.1 J;have:=(A9e (h₀:=F) (h₁:=t) h.nodup).1 (by rw[H,I,e]);omega
 rintro X V l2 rfl;exact G.z zO
def D9 (a:zB×Nat):Value:=.agg #[zS a.1,zI a.2]
def nmV (s:zB):Value:=zS s
def G6 (L:zW):A9 1 (L.map nmV):=by
 intro e h;obtain⟨s,_,rfl⟩:=A1b.1 h;exact⟨rfl,A1o.1 rfl⟩
end
end
structure Aq4 (T:zC):Prop where
 names:Rc (T.map (·.1))
 kind:∀ a∈T,1<=a.2/\a.2<=3
def Rc.take {L:zW}(h:Rc L)(k:Nat):Rc (L.take k):=⟨fun s e=>h.word s (A27 e),h.nodup.sublist (List.take_sublist _ _)⟩
def getElem?_snoc_last {α:Type}(l:List α)(x:α):(l++[x])[l.length]?=some x:=mV
def Ae5 {u:PH}{v w x y:Value}{T:zC}(h:Ac u v 2 (T.map D9))(ok:Aq4 T)(hl:T.length<=1000)(Y:∃ a n c,w=.slice a n c)(Z:∃ a n c,x=.slice a n c)(hy:∃ z:Int,y=zI z) :
 zF 172 [.agg #[v,w,x,y]] u fun r _=>r=zO:=by
 obtain⟨a,c,rfl⟩:=h.opn;obtain⟨wa,wn,wc,rfl⟩:=Y;obtain⟨xa,xn,xc,rfl⟩:=Z;obtain⟨z,rfl⟩:=hy;rw[A03]at h⊢;refine Fn0.o func172<|G.l (ι:=Nat×(zP×Nat×Nat)) (fun i=>[(3,sV i.2.1 i.2.2.1 i.2.2.2),(8,sV a T.length c),(9,iV T.length),(10,iV i.1)]) (fun _=>[])
  (fun i u' m'=>i.1<=T.length/\Af PH.mt m' (.slice i.2.1 i.2.2.1 i.2.2.2) 9 1 (((T.map (·.1)).take i.1).map nmV)) (fun i=>T.length-i.1) (0,(none,0,0)) ⟨mV,Af.nil _ _ _⟩ ?_
 rintro J ⟨i,na,nn,nc⟩ U u1 m1 V ⟨hi,K⟩;simp only at hi K U;by_cases H:i<T.length
 ·refine G.lT i T.length ?_;have I:T[i]?=some T[i]:=A01 H;have P:=ok.kind T[i] (A09 H);have C:((T.map (·.1)).take (i+1))=(T.map (·.1)).take i++[T[i].1]:=by
   rw[A1n,A1a,I];rfl
  have m:=ok.names.take (i+1);rw[C]at m;have F:((T.map (·.1)).take i).length=i:=gV;generalize hL:(T.map (·.1)).take i=L at K C m F;obtain⟨ba,oa,rfl,R⟩:=Ac.at' (h.mono V) (j:=i) (e:=D9 T[i]) (by simp[I]);generalize T[i]=q at R P C m;refine G.N T.length c H R<|G.B 9 1 16 zE [zS q.1] (G6 [q.1]) ?_;intro g2 u2 l2 W;refine G.k 9 1 16 zE PH.mt (L.map nmV) [zS q.1] (.slice na nn nc) g2 0 1 1 K W (G6 [q.1]) ?_;intro v3 m3 t;rw[show L.map nmV++[zS q.1]=(L++[q.1]).map nmV by rw[A1i];rfl]at t;obtain⟨Q,c3,rfl⟩:=t.ptr mV;have E:=t.cap;rw[A03]at t E⊢;refine G.callK _ _ kV call224 (Aqj (b:=Q) (k:=i) (c:=c3) (x:=q.1) (L:=L++[q.1]) m gV E (by rw[<-F];exact getElem?_snoc_last L q.1) fun j s X=>t.el (by rw[A1a,X];rfl)) ?_;rintro v4 u4 l4 rfl;exact G.nF 0 0<|G.lF q.2 1<|G.gF q.2 3<|G.i i<|G.b (U (i+1,(some ⟨Q,0,none⟩,(L++[q.1]).length,c3)) _ _ _ cV ((V.trans l2).trans l4) ⟨dV,by dsimp only;rw[C];exact t⟩ dV)
 obtain rfl:i=T.length:=oV;exact G.lF T.length T.length<|G.pastI<|G.drop PH.mt kV (PH.mt_le _)<|G.z zO
section
variable {α:Type}
abbrev Al:Type:=Nat×Nat×Nat
def Cm (f:Al):Value:=.agg #[zI f.1,zI f.2.1,zI f.2.2]
def Ad1 {α:Type}(p:α->Bool)(T:List α):Int:=match T.findIdx? p with|some k=>(k:Int)|none=>-1
def Av0 {p:α->Bool}{T:List α}{i:Nat}(hi:i<T.length)(h:p T[i]=true)(h0:∀ j (e:j<i),p (T[j]'oV)=false):Ad1 p T=(i:Int):=by
 have:T.findIdx? p=some i:=A52.2 ⟨hi,h,fun j e=>by simp[h0 j e]⟩;unfold Ad1;rw[this]
def Abp {p:α->Bool}{T:List α}(h0:∀ x∈T,p x=false):Ad1 p T = -1:=by
 have:T.findIdx? p=none:=List.findIdx?_eq_none_iff.2 h0;unfold Ad1;rw[this]
def Alt {u m:PH}{v cap:Value}{T:List Al}{fid:Nat}(p:Al->Bool)(h:Ac u v 3 (T.map Cm))(X:T.length<=1000000)
 (C:∀ args w,(callFunc fid args).run prog w=.ok (.enter fid args) w) (P:∀ f∈T,∀ I,PH.le u I->FnK prog fid [Cm f,cap] I m fun v _=>v=.bool (p f)) :
 FnK prog 219 [v,.func (.func fid) #[] #[cap]] u m fun V _=>V=zI (Ad1 p T):=by
 obtain⟨a,c,rfl⟩:=h.opn;rw[A03]at h⊢;refine FnK.of func219 kV kV<|G.l (ι:=Nat) (fun i=>[(0,sV a T.length c),(1,.v (.func (.func fid) #[] #[cap])),(7,iV T.length),(8,iV i)]) (fun _=>[])
  (fun i I R=>i<=T.length/\(∀ j (t:j<T.length),j<i->p (T[j]'t)=false)/\R=m) (fun i=>T.length-i) 0 ⟨oV,fun j t h=>oV,rfl⟩ ?_
 rintro J i L U Y H ⟨hi,h0,rfl⟩;by_cases E:i<T.length
 ·refine G.lT i T.length ?_;have F:T[i]?=some T[i]:=A01 E;obtain⟨W,Z,rfl,K⟩:=Ac.at' (h.mono H) (j:=i) (e:=Cm T[i]) (by simp[F]);refine G.n T.length c K<|G.callK fid [Cm T[i],cap] kV C (P T[i] (A09 E) U H) ?_;rintro v2 u2 l2 rfl;cases hp:p T[i] with
  |true =>
   rw[Av0 E hp fun j t=>h0 j oV t];exact G.z (zI i)
  |false =>
   refine G.i i ?_;exact G.b (L (i+1) _ _ _ cV (H.trans l2) ⟨oV,fun j t h=>by
    rcases (by omega:j<i\/j=i) with e|rfl
    ·exact h0 j t e
    exact hp,rfl⟩ oV)
 obtain rfl:i=T.length:=oV;refine G.lF T.length T.length ?_;rw[Abp fun x Q=>by obtain⟨j,t,rfl⟩:=A2y Q;exact h0 j t t];exact G.z (zI (-1))
def Mu {u m:PH}{v cap:Value}{T:List Al}{fid:Nat}(h:Ac u v 3 (T.map Cm))(C:T.length<=1000000)
 (e:∀ args w,(callFunc fid args).run prog w=.ok (.enter fid args) w) (t:∀ f∈T,∀ j,PH.le u j->FnK prog fid [Cm f,cap] j m fun v _=>v=zL) :
 FnK prog 159 [v,.func (.func fid) #[] #[cap]] u m fun E _=>E=zL:=by
 obtain⟨a,c,rfl⟩:=h.opn;refine FnK.of func159 kV kV<|G.callK _ _ kV call219 (Alt (cap:=cap) (fun _=>false) h C e t) ?_;rintro I H F rfl;rw[Abp fun x _=>rfl];exact G.hF (-1) 0<|G.z zL
def Y2 {u m:PH}{f g:Al}{b:Nat}(h:ElP m b 0 (Cm g))(j:f.1≠g.1):FnK prog 226 [Cm f,.pointer (some ⟨b,0,none⟩)] u m fun v _=>v=.bool false:=by
 refine FnK.of func226 kV kV<|G.f 100 b 0 0 0<|G.lM none b (0+0) (.int .i64 g.1) (fun i x e=>?_) ?_
 ·have:i=0/\x=.int .i64 g.1:=by
   match i,e with
   |0,e=>exact⟨rfl,by simpa[Value.cells] using e.symm⟩
   |i+1,e=>simp[Value.cells]at e
  obtain⟨rfl,rfl⟩:=this;exact h 0 _ rfl
 exact G.eF f.1 g.1<|G.z (.bool false)
structure Da (T:zC)(F:List Al)(lab:Int):Prop where
 ok:∀ f∈F,∃ n k,T[f.1]?=some (n,k)/\((f.2.1=1/\k=2/\f.2.2<=1)\/(f.2.1=2/\k=3/\f.2.2=0))/\(f.1:Int)≠lab
 nodup:(F.map (·.1)).Nodup
end
section
variable {b:Nat}{m u:PH}
def Ac.cap {a:zP}{n c sz:Nat}{es:zV}(h:Ac u (.slice a n c) sz es):es.length<=c:=by
 obtain⟨_,_,e,j,_⟩:=h;cases e;exact j
def L9 {b off:Nat}{q:zB×Nat}(h:ElP u b off (D9 q)):ElP u b (off+1) (zI q.2):=fun i x e=>by
 match i,e with
 |0,e =>
  have:x=zI q.2:=by simpa[Value.cells] using e.symm
  subst this;exact h 1 _ rfl
 |i+1,e=>simp[Value.cells]at e
def Ph {t:TypeId}{xs:zV}{e:Value}(j:e.cells=xs.toArray):ElP (m.upd b (.cells xs.toArray t (0,0))) b 0 e:=fun i x h=>by
 refine⟨_,_,_,Ab _ _ _,?_⟩;rw[j]at h;simpa using h
def Ahq {g:Al}(h:ElP m b 0 (Cm g)):ElP m b (0+0) (zI g.1):=fun i x e=>by
 match i,e with
 |0,e =>
  have:x=zI g.1:=by simpa[Value.cells] using e.symm
  subst this;exact h 0 _ rfl
 |i+1,e=>simp[Value.cells]at e
def Aon {v w x:Value}{T:zC}{F:List Al}{lab:Int}(h:Ac u v 2 (T.map D9))(hF:Ac u x 3 (F.map Cm))(ok:Da T F lab)(hl:T.length<=1000)(a2:F.length<=1000)(hw:∃ a n c,w=.slice a n c) :
 zF 174 [.agg #[v,w,x,zI lab]] u fun r _=>r=zO:=by
 obtain⟨a,c,rfl⟩:=h.opn;obtain⟨a',L,rfl⟩:=hF.opn;obtain⟨wa,wn,wc,rfl⟩:=hw;have R:=hF.cap;rw[A03]at h hF R⊢;rw[A03];refine Fn0.o func174<|G.l (ι:=Nat) (fun i=>[(1,.p 0 0),(9,sV a' F.length L),(10,iV F.length),(11,iV i)]) (fun _=>[(0,⟨30,[sV a T.length c,sV wa wn wc,sV a' F.length L,iV lab]⟩)])
  (fun i u' m'=>i<=F.length/\m'=PH.mt) (fun i=>F.length-i) 0 ⟨oV,rfl⟩ ?_
 rintro J i X u1 m1 P ⟨hi,rfl⟩;by_cases K:i<F.length
 ·refine G.lT i F.length ?_;have Y:F[i]?=some F[i]:=A01 K;obtain⟨n,k,Z,H,C⟩:=ok.ok F[i] (A09 K);have t:∀ f∈F.take i,f.1≠(F[i]).1:=by
   intro f hf;obtain⟨j,hj,rfl⟩:=A2y hf;rw[A1e]at hj;rw[A7w];intro e;have:=(A9e (xs:=F.map (·.1)) (h₀:=by rw[A03];omega) (h₁:=by rw[A03];omega) (i:=j) (j:=i) ok.nodup).1 (by rw[A3v,A3v];exact e);omega
  obtain⟨W,oa,rfl,ea⟩:=Ac.at' (hF.mono P) (j:=i) (e:=Cm F[i]) (by simp[Y]);have I:=(hF.mono P).take' i (by rw[A03];omega);rw[<-A5g]at I;have a3:(F.take i).length=i:=by rw[A1e];omega
  generalize F[i]=f at ea Z H C t;obtain⟨a0,a1⟩:=A05.1 Z;obtain⟨bb,ob,rfl,eb⟩:=Ac.at' (h.mono P) (j:=f.1) (e:=D9 (n,k)) (by simp[Z]);refine G.N F.length L K ea<|G.lF f.1 0<|G.hF f.1 T.length<|G.a bb ob T.length c f.1 2 a0<|G.f 96 bb (ob+f.1*2) 1 1<|G.g none (L9 eb) ?_;rcases H with ⟨k1,k2,k3⟩|⟨k1,k2,k3⟩
  ·refine G.eT f.2.1 1<|G.eT k 2 ?_;by_cases k0:f.2.2=0
   ·refine G.eT f.2.2 0<|G.eF f.2.1 2<|G.pastI<|G.pub 3003 100 [zI f.1,zI f.2.1,zI f.2.2] kV kV ?_;intro Q V U;refine G.f 100 Q 0 0 0<|G.v none (Ahq (g:=f) (Ph rfl))<|G.eF' f.1 lab C<|G.sliceTo 3 (some ⟨W,oa,none⟩) F.length L i kV oV<|G.callK _ _ kV call159 (Mu I (by rw[A1e];omega) call226 fun f' E u' _=>Y2 (g:=f) (Ph rfl) (t f' E)) ?_;rintro v2 u2 l2 rfl;exact G.drop PH.mt kV (PH.mt_le _)<|G.i i<|G.b (X (i+1) _ _ _ cV (P.trans l2) ⟨oV,rfl⟩ oV)
   refine G.eF f.2.2 0<|G.eT f.2.2 1<|G.eF f.2.1 2<|G.pastI<|G.pub 3003 100 [zI f.1,zI f.2.1,zI f.2.2] kV kV ?_;intro Q V U;refine G.f 100 Q 0 0 0<|G.v none (Ahq (g:=f) (Ph rfl))<|G.eF' f.1 lab C<|G.sliceTo 3 (some ⟨W,oa,none⟩) F.length L i kV oV<|G.callK _ _ kV call159 (Mu I (by rw[A1e];omega) call226 fun f' E u' _=>Y2 (g:=f) (Ph rfl) (t f' E)) ?_;rintro v2 u2 l2 rfl;exact G.drop PH.mt kV (PH.mt_le _)<|G.i i<|G.b (X (i+1) _ _ _ cV (P.trans l2) ⟨oV,rfl⟩ oV)
  refine G.eF f.2.1 1<|G.eT f.2.1 2<|G.eT k 3<|G.eT f.2.2 0<|G.pastI<|G.pub 3003 100 [zI f.1,zI f.2.1,zI f.2.2] kV kV ?_;intro Q V U;refine G.f 100 Q 0 0 0<|G.v none (Ahq (g:=f) (Ph rfl))<|G.eF' f.1 lab C<|G.sliceTo 3 (some ⟨W,oa,none⟩) F.length L i kV oV<|G.callK _ _ kV call159 (Mu I (by rw[A1e];omega) call226 fun f' E u' _=>Y2 (g:=f) (Ph rfl) (t f' E)) ?_;rintro v2 u2 l2 rfl;exact G.drop PH.mt kV (PH.mt_le _)<|G.i i<|G.b (X (i+1) _ _ _ cV (P.trans l2) ⟨oV,rfl⟩ oV)
 obtain rfl:i=F.length:=oV;exact G.lF F.length F.length<|G.z zO
end
section
variable {L:List Bool}{b c n:Nat}{m m0 u:PH}
def Awk (K:n=L.length)(I:n<=1000000)(t:∀ (j:Nat) s,L[j]?=some s->ElP m b (0+j*1) (.bool s))(E:∀ s∈L,s=true) :
 FnK prog 260 [zG b n c,zL] u m fun v _=>v=zI (-1):=by
 refine FnK.of func260 kV kV<|G.l (ι:=Nat) (fun i=>[(0,sV (zA b) n c),(1,bF),(7,iV n),(8,iV i)]) (fun _=>[])
  (fun i Q H=>i<=n/\H=m) (fun i=>n-i) 0 ⟨oV,rfl⟩ ?_
 rintro J i C R P F ⟨hi,rfl⟩;by_cases h:i<n
 ·refine G.lT i n ?_;have e:L[i]?=some true:=by
   rw[A01 oV];exact congrArg some (E _ (A09 oV))
  exact G.O n c h (t i _ e)<|G.eqB false true kV<|G.i i<|G.b (C (i+1) _ _ _ cV F ⟨oV,rfl⟩ oV)
 obtain rfl:i=n:=oV;exact G.lF i i<|G.z (zI (-1))
def Aiq (t:n=L.length)(h:n<=1000000)(e:∀ (j:Nat) s,L[j]?=some s->ElP m b (0+j*1) (.bool s))(C:∀ s∈L,s=true) :
 FnK prog 225 [zG b n c,zL] u m fun v _=>v=zL:=by
 refine FnK.of func225 kV kV<|G.callK _ _ kV call260 (Awk (c:=c) (L:=L) t h e C) ?_;rintro H F E rfl;exact G.hF (-1) 0<|G.z zL
abbrev Br:Type:=zB×zK×(zP×Nat)
def Hs (r:Br):Value:=.agg #[zS r.1,.slice r.2.2.1 r.2.1.length r.2.2.2]
structure Py (u:PH)(n:Nat)(R:List Br):Prop where
 names:Rc (R.map (·.1))
 ne:∀ r∈R,r.2.1≠[]
 lt:∀ r∈R,∀ a∈r.2.1,a<n
 len:∀ r∈R,r.2.1.length<=1000
 asc:∀ r∈R,∀ (k:Nat) x y,r.2.1[k]?=some x->r.2.1[k+1]?=some y->x<y
 all:∀ a<n,∃ r∈R,a∈r.2.1
 at':∀ r∈R,Ac u (.slice r.2.2.1 r.2.1.length r.2.2.2) 1 (Ai r.2.1)
def Aqk (g n:Nat)(L:List Bool):Arr:=⟨zG g n n,4,1,L.map .bool⟩
def Ajq (a:zP)(c:Nat)(L:zW):Arr:=⟨.slice a L.length c,9,1,L.map nmV⟩
def Ak5 {g n:Nat}:(Aqk g n L).At m0 m=Af m0 m (zG g n n) 4 1 (L.map .bool):=rfl
def Ak3 {a:zP}{L:zW}:(Ajq a c L).At m0 m=Af m0 m (.slice a L.length c) 9 1 (L.map nmV):=rfl
def Sd (L:List Bool)(a:Nat):(L.map Value.bool).set a zT=(L.set a true).map Value.bool:=by rw[A2g]
def Aha {w x y:Value}{a0:zP}{n c0:Nat}{R:List Br}(hR:Ac u w 2 (R.map Hs))(ok:Py u n R)(hn:n<=1000)(ay:0<n)(hl:R.length<=1000)(hx:∃ a n c,x=.slice a n c)(hy:∃ z:Int,y=zI z) :
 zF 173 [.agg #[.slice a0 n c0,w,x,y]] u fun r _=>r=zO:=by
 obtain⟨a,c,rfl⟩:=hR.opn;obtain⟨xa,xn,xc,rfl⟩:=hx;obtain⟨z,rfl⟩:=hy;rw[A03]at hR⊢;refine Fn0.o func173<|G.make 4 1 1 zL n kV rfl rfl oV oV oV ?_;rintro v1 m1 ag ⟨ad,rfl⟩;obtain⟨g,rfl,_⟩:=ag.some';refine G.l (ι:=Nat×List Bool×zW×(zP×Nat)) (fun i=>[(3,sV i.2.2.2.1 i.2.2.1.length i.2.2.2.2),(4,sV (zA g) n n),(16,sV a R.length c),(17,iV R.length),(18,iV i.1)]) (fun _=>[])
  (fun i u' m'=>i.1<=R.length/\i.2.1.length=n/\i.2.2.1=(R.map (·.1)).take i.1/\(∀ r∈R.take i.1,∀ q∈r.2.1,i.2.1[q]?=some true)/\Bag m' [Aqk g n i.2.1,Ajq i.2.2.2.1 i.2.2.2.2 i.2.2.1]) (fun i=>R.length-i.1) (0,List.replicate n false,[],(none,0))
  ⟨mV,mV,mV,mV,⟨PH.mt,by rw[Ak5,A8z];exact ag,PH.mt,Af.nil _ _ _,trivial⟩⟩ ?_
 rintro J ⟨i,L,N,⟨na,nc⟩⟩ hJ u2 m2 l2 ⟨hi,hL,hN,Q,T⟩;simp only at hi hL hN Q T hJ;by_cases aa:i<R.length
 ·refine G.lT i R.length ?_;have a9:R[i]?=some R[i]:=A01 aa;have C:R[i]∈R:=A09 aa;have a2:(R.map (·.1)).take (i+1)=N++[R[i].1]:=by
   rw[A1n,A1a,a9,hN];rfl
  have a6:R.take (i+1)=R.take i++[R[i]]:=by
   rw[A1n,a9];rfl
  have t:=ok.names.take (i+1);rw[a2]at t;have ak:N.length=i:=by rw[hN];simp;omega
  obtain⟨ba,oa,rfl,ea⟩:=Ac.at' (hR.mono l2) (j:=i) (e:=Hs R[i]) (by simp[a9]);generalize R[i]=q at ea C a2 a6 t;obtain⟨U,h,qa,qc⟩:=q;have av:h≠[]:=ok.ne _ C;have al:∀ p∈h,p<n:=ok.lt _ C;have b0:h.length<=1000:=ok.len _ C;have aj:∀ (k:Nat) x y,h[k]?=some x->h[k+1]?=some y->x<y:=ok.asc _ C;have ap:Ac u2 (.slice qa h.length qc) 1 (Ai h):=(ok.at' _ C).mono l2;have az:0<h.length:=A4f.2 av;simp only at a2 t;refine G.N R.length c aa ea<|G.B 9 1 16 zE [zS U] (G6 [U]) ?_;intro g3 u3 l3 e3;obtain⟨mm,ac,a5⟩:=T.focus 1 rfl;rw[Ak3]at ac;refine G.k 9 1 16 zE mm (N.map nmV) [zS U] (.slice na N.length nc) g3 0 1 1 ac e3 (G6 [U]) ?_;intro v4 m4 F;rw[show N.map nmV++[zS U]=(N++[U]).map nmV by rw[A1i];rfl]at F;obtain⟨b4,c4,rfl⟩:=F.ptr mV;have W:=F.cap;rw[A03]at F W⊢;have I:=a5 (Ajq (zA b4) c4 (N++[U])) m4 F;simp only[A2j,A2p]at I;refine G.callK _ _ kV call224 (Aqj (b:=b4) (k:=i) (c:=c4) (x:=U) (L:=N++[U]) t gV W (by rw[<-ak];exact getElem?_snoc_last N U) fun j s hs=>F.el (by rw[A1a,hs];rfl)) ?_;rintro v5 u5 l5 rfl;refine G.nF 0 0<|G.eF h.length 0 ?_;generalize N++[U]=N' at I a2;clear F a5 ac T W t;have ax:∀ p∈h,p<n:=al;refine G.l (ι:=Nat×List Bool) (fun j=>[(3,sV (zA b4) N'.length c4),(4,sV (zA g) n n),(6,.p 5003 0),(16,sV (some ⟨ba,oa,none⟩) R.length c),(17,iV R.length),(18,iV i),(39,sV qa h.length qc),(40,iV h.length),(41,iV j.1)])
   (fun _=>[(5003,⟨98,[tV U,sV qa h.length qc]⟩)])
   (fun j u' m'=>j.1<=h.length/\j.2.length=n/\(∀ r∈R.take i,∀ q∈r.2.1,j.2[q]?=some true)/\(∀ q∈h.take j.1,j.2[q]?=some true)/\Bag m' [Aqk g n j.2,Ajq (zA b4) c4 N']) (fun j=>h.length-j.1) (0,L)
   ⟨mV,hL,Q,mV,I⟩ ?_
  rintro J2 ⟨j,L2⟩ ai u6 m6 l6 ⟨hj,a8,H,E,K⟩;simp only at hj a8 H E K ai;have Z:=ap.mono ((l3.trans l5).trans l6);by_cases Y:j<h.length
  ·refine G.lT j h.length ?_;have aq:h[j]?=some h[j]:=A01 Y;have am:h[j]<n:=al _ (A09 Y);have a7:h.take (j+1)=h.take j++[h[j]]:=by rw[A1n,aq];rfl
   obtain⟨bq,oq,rfl,eq⟩:=Ac.at' Z (j:=j) (e:=zI (h[j]:Int)) (by simp[Ai,aq]);generalize h[j]=p at eq am a7;refine G.N h.length qc Y eq<|G.lF p 0<|G.hF p n<|G.a g 0 n n p 1 am ?_;obtain⟨aw,ar,ab⟩:=K.focus 0 rfl;rw[Ak5]at ar;refine G.storeA 1 aw (L2.map Value.bool) g n n p zT kV ar (by rw[A03];omega) rfl rfl ?_;intro m7 ah;rw[Sd]at ah;have V:=ab (Aqk g n (L2.set p true)) m7 ah;simp only[A2p]at V;refine G.i j ?_;have X:∀ q,L2[q]?=some true->(L2.set p true)[q]?=some true:=fun q P=>by
    rw[A1z];split
    ·subst_vars;rw[if_pos oV]
    exact P
   exact G.b (ai (j+1,L2.set p true) _ _ _ cV l6 ⟨dV,by simp[a8],fun r hr q P=>X q (H r hr q P),by
    intro q P;dsimp only at P⊢;rw[a7,A1h,A12]at P;rcases P with P|rfl
    ·exact X q (E q P)
    rw[A1z];simp;omega,V⟩ dV)
  obtain rfl:j=h.length:=oV;refine G.lF h.length h.length ?_;rw[A15]at E;refine G.l (ι:=Nat) (fun k=>[(3,sV (zA b4) N'.length c4),(4,sV (zA g) n n),(6,.p 5003 0),(10,iV (k+1:Nat)),(16,sV (some ⟨ba,oa,none⟩) R.length c),(17,iV R.length),(18,iV i)])
   (fun _=>[(5003,⟨98,[tV U,sV qa h.length qc]⟩)])
   (fun k u' m'=>k+1<=h.length/\m'=m6) (fun k=>h.length-k) 0
   ⟨oV,rfl⟩ ?_
  rintro J3 k au u8 m8 l8 ⟨hk,rfl⟩;have a1:=Z.mono l8;by_cases a4:k+1<h.length
  ·refine G.lT (k+1:Nat) h.length ?_;have an:h[k]?=some h[k]:=A01 oV;have ao:h[k+1]?=some h[k+1]:=A01 a4;have a3:=aj k _ _ an ao;obtain⟨bq,oq,rfl,af⟩:=Ac.at' a1 (j:=k+1) (e:=zI (h[k+1]:Int)) (by simp[Ai,ao]);obtain⟨_,_,e',ae⟩:=Ac.at' a1 (j:=k) (e:=zI (h[k]:Int)) (by simp[Ai,an]);cases e';generalize h[k]=p1 at ae a3;generalize h[k+1]=p2 at af a3;exact G.N h.length qc a4 af<|G.s (k+1:Nat) 1 k<|G.n h.length qc ae<|G.kF p2 p1<|G.p (k+1:Nat) 1 (k+1+1:Nat)<|G.b (au (k+1) _ _ _ cV l8 ⟨oV,rfl⟩ oV)
  refine G.lF (k+1:Nat) h.length<|G.i i ?_;exact G.b (hJ (i+1,L2,N',(some ⟨b4,0,none⟩,c4)) _ _ _ cV ((((l2.trans l3).trans l5).trans l6).trans l8) ⟨dV,a8,a2.symm,by
   intro r hr q P;dsimp only at hr P⊢;rw[a6,A1h,A12]at hr;rcases hr with hr|rfl
   ·exact H r hr q P
   exact E q P,K⟩ dV)
 obtain rfl:i=R.length:=oV;refine G.lF R.length R.length ?_;rw[A15]at Q;refine G.callK _ _ kV call225 (Aiq (b:=g) (c:=n) (L:=L) hL.symm oV (fun j s hs=>T.el 0 rfl (x:=Aqk g n L) rfl (by show (L.map Value.bool)[j]?=_;rw[A1a,hs];rfl)) fun s hs=>by
  obtain⟨j,hj,rfl⟩:=A2y hs;obtain⟨r,hr,P⟩:=ok.all j oV;have:=Q r hr j P;rw[A01 hj]at this;exact A28 this) ?_
 rintro v3 u3 l3 rfl;exact G.drop PH.mt kV (PH.mt_le _)<|G.z zO
end
structure Bl (u:PH)(T:zC)(R:List Br)(F:List Al)(lab:Int):Prop where
 att:Aq4 T
 rel:Py u T.length R
 feat:Da T F lab
 t1:0<T.length
 t2:T.length<=12
 r1:0<R.length
 r2:R.length<=6
 f2:F.length<=8
 l1:-1<=lab
 l2:∀ l:Nat,lab=(l:Int)->∃ n,T[l]?=some (n,2)
def Py.mono {u e:PH}{n:Nat}{R:List Br}(h:Py u n R)(j:PH.le u e):Py e n R:=⟨h.names,h.ne,h.lt,h.len,h.asc,h.all,fun r m=>(h.at' r m).mono j⟩
def Bl.mono {u e:PH}{T:zC}{R:List Br}{F:List Al}{lab:Int}(h:Bl u T R F lab)(j:PH.le u e):Bl e T R F lab:=⟨h.att,h.rel.mono j,h.feat,h.t1,h.t2,h.r1,h.r2,h.f2,h.l1,h.l2⟩
def H5 (u:PH)(v:Value)(T:zC)(R:List Br)(F:List Al)(lab:Int):Prop :=
 ∃ a c b d e f,v=.agg #[.slice a T.length c,.slice b R.length d,.slice e F.length f,zI lab]/\Ac u (.slice a T.length c) 2 (T.map D9)/\Ac u (.slice b R.length d) 2 (R.map Hs)/\Ac u (.slice e F.length f) 3 (F.map Cm)
def H5.mono {u m:PH}{v:Value}{T:zC}{R:List Br}{F:List Al}{lab:Int}(h:H5 u v T R F lab)(j:PH.le u m):H5 m v T R F lab:=by
 obtain⟨a,c,b,d,e,f,H,t,C,E⟩:=h;exact⟨a,c,b,d,e,f,H,t.mono j,C.mono j,E.mono j⟩
def Adn {u:PH}{v:Value}{T:zC}{R:List Br}{F:List Al}{lab:Int}(h:H5 u v T R F lab)(ok:Bl u T R F lab) :
 zF 98 [v] u fun r _=>r=zO:=by
 obtain⟨a,c,b,d,e,f,rfl,hT,Z,hF⟩:=h;have t1:=ok.t1;have t2:=ok.t2;have r1:=ok.r1;have r2:=ok.r2;have f2:=ok.f2;have lo:=ok.l1;have hi:lab<T.length:=by
  rcases A5q lab 0 with t|I
  ·omega
  obtain⟨n,K⟩:=ok.l2 lab.toNat oV;obtain⟨hk,_⟩:=A05.1 K;omega
 refine Fn0.o func98<|G.eF T.length 0<|G.gF T.length 12<|G.eF R.length 0<|G.gF R.length 6<|G.gF F.length 8<|G.buildU 104 1 8 (.nilFunc) [.func (.func 172) #[] #[],.func (.func 173) #[] #[],.func (.func 174) #[] #[]] kV (fun x Q=>by
  simp only[A1g,A11,or_false]at Q;rcases Q with rfl|rfl|rfl<;>exact⟨rfl,A1o.1 rfl⟩) rfl oV mV mV ?_
 intro g u1 l1 X;refine G.l (ι:=Nat) (fun i=>[(1,.p 0 0),(34,sV (zA g) 3 3),(35,iV (3:Nat)),(36,iV i)])
  (fun _=>[(0,⟨30,[sV a T.length c,sV b R.length d,sV e F.length f,iV lab]⟩)])
  (fun i u' m'=>i<=3/\m'=PH.mt) (fun i=>3-i) 0 ⟨oV,rfl⟩ ?_
 rintro J i H u2 m2 l2 ⟨a1,rfl⟩;have m:=l1.trans l2;have E:=X.mono l2;by_cases t:i<3
 ·refine G.lT i (3:Nat)<|G.a g 0 3 3 i 1 t ?_;rcases (by omega:i=0\/i=1\/i=2) with rfl|rfl|rfl
  ·refine G.g none (E 0 _ rfl)<|G.c call172 (Ae5 (w:=.slice b R.length d) (x:=.slice e F.length f) (y:=zI lab) (hT.mono m) ok.att oV ⟨_,_,_,rfl⟩ ⟨_,_,_,rfl⟩ ⟨_,rfl⟩) ?_;rintro W V C rfl;exact G.nF 0 0<|G.p (0:Nat) 1 (0+1:Nat)<|G.b (H (0+1) _ _ _ cV (l2.trans C) ⟨oV,rfl⟩ oV)
  ·refine G.g none (E 1 _ rfl)<|G.c call173 (Aha (a0:=a) (c0:=c) (x:=.slice e F.length f) (y:=zI lab) (Z.mono m) (ok.rel.mono m) oV oV oV ⟨_,_,_,rfl⟩ ⟨_,rfl⟩) ?_;rintro W V C rfl;exact G.nF 0 0<|G.p (1:Nat) 1 (1+1:Nat)<|G.b (H (1+1) _ _ _ cV (l2.trans C) ⟨oV,rfl⟩ oV)
  refine G.g none (E 2 _ rfl)<|G.c call174 (Aon (w:=.slice b R.length d) (hT.mono m) (hF.mono m) ok.feat oV oV ⟨_,_,_,rfl⟩) ?_;rintro W V C rfl;exact G.nF 0 0<|G.p (2:Nat) 1 (2+1:Nat)<|G.b (H (2+1) _ _ _ cV (l2.trans C) ⟨oV,rfl⟩ oV)
 obtain rfl:i=3:=oV;refine G.lF (3:Nat) (3:Nat)<|G.lF lab (-1)<|G.hF lab T.length ?_;rcases A5q lab 0 with P|I
 ·exact G.hF lab 0<|G.z zO
 refine G.hT lab 0 ?_;obtain⟨l,rfl⟩:∃ l:Nat,lab=(l:Int):=⟨lab.toNat,oV⟩;obtain⟨n,K⟩:=ok.l2 l rfl;obtain⟨L,U,rfl,Y⟩:=Ac.at' (hT.mono m) (j:=l) (e:=D9 (n,2)) (by simp[K]);exact G.a L U T.length c l 2 oV<|G.f 96 L (U+l*2) 1 1<|G.g none (L9 Y)<|G.nF (2:Nat) 2<|G.z zO
section
variable {n:Nat}{v:Value}{z:Int}
def Azo (n:Nat):(Aa n).getD 0 0=n%1000000000:=by
 by_cases h:n=0
 ·subst h;rw[A7];rfl
 rw[Dz h];rfl
def A0k (n:Nat):(Aa n).getD 1 0=n/1000000000%1000000000:=by
 by_cases h:n=0
 ·subst h;rw[A7];rfl
 rw[Dz h];show (Aa (n/1000000000)).getD 0 0=_;rw[Azo]
def Alh (h:n<1000000000000000000):(Aa n).length<=2:=by
 by_cases h0:n=0
 ·subst h0;rw[A7];simp
 rw[Dz h0];by_cases e:n/1000000000=0
 ·rw[e,A7];simp
 rw[Dz e,show n/1000000000/1000000000=0 by omega,A7];simp
def Aa9 (e:0<=z)(h:z<18446744073709551616):IntKind.u64.wrap z=z:=by
 simp only[IntKind.wrap,IntKind.signed,IntKind.bits];simp;omega
section rules
variable {P:Program} [A6 P] {fn:Func} {Post:Ce} {st:List KI×S} {u m:PH}
def G.mul64 (x y z:Int)(h:Aj P (adv P st)=.bin .mul (.int .u64 x) (.int .u64 y))(C:x*y=z)(e:0<=z)(j:z<18446744073709551616)
 (k:G P fn Post (nx (adv P st) (.int .u64 z)) u m):G P fn Post st u m :=
 G.bin _ h C0 (fun t w=>by simp[binOp,Op.intArith,C,Aa9 e j]) k
def G.add64 (x y z:Int)(h:Aj P (adv P st)=.bin .add (.int .u64 x) (.int .u64 y))(C:x+y=z)(e:0<=z)(j:z<18446744073709551616)
 (k:G P fn Post (nx (adv P st) (.int .u64 z)) u m):G P fn Post st u m :=
 G.bin _ h C0 (fun t w=>by simp[binOp,Op.intArith,C,Aa9 e j]) k
end rules
def Abu {u:PH}(h:Dk u v n)(t:n<1000000000000000000)(i:Nat):zF 271 [v,zI i] u fun r _=>r=.int .u64 (((Aa n).getD i 0:Nat):Int):=by
 have C:=Alh t;obtain⟨a,c,rfl,_⟩:=id h;refine Fn0.o func271 ?_;by_cases j:i<(Aa n).length
 ·refine G.lT i ((Aa n).length:Int) ?_;obtain⟨b,off,rfl,e⟩:=h.at j;exact G.N (Aa n).length c j e<|G.z _
 refine G.lF i ((Aa n).length:Int) ?_;rw[Fs j];exact G.z (.int .u64 0)
def Aoc {u:PH}(h:Dk u v n)(e:n<1000000000000000000):zF 272 [v] u fun r _=>r=.int .u64 (n:Int):=by
 obtain⟨a,c,rfl,_⟩:=id h;refine Fn0.o func272<|G.c call271 (Abu h e 1) ?_;rintro E t j rfl;rw[A0k];refine G.mul64 ((n/1000000000%1000000000:Nat):Int) 1000000000 _ kV rfl oV oV<|G.c call271 (Abu (h.mono j) e 0) ?_;rintro F C l2 rfl;rw[Azo];exact G.add64 (((n/1000000000%1000000000:Nat):Int)*1000000000) ((n%1000000000:Nat):Int) (n:Int) kV oV oV oV<|G.z _
def Aom {u:PH}(h:Bi u v z)(C:z.natAbs<1000000000000000000):zF 257 [v] u fun r _=>r=.tuple #[zI z,zT]:=by
 obtain⟨a,J,c,rfl,t⟩:=h;obtain⟨a,c,e,_⟩:=id t;cases e;have F:=Alh C;generalize H:z.natAbs=n at t C F⊢;refine Fn0.o func257<|G.gF ((Aa n).length:Int) 3<|G.c call271 (Abu t C 2) ?_;rintro R K E rfl;rw[Fs (k:=2) oV];refine G.cmpG .gtr .u64 ((0:Nat):Int) 4 false kV rfl (by simp[Db])<|G.c call271 (Abu (t.mono E) C 2) ?_;rintro T L l2 rfl;rw[Fs (k:=2) oV];refine G.mul64 ((0:Nat):Int) 1000000000 0 kV oV oV oV<|G.mul64 0 1000000000 0 kV oV oV oV<|G.c call272 (Aoc (t.mono (E.trans l2)) C) ?_;rintro U Q I rfl;refine G.add64 0 (n:Int) (n:Int) kV oV oV oV<|G.cmpG .gtr .u64 (n:Int) 4611686018427387904 false kV rfl (by simp[Db];omega) ?_;by_cases j:z<0
 ·rw[decide_eq_true j];refine G.convI .u64 .i64 .u64 (n:Int) (n:Int) kV ?_ ?_
  ·simp only[IntKind.wrap,IntKind.signed,IntKind.bits];simp;omega
  exact G.neg (n:Int) z kV oV oV oV<|G.z (.tuple #[zI z,zT])
 rw[decide_eq_false j];refine G.convI .u64 .i64 .u64 (n:Int) (n:Int) kV ?_ ?_
 ·simp only[IntKind.wrap,IntKind.signed,IntKind.bits];simp;omega
 obtain rfl:z=(n:Int):=oV;exact G.z (.tuple #[zI n,zT])
end
section
variable {q:Rat}{u:PH}{z:Int}
def Jk (h:z.natAbs<1000000000000000000):Lib.nDigits z.natAbs<=400:=A04 (Cz (k:=18) oV oV) oV
def Aa6 (h:z.natAbs<1000000000000000000):zF 217 [zS (Lib.itoa z)] u fun v _=>v=.tuple #[zI z,zT]:=by
 refine Fn0.o func217<|G.c call222 (Jn (Jk h)) ?_;rintro H C m rfl;refine G.c call256 (Zc (Jk h)) ?_;intro I E l2 e;obtain⟨j,a2,n2,c2,rfl⟩:=e.opn;refine G.c call257 (Aom e h) ?_;rintro J F t rfl;exact G.z (.tuple #[zI z,zT])
def Ayv (h:Tx q):zF 216 [zS (Ae q)] u fun v _=>v=.tuple #[zS (Lib.itoa q.num),zS (Lib.itoa (q.den:Int)),zT]:=by
 refine Fn0.o func216<|G.c call169 (Gu h) ?_;rintro C m j rfl;refine G.c call204 (Ay5 h) ?_;rintro E t l2 rfl;by_cases e:q.den=1
 ·rw[if_pos e,decide_eq_false (by simp[e]),e,show ((1:Nat):Int)=1 from rfl,Hf];exact G.z (.tuple #[zS (Lib.itoa q.num),zS [49],zT])
 rw[if_neg e,decide_eq_true e];exact G.z (.tuple #[zS (Lib.itoa q.num),zS (Lib.itoa (q.den:Int)),zT])
def Afu (h:z.natAbs<=1000000000):zF 215 [zS (Lib.itoa z)] u fun v _=>v=zT:=by
 refine Fn0.o func215<|G.c call217 (Aa6 (z:=z) oV) ?_;rintro m j e rfl;exact G.hT z (-1000000000)<|G.kT z 1000000000<|G.z zT
structure Dat (q:Rat):Prop where
 num:q.num.natAbs<=1000000000
 den:q.den<=12
def Dat.tx (h:Dat q):Tx q:=⟨Jk (by have:=h.num;omega),by have:=Jk (z:=(q.den:Int)) (by have:=h.den;omega);simpa using this⟩
def Ase :Ae q≠[]:=by
 intro e;unfold Ae at e;split at e
 ·by_cases h:q.num<0
  ·rw[N2 h]at e;cases e
  rw[Lib.itoa,if_neg h]at e;exact Gk _ e
 simp at e
def Awh {s:zB}(h:Dat q):zF 158 [D9 (s,2),zS (Ae q)] u fun v _=>v=zT:=by
 have e:=h.den;have hp:=q.den_pos;refine Fn0.o func158<|G.eF (2:Nat) 1<|G.eT (2:Nat) 2<|G.c call216 (Ayv h.tx) ?_;rintro F t j rfl;refine G.c call217 (Aa6 (z:=(q.den:Int)) oV) ?_;rintro H C l2 rfl;refine G.w (Ae q) [] Ase<|G.c call215 (Afu h.num) ?_;rintro I E m rfl;exact G.hT q.den 1<|G.kT q.den 12<|G.z zT
end
def CF.one1 (p:Par)(q:Rat):CF:=⟨1,Nh (fun _=>0) p q,Nh (fun _=>0) (p,p) (q*q)⟩
section
variable {F:CF}{K:Nat}{u:PH}{v:Value}
def A0d (p:Par)(h:No u v F K)(hK:K<=1000000):zF 233 [v,Ap p] u fun r _=>r=zS (Ae (F.s p)):=by
 obtain⟨T,Q,a1,c1,a2,c2,rfl,hT,hQ,I,Z,kT,kQ⟩:=h;refine Fn0.o func233<|G.l (ι:=Nat) (fun i=>[(3,.p 1 0),(8,sV a1 T.length c1),(9,iV T.length),(10,iV i)]) (fun _=>[(1,⟨118,[iV p.1,tV p.2]⟩)])
  (fun i u' X=>i<=T.length/\(∀ j (m:j<T.length),j<i->(T[j]'m).1≠p)/\X=PH.mt) (fun i=>T.length-i) 0 ⟨oV,fun j m h=>oV,rfl⟩ ?_
 rintro J i R u1 m1 L ⟨hi,h0,rfl⟩;by_cases t:i<T.length
 ·refine G.lT i T.length ?_;have H:T[i]?=some T[i]:=A01 t;have C:=(I.val _ (A09 t)).1;obtain⟨Y,oa,rfl,P⟩:=Ac.at' (hT.mono L) (j:=i) (e:=Bt T[i]) (by simp[H]);refine G.n T.length c1 P ?_;by_cases E:T[i].1=p
  ·exact G.eqAgg 118 #[zI T[i].1.1,zS T[i].1.2] #[zI p.1,zS p.2] true kV kV kV (fun w=>by rw[<-decide_eq_true E];exact Bq.eq T[i].1 p w)<|G.r (zS (Ae T[i].2)) ⟨rfl,by rw[C,E]⟩
  refine G.eqAgg 118 #[zI T[i].1.1,zS T[i].1.2] #[zI p.1,zS p.2] false kV kV kV (fun w=>by rw[<-decide_eq_false E];exact Bq.eq T[i].1 p w)<|G.i i ?_;exact G.b (R (i+1) _ _ _ cV L ⟨oV,fun j m h=>by
   rcases (by omega:j<i\/j=i) with e|rfl
   ·exact h0 j m e
   exact E,rfl⟩ oV)
 obtain rfl:i=T.length:=oV;refine G.lF T.length T.length ?_;have W:F.s p=0:=I.out p fun U=>by
  obtain⟨x,V,e⟩:=A1b.1 U;obtain⟨j,m,rfl⟩:=A2y V;exact h0 j m m e
 exact G.r (zS [48]) ⟨rfl,by rw[W,Fz]⟩
def Afd (p q:Par)(h:No u v F K)(hK:K<=1000000):zF 54 [v,Ap p,Ap q] u fun r _=>r=zS (Ae (F.t (Ay p q))):=by
 obtain⟨T,Q,a1,c1,a2,c2,rfl,hT,hQ,cT,X,kT,kQ⟩:=h;refine Fn0.o func54 ?_;by_cases P:Bk q p<0
 ·rw[show Ay p q=(q,p) by unfold Ay;rw[if_pos ((Et.sym _ _).1 P)]];refine G.c call127 (Re q p true (decide_eq_true P)) ?_;rintro v0 u0 l0 rfl;refine G.l (ι:=Nat) (fun i=>[(4,.p 1 0),(5,.p 2 0),(15,sV a2 Q.length c2),(16,iV Q.length),(17,iV i)]) (fun _=>[(1,⟨118,[iV q.1,tV q.2]⟩),(2,⟨118,[iV p.1,tV p.2]⟩)])
   (fun i u' m'=>i<=Q.length/\(∀ j (E:j<Q.length),j<i->(Q[j]'E).1≠(q,p))/\m'=PH.mt) (fun i=>Q.length-i) 0 ⟨oV,fun j E h=>oV,rfl⟩ ?_
  rintro J i W u1 m1 V ⟨hi,h0,rfl⟩;by_cases H:i<Q.length
  ·refine G.lT i Q.length ?_;have R:Q[i]?=some Q[i]:=A01 H;have I:=(X.val _ (A09 H)).1;obtain⟨ba,oa,rfl,Y⟩:=Ac.at' (hQ.mono (l0.trans V)) (j:=i) (e:=D8 Q[i]) (by simp[R]);have m:Q[i].1≠(q,p)->∀ j (E:j<Q.length),j<i+1->(Q[j]'E).1≠(q,p):=fun U j E h=>by
    rcases (by omega:j<i\/j=i) with e|rfl
    ·exact h0 j E e
    exact U
   refine G.n Q.length c2 Y ?_;by_cases L:Q[i].1.1=q
   ·refine G.eqAgg 118 #[zI Q[i].1.1.1,zS Q[i].1.1.2] #[zI q.1,zS q.2] true kV kV kV (fun w=>by rw[<-decide_eq_true L];exact Bq.eq Q[i].1.1 q w) ?_;by_cases C:Q[i].1.2=p
    ·exact G.eqAgg 118 #[zI Q[i].1.2.1,zS Q[i].1.2.2] #[zI p.1,zS p.2] true kV kV kV (fun w=>by rw[<-decide_eq_true C];exact Bq.eq Q[i].1.2 p w)<|G.r (zS (Ae Q[i].2)) ⟨rfl,by rw[I,show Q[i].1=(q,p) from A6z L C]⟩
    exact G.eqAgg 118 #[zI Q[i].1.2.1,zS Q[i].1.2.2] #[zI p.1,zS p.2] false kV kV kV (fun w=>by rw[<-decide_eq_false C];exact Bq.eq Q[i].1.2 p w)<|G.i i<|G.b (W (i+1) _ _ _ cV V ⟨oV,m fun e=>C (congrArg Prod.snd e),rfl⟩ oV)
   exact G.eqAgg 118 #[zI Q[i].1.1.1,zS Q[i].1.1.2] #[zI q.1,zS q.2] false kV kV kV (fun w=>by rw[<-decide_eq_false L];exact Bq.eq Q[i].1.1 q w)<|G.i i<|G.b (W (i+1) _ _ _ cV V ⟨oV,m fun e=>L (congrArg Prod.fst e),rfl⟩ oV)
  obtain rfl:i=Q.length:=oV;refine G.lF Q.length Q.length ?_;have hz:F.t (q,p)=0:=X.out (q,p) fun Z=>by
   obtain⟨x,hx,e⟩:=A1b.1 Z;obtain⟨j,E,rfl⟩:=A2y hx;exact h0 j E E e
  exact G.r (zS [48]) ⟨rfl,by rw[hz,Fz]⟩
 rw[show Ay p q=(p,q) by unfold Ay;rw[if_neg fun e=>P ((Et.sym _ _).2 e)]];refine G.c call127 (Re q p false (decide_eq_false P)) ?_;rintro v0 u0 l0 rfl;refine G.l (ι:=Nat) (fun i=>[(4,.p 1 0),(5,.p 2 0),(15,sV a2 Q.length c2),(16,iV Q.length),(17,iV i)]) (fun _=>[(1,⟨118,[iV p.1,tV p.2]⟩),(2,⟨118,[iV q.1,tV q.2]⟩)])
  (fun i u' m'=>i<=Q.length/\(∀ j (E:j<Q.length),j<i->(Q[j]'E).1≠(p,q))/\m'=PH.mt) (fun i=>Q.length-i) 0 ⟨oV,fun j E h=>oV,rfl⟩ ?_
 rintro J i W u1 m1 V ⟨hi,h0,rfl⟩;by_cases H:i<Q.length
 ·refine G.lT i Q.length ?_;have R:Q[i]?=some Q[i]:=A01 H;have I:=(X.val _ (A09 H)).1;obtain⟨ba,oa,rfl,Y⟩:=Ac.at' (hQ.mono (l0.trans V)) (j:=i) (e:=D8 Q[i]) (by simp[R]);have m:Q[i].1≠(p,q)->∀ j (E:j<Q.length),j<i+1->(Q[j]'E).1≠(p,q):=fun U j E h=>by
   rcases (by omega:j<i\/j=i) with e|rfl
   ·exact h0 j E e
   exact U
  refine G.n Q.length c2 Y ?_;by_cases L:Q[i].1.1=p
  ·refine G.eqAgg 118 #[zI Q[i].1.1.1,zS Q[i].1.1.2] #[zI p.1,zS p.2] true kV kV kV (fun w=>by rw[<-decide_eq_true L];exact Bq.eq Q[i].1.1 p w) ?_;by_cases C:Q[i].1.2=q
   ·exact G.eqAgg 118 #[zI Q[i].1.2.1,zS Q[i].1.2.2] #[zI q.1,zS q.2] true kV kV kV (fun w=>by rw[<-decide_eq_true C];exact Bq.eq Q[i].1.2 q w)<|G.r (zS (Ae Q[i].2)) ⟨rfl,by rw[I,show Q[i].1=(p,q) from A6z L C]⟩
   exact G.eqAgg 118 #[zI Q[i].1.2.1,zS Q[i].1.2.2] #[zI q.1,zS q.2] false kV kV kV (fun w=>by rw[<-decide_eq_false C];exact Bq.eq Q[i].1.2 q w)<|G.i i<|G.b (W (i+1) _ _ _ cV V ⟨oV,m fun e=>C (congrArg Prod.snd e),rfl⟩ oV)
  exact G.eqAgg 118 #[zI Q[i].1.1.1,zS Q[i].1.1.2] #[zI p.1,zS p.2] false kV kV kV (fun w=>by rw[<-decide_eq_false L];exact Bq.eq Q[i].1.1 p w)<|G.i i<|G.b (W (i+1) _ _ _ cV V ⟨oV,m fun e=>L (congrArg Prod.fst e),rfl⟩ oV)
 obtain rfl:i=Q.length:=oV;refine G.lF Q.length Q.length ?_;have hz:F.t (p,q)=0:=X.out (p,q) fun Z=>by
  obtain⟨x,hx,e⟩:=A1b.1 Z;obtain⟨j,E,rfl⟩:=A2y hx;exact h0 j E E e
 exact G.r (zS [48]) ⟨rfl,by rw[hz,Fz]⟩
end
section
variable {p:Par}{q:Rat}
def Ao6 {d N:Nat}(e:Dn d N 1)(j:Dn d N q)(h:Dn d N (q*q)):CFD d N (CF.one1 p q) :=
 ⟨e,fun k=>by
  show Dn d N (Nh (fun _=>(0:Rat)) p q k);unfold Nh;split
  ·exact j
  ·exact Dn.zero _ _,fun k=>by
  show Dn d N (Nh (fun _=>(0:Rat)) (p,p) (q*q) k);unfold Nh;split
  ·exact h
  exact Dn.zero _ _⟩
def Ar0 (hp:PV p):CFV (CF.one1 p q) :=
 ⟨fun k h=>by
  have h:Nh (fun _=>(0:Rat)) p q k≠0:=h;unfold Nh at h;split at h
  ·subst_vars;exact hp
  ·exact absurd rfl h,fun k h=>by
  have h:Nh (fun _=>(0:Rat)) (p,p) (q*q) k≠0:=h;unfold Nh at h;split at h
  ·subst_vars
   exact⟨hp,hp,fun e=>by
   have e:0<Bk p p:=e;have:=(Et.sym _ _).2 e;omega⟩
  exact absurd rfl h⟩
def Hc.listP {u:PH}{g sz:Nat}{es:zV}(h:Hc u g 0 sz es):Ac u (zG g es.length es.length) sz es:=⟨_,_,rfl,A08 _,fun j e m=>⟨g,0,rfl,h j e m⟩⟩
def Sc {L:zW}(h:(L.all Hn&&decide L.Nodup)=true):Rc L:=by
 rw[A1m,A1o,decide_eq_true_iff]at h;exact⟨h.1,h.2⟩
end
section
variable {s:zB}{u:PH}{z:Int}
def Qe :zF 222 [zE] u fun v _=>v=zL:=by
 refine Fn0.o func222<|G.w [] [48] fV<|G.c call258 (Ux (s:=[]) (p:=[45])) ?_;rintro j h e rfl;exact G.q (Lib.trimPrefix [] [45]) [] rfl<|G.z zL
def Ah0 :zF 169 [zE] u fun v _=>v=zL:=by
 refine Fn0.o func169<|G.c call204 (Azn (T:=[]) mV) ?_;rintro C j e rfl;refine G.c call222 Qe ?_;rintro E m l2 rfl;refine G.c call222 Qe ?_;rintro F t h rfl;exact G.z zL
def Atf :zF 216 [zE] u fun v _=>v=.tuple #[zE,zE,zL]:=by
 refine Fn0.o func216<|G.c call169 Ah0 ?_;rintro j h e rfl;exact G.z (.tuple #[zE,zE,zL])
def Ahf :zF 217 [zE] u fun v _=>v=.tuple #[zO,zL]:=by
 refine Fn0.o func217<|G.c call222 Qe ?_;rintro j h e rfl;exact G.z (.tuple #[zO,zL])
def Ati {x:zB×Nat}(e:1<=x.2)(h:x.2<=3):zF 158 [D9 x,zE] u fun v _=>v=zT:=by
 obtain⟨s,k⟩:=x;simp only at e h;refine Fn0.o func158 ?_;rcases (by omega:k=1\/k=2\/k=3) with rfl|rfl|rfl
 ·exact G.eT (1:Nat) 1<|G.q [] [] rfl<|G.z zT
 ·refine G.eF (2:Nat) 1<|G.eT (2:Nat) 2<|G.c call216 Atf ?_;rintro C m j rfl;refine G.c call217 Ahf ?_;rintro E t l2 rfl;exact G.q [] [] rfl<|G.z zT
 exact G.eF (3:Nat) 1<|G.eF (3:Nat) 2<|G.eT (3:Nat) 3<|G.q [] [] rfl<|G.z zT
def Afp :Lib.itoa z≠[]:=by
 by_cases h:z<0
 ·rw[N2 h];simp
 rw[Lib.itoa,if_neg h];exact Gk _
def Awl (h:z.natAbs<=1000000000):zF 158 [D9 (s,1),zS (Lib.itoa z)] u fun v _=>v=zT:=by
 refine Fn0.o func158<|G.eT (1:Nat) 1<|G.w (Lib.itoa z) [] Afp<|G.c call215 (Afu h) ?_;rintro m j e rfl;exact G.z zT
def Awf {s t:zB}(h:Hn t=true):zF 158 [D9 (s,3),zS t] u fun v _=>v=zT:=by
 refine Fn0.o func158<|G.eF (3:Nat) 1<|G.eF (3:Nat) 2<|G.eT (3:Nat) 3<|G.w t [] (fun e=>by rw[e]at h;cases h)<|G.c call218 (Asw h) ?_;rintro C m j rfl;exact G.z zT
end
section
variable {i k:Nat}{s:zB}
section rules
variable {P:Program} [A6 P] {fn:Func} {Post:Ce} {st:List KI×S} {u m:PH}
def G.convBU (e:TypeId)(l:zB)(b n c:Nat)(h:Aj P (adv P st)=.conv (some (.slice e)) (some .string) (zG b n c))(U:P.underlying e=some (.int .u8))(Y:n=l.length)
 (T:Hc u b 0 1 (Bm l)) (k:G P fn Post (nx (adv P st) (zS l)) u m):G P fn Post st u m:=by
 refine G.ask h mV (fun L o t w hp=>?_) k;obtain⟨s,d,X,E,J,K,F⟩:=Ln t;obtain⟨I,Z,H,pos,after,C⟩:=o;simp only at E;subst E;have W:=(hp (by simp[Hr,Acg F mV])).1;subst Y;have:=run_convert_bytes_back (P:=P) w s d e ⟨b,0,none⟩ c l K U F (fun j V=>by
  have Q:=T j (.int .u8 (l[j].toNat:Int)) (by simp[Bm,V]);have R:=(Q 0 (.int .u8 (l[j].toNat:Int)) (by simp[Value.cells])).cell W;rw[Ed];simpa using R)
 simp[execOp,J,this]
end rules
def Zq (i:Nat):UInt8:=UInt8.ofNat (97+i)
def Wv (h:i<26):(Zq i).toNat=97+i:=by
 unfold Zq;rw[UInt8.toNat_ofNat'];omega
def S0 {u:PH}{p:zB}(hi:i<26)(hp:p.length<=1000):zF 182 [zS p,zI i] u fun v _=>v=zS (p++[Zq i]):=by
 refine Fn0.o func182<|G.remZ (i:Int) 26 (i:Int) kV oV oV (by rw[A47 oV];omega)<|G.p 97 i (97+i:Nat)<|G.convI .i64 .u8 .i64 (97+i:Nat) ((97+i:Nat):Int) kV ?_ ?_
 ·simp only[IntKind.wrap,IntKind.signed,IntKind.bits];simp;omega
 have h : [Value.int .u8 ((97+i:Nat):Int)]=Bm [Zq i]:=by unfold Bm;rw[A2u,Wv hi];rfl
 refine G.B 5 1 1 (.int .u8 0) [.int .u8 ((97+i:Nat):Int)] (by rw[h];exact Mj _) ?_;intro g t j e;rw[h]at e;exact G.convBU 5 [Zq i] g 1 1 kV kV rfl e<|G.addS p [Zq i] kV gV<|G.z _
def Ai7:zB:=[114,101,100]
def Qf:zB:=[103,114,101,101,110]
def Xg:zB:=[98,108,117,101]
def Ae7 (s:zB):Bool:=Hn s&&(s==Ai7||s==Qf||s==Xg)
def Azb (h:Ae7 s=true):Hn s=true:=by
 unfold Ae7 at h;rw[A1m]at h;exact h.1
def Avi (h:Ae7 s=true):s=Ai7\/s=Qf\/s=Xg:=by
 unfold Ae7 at h;simp only[A1m,A4b,beq_iff_eq]at h;rcases h.2 with (h|h)|h
 ·exact .inl h
 ·exact .inr (.inl h)
 exact .inr (.inr h)
def Rj (k:Nat)(s:zB):Prop:=s = []\/(k=3/\Hn s=true)\/(k=1/\∃ z:Int,z.natAbs<=1000000000/\s=Lib.itoa z)\/(k=2/\∃ q,SmW q/\s=Ae q)
def Zi (k:Nat)(s:zB):Prop:=s = []\/(k=3/\Ae7 s=true)\/(k=1/\∃ z:Int,z.natAbs<=1000000000/\s=Lib.itoa z)\/(k=2/\∃ q,SmR q/\s=Ae q)
def Zi.ok (h:Zi k s):Rj k s:=h.imp id (Or.imp (fun⟨e,h⟩=>⟨e,Azb h⟩) (Or.imp id fun⟨e,q,j,t⟩=>⟨e,q,j.w,t⟩))
def Gr {q:Rat}(h:Ae q=s)(e:SmR q):Zi 2 s:=.inr (.inr (.inr ⟨rfl,q,e,h.symm⟩))
def Tb {z:Int}(h:Lib.itoa z=s)(e:z.natAbs<=1000000000):Zi 1 s:=.inr (.inr (.inl ⟨rfl,z,e,h.symm⟩))
def Ant {u:PH}{s:Src}{ts:List Int}{x:zB×Nat}(h:J0 u s ts)(U:k<=s.n)(R:1<=x.2)(T:x.2<=3) :
 Ag prog 157 [s.ptr,D9 x] u (s.M k) fun v _ V=>∃ (t:zB) (Q:Nat),v=zS t/\Zi x.2 t/\Q<=s.n/\V=s.M Q:=by
 obtain⟨nm,H⟩:=x;simp only at R T⊢;refine Ag.o func157<|G.A call14 (I4 (n:=9) h U oV oV) ?_;rintro v1 u1 Z Y ⟨r,J,rfl,X,j,rfl⟩ _;rw[By];by_cases W:r=8
 ·exact G.eT r 8<|G.r zE ⟨[],J,rfl,.inl rfl,j,rfl⟩
 refine G.eF r 8 ?_;by_cases L:H=3
 ·subst L;refine G.eT (3:Nat) 3<|G.B 9 1 16 zE [zS Ai7,zS Qf,zS Xg] (G6 [Ai7,Qf,Xg]) ?_;intro g I l2 e;obtain⟨i,hi⟩:∃ i,i=r%3:=⟨_,rfl⟩;have C:i<3:=oV;refine G.remZ (r:Int) 3 (i:Int) kV oV oV (by rw[A47 oV];omega)<|G.a g 0 3 3 i 1 C ?_;obtain⟨t,E,F⟩:∃ t,ElP I g (0+i*1) (zS t)/\Ae7 t=true:=by
   rcases (by omega:i=0\/i=1\/i=2) with h|h|h
   ·rw[h];exact⟨Ai7,e 0 _ rfl,jV⟩
   ·rw[h];exact⟨Qf,e 1 _ rfl,jV⟩
   rw[h];exact⟨Xg,e 2 _ rfl,jV⟩
  exact G.g none E<|G.r (zS t) ⟨t,J,rfl,.inr (.inl ⟨rfl,F⟩),j,rfl⟩
 refine G.eF H 3 ?_;by_cases K:H=1
 ·subst K;refine G.eT (1:Nat) 1<|G.B 9 1 16 zE [zS [49],zS [50],zS [49,48]] (G6 [[49],[50],[49,48]]) ?_;intro g I l2 e;obtain⟨i,hi⟩:∃ i,i=r%3:=⟨_,rfl⟩;have C:i<3:=oV;refine G.remZ (r:Int) 3 (i:Int) kV oV oV (by rw[A47 oV];omega)<|G.a g 0 3 3 i 1 C ?_;obtain⟨t,E,F⟩:∃ t,ElP I g (0+i*1) (zS t)/\Zi 1 t:=by
   rcases (by omega:i=0\/i=1\/i=2) with h|h|h
   ·rw[h];exact⟨[49],e 0 _ rfl,Tb (z:=1) jV fV⟩
   ·rw[h];exact⟨[50],e 1 _ rfl,Tb (z:=2) jV fV⟩
   rw[h];exact⟨[49,48],e 2 _ rfl,Tb (z:=10) jV fV⟩
  exact G.g none E<|G.r (zS t) ⟨t,J,rfl,F,j,rfl⟩
 refine G.eF H 1 ?_;obtain rfl:H=2:=oV;refine G.B 9 1 16 zE [zS [48],zS [49],zS [45,50],zS [49,47,50],zS [51],zS [53,47,51],zS [49],zS [50]] (G6 [[48],[49],[45,50],[49,47,50],[51],[53,47,51],[49],[50]]) ?_;intro g I l2 e;refine G.a g 0 8 8 r 1 oV ?_;obtain⟨t,E,F⟩:∃ t,ElP I g (0+r*1) (zS t)/\Zi 2 t:=by
  rcases (by omega:r=0\/r=1\/r=2\/r=3\/r=4\/r=5\/r=6\/r=7) with h|h|h|h|h|h|h|h
  ·rw[h];exact⟨_,e 0 _ rfl,Gr (q:=0) jV ⟨jV,jV⟩⟩
  ·rw[h];exact⟨_,e 1 _ rfl,Gr (q:=1) jV ⟨jV,jV⟩⟩
  ·rw[h];exact⟨_,e 2 _ rfl,Gr (q:=-2) jV ⟨jV,jV⟩⟩
  ·rw[h];exact⟨_,e 3 _ rfl,Gr (q:=1/2) jV ⟨jV,jV⟩⟩
  ·rw[h];exact⟨_,e 4 _ rfl,Gr (q:=3) jV ⟨jV,jV⟩⟩
  ·rw[h];exact⟨_,e 5 _ rfl,Gr (q:=5/3) jV ⟨jV,jV⟩⟩
  ·rw[h];exact⟨_,e 6 _ rfl,Gr (q:=1) jV ⟨jV,jV⟩⟩
  rw[h];exact⟨_,e 7 _ rfl,Gr (q:=2) jV ⟨jV,jV⟩⟩
 exact G.g none E<|G.r (zS t) ⟨t,J,rfl,F,j,rfl⟩
end
def Ami {u:PH}{s:Src}{ts:List Int}{k:Nat}{v w x y:Value}{T:zC}(h:J0 u s ts)(hk:k<=s.n)(hT:Ac u v 2 (T.map D9))(hl:T.length<=1000)(a2:∀ a∈T,1<=a.2/\a.2<=3)(hw:∃ a n c,w=.slice a n c)(hx:∃ a n c,x=.slice a n c)(hy:∃ z:Int,y=zI z) :
 Ag prog 87 [s.ptr,.agg #[v,w,x,y]] u (s.M k) fun r u' m'=>∃ (ss:zW) (k':Nat),Ac u' r 1 (ss.map nmV)/\ss.length=T.length/\(∀ (i:Nat) (x:zB×Nat) (t:zB),T[i]?=some x->ss[i]?=some t->Zi x.2 t)/\k'<=s.n/\m'=s.M k':=by
 obtain⟨a,c,rfl⟩:=hT.opn;obtain⟨wa,wn,wc,rfl⟩:=hw;obtain⟨xa,xn,xc,rfl⟩:=hx;obtain⟨z,rfl⟩:=hy;rw[A03]at hT⊢;refine Ag.o func87<|G.l (ι:=Nat×Nat×zW×(zP×Nat)) (fun i=>[(0,.v s.ptr),(5,sV i.2.2.2.1 i.2.2.1.length i.2.2.2.2),(9,sV a T.length c),(10,iV T.length),(11,iV i.1)]) (fun _=>[])
  (fun i u' m'=>i.1<=T.length/\i.2.1<=s.n/\i.2.2.1.length=i.1/\(∀ (j:Nat) (x:zB×Nat) (t:zB),T[j]?=some x->i.2.2.1[j]?=some t->Zi x.2 t)/\Bag m' [s.arr i.2.1,Ajq i.2.2.2.1 i.2.2.2.2 i.2.2.1])
  (fun i=>T.length-i.1) (0,k,[],(none,0))
  ⟨A1t _,hk,rfl,fun j x t _ ht=>by simp at ht,s.bag0 k ⟨PH.mt,Af.nil _ _ _,trivial⟩⟩ ?_
 rintro J ⟨i,k1,ss,⟨na,nc⟩⟩ hJ u1 m1 l1 ⟨hi,Q,U,V,E⟩;simp only at hi Q U V E hJ;obtain⟨m0,Y,hL⟩:=E;obtain⟨rfl,P⟩:=Src.split Y;by_cases R:i<T.length
 ·refine G.lT i T.length ?_;have I:T[i]?=some T[i]:=A01 R;obtain⟨F,H⟩:=a2 T[i] (A09 R);obtain⟨ba,oa,rfl,ea⟩:=Ac.at' (hT.mono l1) (j:=i) (e:=D9 T[i]) (by simp[I]);generalize T[i]=q at ea I F H;refine G.N T.length c R ea<|G.D call157 (Src.apart P) (Ant (x:=q) (h.mono l1) Q F H) ?_;rintro v2 u2 m2 l2 ⟨t,k2,rfl,hv,a1,rfl⟩ _;refine G.B 9 1 16 zE [zS t] (G6 [t]) ?_;intro g3 u3 l3 e3;have K:Bag (m0.or (s.M k2)) [s.arr k2,Ajq na nc ss]:=⟨m0,Src.at P,hL⟩;obtain⟨mm,Z,X⟩:=K.focus 1 rfl;rw[Ak3]at Z;refine G.k 9 1 16 zE mm (ss.map nmV) [zS t] (.slice na ss.length nc) g3 0 1 1 Z e3 (G6 [t]) ?_;intro v4 m4 C;rw[show ss.map nmV++[zS t]=(ss++[t]).map nmV by rw[A1i];rfl]at C;obtain⟨a4,c4,rfl⟩:=C.shape;rw[A03]at C⊢;have L:=X (Ajq a4 c4 (ss++[t])) m4 C;refine G.i i<|G.b (hJ (i+1,k2,ss++[t],(a4,c4)) _ _ _ cV ((l1.trans l2).trans l3) ⟨dV,a1,by dsimp only;simp[U],?_,L⟩ dV);intro j x' t' W m;dsimp only at m;rcases A2e j ss.length with hj|hj
  ·rw[A1r hj]at m;exact V j x' t' W m
  rw[A18 hj]at m;have a0:j-ss.length=0:=by
   obtain⟨h',_⟩:=A05.1 m;simp at h';omega
  rw[a0]at m;obtain rfl:j=i:=oV;rw[I]at W;cases W;simp at m;subst m;exact hv
 obtain rfl:i=T.length:=oV;refine G.lF T.length T.length<|G.giveP (ma:=m0) (sm:=s.M k1) kV rfl (Src.apart P) (s.h0 k k1) ?_;intro u2 l2 hm;exact G.r (.slice na ss.length nc) ⟨ss,k1,hL.list hm 0 rfl,U,V,Q,rfl⟩
end Go.Proofs.YtemmheaocgmebaaGreatDoor
