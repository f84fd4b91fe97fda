/- Parts of one proof, joined by a program. -/
import Derived.Test.YtdgncafgglafjaaGreatDoorQ05
import Derived.MapKept
import Derived.Laws.IdiomRangeMap
import Derived.Laws.StructEq
import Derived.ChangeKeysEq
import Derived.RangeFuncSeq
import Derived.RangeFuncGives
import Derived.Maps.AppendAt
import Derived.Shelf.Abstract
import Derived.Shelf.AbstractIn
import Derived.Sort.MapsRangeIn
import Derived.WalkKit
import Derived.OwnWalkIn
import Derived.TacticsInMore
import Derived.RegionIn
import Derived.LoopNIn
import Derived.LoopIn
import Derived.Shelf.SlIter.Collect
import Derived.Shelf.SlSortCmp.WholeK
import Derived.Ground.SlsfProg
import Derived.Test.YtdgncafgglafjaaGreatDoorProg
set_option linter.defProp false
set_option linter.unusedVariables false
set_option linter.unusedSimpArgs false
set_option linter.unusedSectionVars false
set_option maxHeartbeats 16000000
namespace Go.Proofs.YtdgncafgglafjaaGreatDoor
open Go.Proofs.Tryz
open Go.RowKit Go.MapKept
def A6i:=@Array.eq_empty_of_size_eq_zero
def A2b:=@List.mem_iff_getElem
def A99:=@Int.tmod_lt_of_pos
def Baa:=@Int.lt_tmod_of_pos
def A8p:=@List.pairwise_map
def A2v:=@List.getElem?_cons_succ
def A3z:=@Bool.false_eq_true
def A38:=@List.map_nil
def A6o:=@Array.getElem?_toList
def A75:=@Array.getElem?_modify
def A9m:=@UInt8.lt_iff_toNat_lt
def A56:=@Prod.ext
def A5j:=@List.pairwise_cons
def A4c:=@List.getElem?_range
def A88:=@Rat.natCast_inj
def A44:=@Rat.intCast_add
def A4e:=@Rat.natCast_mul
def A32:=@Rat.zero_mul
def A1f:=@Rat.intCast_natCast
def Bad:=@Int.ofNat_le
def A7e:=@Rat.mul_inv_cancel
def A39:=@Rat.add_comm
def Bae:=@Array.ext_getElem?
def K0.opn {u:PH}{v:Value}{cs:List (List Int)}(h:K0 u v cs):∃ a c,v=.slice a cs.length c:=LP.opn h
def Vk.opn {u:PH}{v:Value}{cs:List Int}(h:Vk u v cs):∃ a c,v=.slice a cs.length c:=LP.opn h
theorem Au6 {u:PH}{v:Value}{D K:Nat}{cs:List (List Int)}(ht:Ls u)(h:Axx u v D cs)(hK:K<=400)(hD:Lib.nDigits D<=K)(hc:∀ r∈cs,∀ z∈r,Lib.nDigits z.natAbs<=K)(hl:cs.length<=1000000)(hl2:∀ r∈cs,r.length<=1000000) :
 Fn0 prog 172 [v] u fun v' _=>∃ n:Nat,v'=.int .i64 (n:Int)/\n<=K:=by
 obtain⟨b,a,n,c,a',n',c',rfl,h1,h2⟩:=h;obtain⟨a'',c'',e⟩:=h2.opn;simp only[Value.slice.injEq]at e;obtain⟨rfl,rfl,rfl⟩:=e;refine Fn0.o func172 ?_;refine G.c call121 (Mg ht h1 (by rw[A1e];exact A0l (Bh oV) oV)) ?_;rintro v1 u1 l1 rfl;rw[A1e];refine G.l (ι:=Nat×Nat) (fun i=>[(1,.p 0 0),(3,iV i.2),(12,sV a' cs.length c'),(13,iV cs.length),(14,iV i.1)])
  (fun i=>[(0,⟨181,[bV b,sV a n c,sV a' cs.length c']⟩)])
  (fun i u' m'=>i.1<=cs.length/\i.2<=K/\m'=PH.mt) (fun i=>cs.length-i.1) (0,Lib.nDigits D) ⟨A1c _,hD,rfl⟩ ?_
 rintro J ⟨i,k⟩ hJ u2 m2 l2 ⟨hi,hk,rfl⟩;simp only at hi hk hJ;by_cases hlt:i<cs.length
 ·refine G.lT (i:Int) (cs.length:Int) ?_;have hti:cs[i]?=some cs[i]:=A0i hlt;have hmem:=A0y hlt;obtain⟨b3,o3,e3,rfl,h3,f3⟩:=LP.at (h2.mono (l1.trans l2)) hti;obtain⟨a4,c4,rfl⟩:=f3.opn;refine G.a b3 o3 cs.length c' i 1 hlt ?_;refine G.lU none b3 (o3+i*1) _ h3 ?_;refine G.l (ι:=Nat×Nat) (fun j=>[(1,.p 0 0),(3,iV j.2),(12,sV (some ⟨b3,o3,none⟩) cs.length c'),(13,iV cs.length),(14,iV i),(18,sV a4 cs[i].length c4),(19,iV (cs[i].length)),(20,iV j.1)])
   (fun j=>[(0,⟨181,[bV b,sV a n c,sV (some ⟨b3,o3,none⟩) cs.length c']⟩)])
   (fun j u' m'=>j.1<=cs[i].length/\j.2<=K/\m'=PH.mt) (fun j=>cs[i].length-j.1) (0,k) ⟨A1c _,hk,rfl⟩ ?_
  rintro J2 ⟨j,k2⟩ hJ2 u5 m5 l5 ⟨hj,hk2,rfl⟩;simp only at hj hk2 hJ2;have hrl:=hl2 _ hmem;by_cases hlt2:j<cs[i].length
  ·refine G.lT (j:Int) (cs[i].length:Int) ?_;have htj:cs[i][j]?=some cs[i][j]:=A0i hlt2;have hzm:=hc _ hmem _ (A0y hlt2);obtain⟨b6,o6,e6,rfl,h6,f6⟩:=LP.at (f3.mono l5) htj;obtain⟨b7,a7,n7,c7,rfl⟩:=f6.opn;refine G.a b6 o6 cs[i].length c4 j 2 hlt2 ?_;refine G.lU (some 2) b6 (o6+j*2) _ h6 ?_;refine G.c call121 (Mg (ht.mono ((l1.trans l2).trans l5)) f6 (A0l (Bh oV) oV)) ?_;rintro v8 u8 l8 rfl;generalize Lib.nDigits (cs[i][j]).natAbs=d at *
   refine G.maxI [3,3] (k2:Int) (d:Int) ((max k2 d:Nat):Int) kV oV ?_;refine G.i j ?_;exact G.b (hJ2 (j+1,max k2 d) _ _ _ cV (l5.trans l8) ⟨dV,dV,rfl⟩ dV)
  ·refine G.lF (j:Int) (cs[i].length:Int) ?_;refine G.i i ?_;exact G.b (hJ (i+1,k2) _ _ _ cV (l2.trans l5) ⟨dV,hk2,rfl⟩ dV)
 ·refine G.lF (i:Int) (cs.length:Int) ?_;exact G.r (.int .i64 (k:Int)) ⟨rfl,k,rfl,hk⟩
def Aq5 {u:PH}{v:Value}{A:List (List Rat)}{L K N:Nat}(ht:Ls u)(h:Fm u v (Dv A))(hT:∀ r∈A,∀ q∈r,Tx q)(hl:A.length<=N)(H:∀ r∈A,r.length<=N)(hN:N<=12)(R:N*K<=600)(hK:K<=400)
 (hL:∀ r∈A,∀ q∈r,q.den ∣ L) (P:0<L) (Q:nl L<=1000000000) (Z:∀ D:Nat,D ∣ L->0<D->Lib.nDigits D<=K/\∀ r∈A,∀ q∈r,q.den ∣ D->Lib.nDigits (q.num*((D/q.den:Nat):Int)).natAbs<=K) :
 Fn0 prog 95 [v] u fun v' _=>v'=.bool false:=by
 have I:=fun (v:Value) (O:PH) (hv:Fm O v (Dv A))=>Aky hv hT oV (fun r J=>by have:=H r J;omega) hL P Q;obtain⟨a,c,rfl⟩:=h.opn;rw[Bs]at h⊢;have m:=fun (O:PH) (x:Value) (D:Nat) (T:Ls O) (hx:Axx O x D (A.map (Bl D))) (Y:D ∣ L) (h0:0<D) (h2:∀ r∈A,∀ q∈r,q.den ∣ D) =>
  Au6 (K:=K) T hx hK (Z D Y h0).1 (fun r J z hz=>by
   obtain⟨g,j,rfl⟩:=A0r.1 J;obtain⟨q,hq,rfl⟩:=A0r.1 hz;exact (Z D Y h0).2 g j q hq (h2 g j q hq)) (by rw[A0k];omega) (fun r J=>by
   obtain⟨g,j,rfl⟩:=A0r.1 J;rw[Bl,A0k];have:=H g j;omega)
 refine Fn0.o func95 ?_;by_cases t:0<A.length
 ·refine G.gT A.length 0 ?_;have U:A[0]?=some A[0]:=A0i t;have a0:=H _ (A0y t);obtain⟨W,oa,a',c',rfl,X,es⟩:=h.row (Em U);rw[A0k]at X;generalize A[0].length=g at *
  refine G.a W oa A.length c 0 1 oV<|G.lU none W (oa+0*1) (.slice a' g c') X<|G.maxI [3,3] (A.length:Int) (g:Int) ((max A.length g:Nat):Int) kV oV<|G.c call97 (I _ _ h) ?_;rintro v1 u1 V ⟨D,C,E,F,d⟩;have e:=d;obtain⟨x1,x2,x3,x4,x5,x6,x7,rfl,_,_⟩:=d;refine G.c call172 (m _ _ D (ht.mono V) e E C F) ?_;rintro v2 u2 l2 ⟨n,rfl,hn⟩;have hm:max A.length g*n<=600:=A0l (A2p (by omega:max A.length g<=N) hn) R;exact G.mul ((max A.length g:Nat):Int) (n:Int) ((max A.length g*n:Nat):Int) kV (by push_cast;rfl) oV oV<|G.gF (max A.length g*n:Nat) 600<|G.r (.bool false) ⟨rfl,rfl⟩
 refine G.gF A.length 0<|G.c call97 (I _ _ h) ?_;rintro v1 u1 V ⟨D,C,E,F,d⟩;have e:=d;obtain⟨x1,x2,x3,x4,x5,x6,x7,rfl,_,_⟩:=d;refine G.c call172 (m _ _ D (ht.mono V) e E C F) ?_;rintro v2 u2 l2 ⟨n,rfl,hn⟩;have h0:A.length=0:=oV;exact G.mul (A.length:Int) (n:Int) 0 kV (by rw[h0];simp) oV oV<|G.gF 0 600<|G.r (.bool false) ⟨rfl,rfl⟩
structure Aze (A:List (List Rat))(L K:Nat):Prop where
 den:∀ r∈A,∀ q∈r,q.den ∣ L
 pos:0<L
 nl:nl L<=1000000000
 dig:∀ D:Nat,D ∣ L->0<D->Lib.nDigits D<=K/\∀ r∈A,∀ q∈r,q.den ∣ D->Lib.nDigits (q.num*((D/q.den:Nat):Int)).natAbs<=K
section
variable [Cj] [Dd] [Pu]
structure Arr where
 v:Value
 t:TypeId
 sz:Nat
 es:List Value
def Arr.At (a:Arr)(m0 m:PH):Prop:=Af m0 m a.v a.t a.sz a.es
def Bag:PH->List Arr->Prop
 |_,[]=>True
 |m,a::l=>∃ m0,a.At m0 m/\Bag m0 l
def Jo (m:PH){g h:Nat}(o p:Obj)(j:g≠h):(m.upd g o).upd h p=(m.upd h p).upd g o:=by
 funext k
 unfold PH.upd;by_cases d:k=g
 ·subst d;simp[j]
 by_cases e:k=h
 ·subst e;simp[d]
 simp[d,e]
def At.swap {x y:Arr}{m0 m1 m:PH}(T:y.At m1 m)(R:x.At m0 m1):∃ U,y.At m0 U/\x.At U m/\∀ (Q:Arr) J,Q.At U J->∃ O,y.At O J/\Q.At m0 O:=by
 obtain⟨F,T⟩:=T;rcases T with ⟨y1,y2,rfl⟩|⟨h,cap,rest,y1,rfl,y2,y3,y4,K⟩
 ·exact⟨m0,⟨F,.inl ⟨y1,y2,rfl⟩⟩,R,fun Q J d=>⟨J,⟨F,.inl ⟨y1,y2,rfl⟩⟩,d⟩⟩
 obtain⟨ox,R⟩:=R;rcases R with ⟨V,W,rfl⟩|⟨g,L,H,V,rfl,W,x3,x4,x5⟩
 ·refine⟨_,⟨F,.inr ⟨h,cap,rest,y1,rfl,y2,y3,y4,K⟩⟩,⟨ox,.inl ⟨V,W,rfl⟩⟩,fun Q J d=>?_⟩;obtain⟨E,d⟩:=d;rcases d with ⟨z,I,rfl⟩|⟨N,n,j,z,rfl,I,X,Y,Z⟩
  ·exact⟨_,⟨F,.inr ⟨h,cap,rest,y1,rfl,y2,y3,y4,K⟩⟩,⟨E,.inl ⟨z,I,rfl⟩⟩⟩
  have t:N≠h:=fun e=>by subst e;rw[Ac]at z;cases z
  rw[Ad _ _ t]at z;refine⟨_,⟨F,.inr ⟨h,cap,rest,?_,Jo _ _ _ t.symm,y2,y3,y4,K⟩⟩,⟨E,.inr ⟨N,n,j,z,rfl,I,X,Y,Z⟩⟩⟩;rw[Ad _ _ t.symm];exact y1
 have t:h≠g:=fun e=>by subst e;rw[Ac]at y1;cases y1
 rw[Ad _ _ t]at y1;refine⟨_,⟨F,.inr ⟨h,cap,rest,y1,rfl,y2,y3,y4,K⟩⟩,⟨ox,.inr ⟨g,L,H,?_,Jo _ _ _ t.symm,W,x3,x4,x5⟩⟩,fun Q J d=>?_⟩
 ·rw[Ad _ _ t.symm];exact V
 obtain⟨E,d⟩:=d;rcases d with ⟨z,I,rfl⟩|⟨N,n,j,z,rfl,I,X,Y,Z⟩
 ·exact⟨_,⟨F,.inr ⟨h,cap,rest,y1,rfl,y2,y3,y4,K⟩⟩,⟨E,.inl ⟨z,I,rfl⟩⟩⟩
 have C:N≠h:=fun e=>by subst e;rw[Ac]at z;cases z
 rw[Ad _ _ C]at z;refine⟨_,⟨F,.inr ⟨h,cap,rest,?_,Jo _ _ _ C.symm,y2,y3,y4,K⟩⟩,⟨E,.inr ⟨N,n,j,z,rfl,I,X,Y,Z⟩⟩⟩;rw[Ad _ _ C.symm];exact y1
def Bag.focus:∀ {l:List Arr} {m:PH} (_:Bag m l) (i:Nat) {x:Arr},l[i]?=some x->∃ m0,x.At m0 m/\∀ (e:Arr) h,e.At m0 h->Bag h (l.set i e)
 |[],m,_,i,x,hi=>by simp at hi
 |y::l,m,⟨m1,hy,hl⟩,0,x,hi=>by
  simp at hi;subst hi;exact⟨m1,hy,fun e h d=>⟨m1,d,hl⟩⟩
 |y::l,m,⟨m1,hy,hl⟩,i+1,x,hi=>by
  simp at hi;obtain⟨m0,z,g⟩:=Bag.focus hl i hi;obtain⟨H,C,n,t⟩:=At.swap hy z;refine⟨H,n,fun e h d=>?_⟩;obtain⟨j,E,F⟩:=t e h d;exact⟨j,E,g e j F⟩
def Bag.el {l:List Arr}{m:PH}(h:Bag m l)(i:Nat){x:Arr}(g:l[i]?=some x){b n c j:Nat}{e:Value}(z:x.v=.slice (some ⟨b,0,none⟩) n c)(t:x.es[j]?=some e):ElP m b (0+j*x.sz) e:=by
 obtain⟨m0,d,_⟩:=h.focus i g;unfold Arr.At at d;rw[z]at d;exact d.el t
def Bag.shape {l:List Arr}{m:PH}(h:Bag m l)(i:Nat){x:Arr}(d:l[i]?=some x):∃ a c,x.v=.slice a x.es.length c:=by
 obtain⟨m0,e,_⟩:=h.focus i d;exact e.shape
def Bag.ptr {l:List Arr}{m:PH}(h:Bag m l)(i:Nat){x:Arr}(d:l[i]?=some x)(e:x.es≠[]):∃ b c,x.v=.slice (some ⟨b,0,none⟩) x.es.length c:=by
 obtain⟨m0,g,_⟩:=h.focus i d;exact g.ptr e
def Af.join {m mc:PH}{v:Value}{t:TypeId}{sz:Nat}{es:List Value}(h:Af PH.mt mc v t sz es)(I:∀ g,mc g≠none->m g=none):Af m (m.or mc) v t sz es:=by
 obtain⟨C,h⟩:=h;rcases h with ⟨n,d,rfl⟩|⟨g,cap,rest,n,rfl,d,E,F,H⟩
 ·refine⟨C,.inl ⟨n,d,?_⟩⟩
  funext k;unfold PH.or;split
  ·rename_i o e;rw[e]
  rename_i e;rw[e];rfl
 have z:m g=none:=I g (by rw[Ac];simp);refine⟨C,.inr ⟨g,cap,rest,z,?_,d,E,F,H⟩⟩
 funext k
 by_cases j:k=g
 ·subst j;rw[Ac,PH.or_r z,Ac]
 rw[Ad _ _ j];unfold PH.or;split
 ·rename_i o e;rw[e]
 rename_i e;rw[e,Ad _ _ j];rfl
section rules
variable {P:Program} [A6 P] {fn:Func} {Post:Ca} {st:List KI×S} {u m:PH}
def G.callO (f:Nat)(args:List Value){R:Value->PH->PH->Prop}(h:Ak P (adv P st)=.call f args)(W:∀ args w,(callFunc f args).run P w=.ok (.enter f args) w)(c:Ah P f args u PH.mt R)
 (k:∀ v d mc,PH.le u d->R v d mc->(∀ g,mc g≠none->m g=none)->G P fn Post (nx (adv P st) v) d (m.or mc)):G P fn Post st u m:=by
 refine G.big (K:=fun v d H=>∃ mc,H=m.or mc/\R v d mc/\∀ g,mc g≠none->m g=none) h mV Dh (.inl fun v d H U=>?_) (fun O o n w j=>?_) (fun v d H Q T=>?_)
 ·obtain⟨mc,rfl,_⟩:=U;exact fun g o C=>PH.or_l C
 ·refine Hf n W w _ (Calls.mono (c w j.noM) fun e w' X=>?_);obtain⟨v,d,mc,J,L,I,N⟩:=X;have t:m.or PH.mt=m:=by
   funext g;unfold PH.or;split
   ·rename_i o e;rw[e]
   rename_i e;rw[e];rfl
  have z:∀ g,mc g≠none->m g=none:=fun g C=>by
   rcases A16 g w.heap.size with F|E
   ·exact absurd (I.ms g F rfl) C
   exact j.pm.none E
  obtain⟨g1,g2⟩:=Ci.frameM (mf:=m) (mc:=PH.mt) (by rw[t];exact j) (fun _=>.inr rfl) L I;rw[t]at g2;exact⟨v,J,d,m.or mc,g1,g2,mc,rfl,N,z⟩
 obtain⟨mc,rfl,V,Y⟩:=T;exact k v d mc Q V Y
end rules
end
section
def Z8 {sz:Nat}{es:List Value}(h:Bm sz es)(k:Nat):(Bb es).take (k*sz)=Bb (es.take k):=by
 by_cases j:k<=es.length
 ·have e:Bb es=Bb (es.take k)++Bb (es.drop k):=by rw[<-Fa,A4g]
  have d:(Bb (es.take k)).length=k*sz:=by rw[B7 (sz:=sz) (fun x g=>h x (A23 g)),A0q];congr 1;omega
  rw[e,A47 oV,<-d,A05]
 rw[A00 (by rw[B7 h];exact A1x _ oV),A00 oV]
section rules
variable {P:Program} [A6 P] {fn:Func} {Post:Ca} {st:List KI×S} {u m:PH}
end rules
end
section
variable {q:Rat}
def sg (q:Rat):Int:=if q<0 then -1 else if 0<q then 1 else 0
theorem Acx (h:0<q):sg q=1:=by unfold sg;rw[if_neg (by grind),if_pos h]
def Aws (h:q<0):sg q = -1:=by unfold sg;rw[if_pos h]
def Avn:sg 0=0:=by simp[sg]
theorem Aqj (q:Rat):(q<0/\sg q = -1)\/(q=0/\sg q=0)\/(0<q/\sg q=1):=by
 by_cases h:q<0
 ·exact .inl ⟨h,Aws h⟩
 by_cases d:0<q
 ·exact .inr (.inr ⟨d,Acx d⟩)
 have:q=0:=by grind
 exact .inr (.inl ⟨this,by rw[this];exact Avn⟩)
end
def gR (l:List Rat)(i:Nat):Rat:=l.getD i 0
def gM (M:List (List Rat))(i:Nat):List Rat:=M.getD i []


section
variable {a:Option Addr}{es:List Value}{i j k:Nat}{l:List Rat}{q r:Rat}
section rules
variable {P:Program} [A6 P] {fn:Func} {Post:Ca} {st:List KI×S} {u m:PH}
def Ae3 {g:BinOp}{a b:Option Addr}{n c e d:Nat}(t:TypeId)(X Y:Operand)(w:World):(eqGuard g t X Y (.slice a n c) (.slice b e d)).run P w=.ok () w:=by
 unfold eqGuard;split<;>simp
def G.nilF (e:TypeId)(a:Addr)(n c:Nat)(h:Ak P (adv P st)=.binT .eql (some (.slice e)) (.slice (some a) n c) (.slice none 0 0))(k:G P fn Post (nx (adv P st) (.bool false)) u m):G P fn Post st u m:=by
 refine G.ask h mV (fun K o d w _=>?_) k;obtain⟨t,X,Y,N,C,H,I,J⟩:=Lg d;obtain⟨F,L,E,pos,g,z⟩:=o;simp only at C;subst C;have:(Op.equal t (.slice (some a) n c) (.slice none 0 0)).run P w=.ok false w:=by
  unfold Op.equal;rw[show Op.maxDepth=9999+1 from rfl,Op.equalIn];simp[run_underlying J]
 simp[execOp,H,I,Ae3,binOp,this]
def G.build0 (e:TypeId)(sz R:Nat)(z:Value)(h:Ak P (adv P st)=.buildS (some (e,sz,R,z)) 0 [])(k:∀ g d,Af m d (.slice (some ⟨g,0,none⟩) 0 0) e sz []->G P fn Post (nx (adv P st) (.slice (some ⟨g,0,none⟩) 0 0)) u d):G P fn Post st u m:=by
 refine G.big (K:=fun Q L d=>L=u/\PH.le m d/\∃ g,Q=.slice (some ⟨g,0,none⟩) 0 0/\Af m d (.slice (some ⟨g,0,none⟩) 0 0) e sz []) h mV (fun F op hv=>?_) (.inl fun v L d C=>C.2.1) (fun F o n w I=>?_) (fun Q L d Y C=>?_)
 ·obtain⟨t,qs,rfl,_⟩:=Ef hv;rfl
 ·obtain⟨t,qs,N,V,W⟩:=Ef n;obtain⟨T,a0,O,pos,E,H⟩:=o;simp only at N;subst N;obtain⟨Z,i,J,X,rfl,rfl⟩:=Dw W;obtain⟨g1,g2,g3,g4⟩:=I.newM (cs:=#[]) (t:=e) mV;refine B0 (w':=w.alloc (.cells #[] e (0,0))) (v:=.slice (some ⟨w.heap.size,0,none⟩) 0 0) ?_ ⟨u,_,g1,g2,rfl,I9 _ g3,_,rfl,fun _ h=>absurd h mV,.inr ⟨w.heap.size,0,[],g3,rfl,rfl,A0s _,by simp[Bb],mV⟩⟩;simp only[execOp,V];have U:∀ f:Nat->Value,Array.map f (Array.range 0) = #[]:=fun f=>by apply A6i;simp
  simp[Instr.buildSlice,run_underlying Z,sizeOf,typeInfo,J,newRow,Instr.fill,U]
 obtain⟨rfl,_,g,rfl,C⟩:=C;exact k g d C
end rules
def Ab.take' {u:PH}{n c sz:Nat}(h:Ab u (.slice a n c) sz es)(k:Nat)(z:k<=es.length):Ab u (.slice a k c) sz (es.take k):=by
 obtain⟨C,E,g,F,t⟩:=h;simp only[Value.slice.injEq]at g;obtain⟨rfl,_,rfl⟩:=g;refine⟨a,c,by rw[A0q,A3o z],by rw[A0q];omega,fun j e d=>?_⟩;rw[A3f]at d;split at d
 ·exact t j e d
 cases d
def AtP.at {α:Type}{R:PH->Value->α->Prop}{u:PH}{xs:List α}(h:AtP R u es xs)(d:j<xs.length):∃ e,es[j]?=some e/\R u e xs[j]:=h.2 j _ (A0i d)
def AtP.ok4 {u:PH}{qs:List Rat}(h:AtP A9 u es qs):Bm 4 es:=by
 intro e t;obtain⟨j,g,rfl⟩:=A2b.1 t;obtain⟨z,d,n⟩:=h.2 j (qs[j]'(by rw[<-h.1];exact g)) (A0i _);rw[A0i g]at d;rw[A2k d];exact n.ok _ mV
def E7 (h:i<l.length):gR l i=l[i]:=by simp[gR,h]
def V4 (h:i<l.length):gR l i∈l:=by rw[E7 h];exact A0y h
theorem Acd (q:Rat):sgn q.num=sg q:=by
 rcases Aqj q with ⟨h,e⟩|⟨h,e⟩|⟨h,e⟩
 ·rw[e];refine En ?_;have:¬ (0<=q.num):=fun d=>by have:=Rat.num_nonneg.1 d;grind
  omega
 ·subst h;rw[e];rfl
 rw[e];refine Db ?_;have g:0<=q.num:=Rat.num_nonneg.2 (by grind);have n:q.num≠0:=fun d=>by have:=A4d.1 d;grind
 omega
def Qd {z:Int}(h:z.natAbs<1000000000):Sz (z:Rat) 1:=⟨A8 (by simpa using h),A8 mV⟩
def Alu (h:Sz q j)(d:Sz r k):Sz (q+r) (j+k+1):=by
 rw[<-Vd q r];have g:=Gp q.num.natAbs r.den;have n:=Gp r.num.natAbs q.den;have t:=Gp q.den r.den;have z:=Arx (q.num.natAbs*r.den) (r.num.natAbs*q.den);have e:(q.num*(r.den:Int)+r.num*(q.den:Int)).natAbs<=q.num.natAbs*r.den+r.num.natAbs*q.den:=by
  refine A0l (Int.natAbs_add_le _ _) ?_;rw[A2t,A2t];simp
 have C:=Cl e;have:=h.1;have:=h.2;have:=d.1;have:=d.2;exact Oq (Agf q r) oV (by rw[A2t];simp only[A1e];omega)
def Axm (h:Sz q k):Sz (-q) k:=⟨by rw[A9e,A26];exact h.1,by rw[A9f];exact h.2⟩
def Alg (h:Sz q j)(d:Sz r k):Sz (q-r) (j+k+1):=by
 rw[A7b];exact Alu h (Axm d)
def Kp (h:Sz q j)(d:Sz r k):Sz (q*r) (j+k):=by
 rw[<-Ada q r];have e:=Gp q.num.natAbs r.num.natAbs;have g:=Gp q.den r.den;have:=h.1;have:=h.2;have:=d.1;have:=d.2;exact Oq (Agf q r) (by rw[A2t];omega) (by rw[A2t];simp only[A1e];omega)
end
section
variable {M:List (List Rat)}{q:Rat}
def Bag.perm {l g:List Arr}(h:l.Perm g):∀ {m:PH},Bag m l->Bag m g:=by
 induction h with
 |nil=>exact fun h=>h
 |cons x _ ih=>exact fun⟨m0,d,e⟩=>⟨m0,d,ih e⟩
 |swap x y l =>
  rintro m ⟨H,z,m0,u,t⟩;obtain⟨F,C,E,_⟩:=At.swap z u;exact⟨F,E,m0,C,t⟩
 |trans _ _ d e=>exact fun h=>e (d h)
section bag
variable {o:Arr} {rows:List (Value×List Value)} {rest:List Arr} {i j n:Nat} {r r':Value×List Value} {x x':Arr}
end bag
def I4 {i j:Nat}{q:List Rat}(d:i<M.length):gM (M.set i q) j=if i=j then q else gM M j:=by
 unfold gM;simp only[A0j,A2g];split
 ·rename_i e;subst e;simp
 rfl
def SzM (M:List (List Rat))(k:Nat):Prop:=∀ i j,i<M.length->j<(gM M i).length->Sz (gR (gM M i) j) k
def SzM.mono {M:List (List Rat)}{j k:Nat}(h:SzM M j)(hjk:j<=k):SzM M k:=fun a b h1 h2=>(h a b h1 h2).mono hjk
def Apc {l:List Rat}{i j:Nat}(d:i<l.length):gR (l.set i q) j=if i=j then q else gR l j:=by
 unfold gR;simp only[A0j,A2g];split
 ·rename_i e;subst e;simp
 rfl
def Gx {i:Nat}(h:i<M.length):gM M i=M[i]:=by simp[gM,h]
def Vx {q r:Rat}{j k:Nat}(h:Sz q j)(t:Sz r k)(E:r≠0):Sz (q/r) (j+k):=by
 rw[<-Acy q r];have F:=Gp q.num.natAbs r.den;have H:=Gp q.den r.num.natAbs;have I:=h.1;have J:=h.2;have K:=t.1;have L:=t.2;have C:r.num≠0:=fun e=>E (A4d.1 e);have u:(q.den:Int)≠0:=by have:=q.den_pos;omega
 have g:nl (q.num*(r.den:Int)).natAbs<=j+k:=by rw[A2t];simp only[A1e];omega
 have m:nl ((q.den:Int)*r.num).natAbs<=j+k:=by rw[A2t];simp only[A1e];omega
 rcases Int.lt_or_lt_of_ne (A6g u C) with z|d
 ·have e:Rat.divInt (q.num*(r.den:Int)) ((q.den:Int)*r.num)=Rat.divInt (-(q.num*(r.den:Int))) (-((q.den:Int)*r.num)):=(Rat.neg_divInt_neg _ _).symm;rw[e];exact Oq oV (by rw[A26];exact g) (by rw[A26];exact m)
 exact Oq d g m
end
section
def Jh:Value×List Value:=(.slice none 0 0,[])
def Qu:Sz 0 1:=Qd (z:=0) fV
section steps
variable {fn:Func} {Post:Ca} {u m:PH}
end steps
end
def N2 (q:Rat):Bool:=decide (q.num.natAbs<10^100)&&decide (q.den<10^100)
def Dr:∀ {k n:Nat} (_:0<k) (_:n<10^k),Lib.nDigits n<=k
 |0,n,hk,h=>oV
 |k+1,n,hk,h=>by
  by_cases e:n<10
  ·rw[Lib.nDigits_small e];omega
  rw[Lib.nDigits_big e];have d:0<k:=by
   rcases A1p k with h0|h0
   ·subst h0;simp at h;omega
   exact h0
  have:=Dr (k:=k) (n:=n/10) d (by rw[A2o oV,<-A1w];exact h);omega
def T2 {q:Rat}(h:N2 q=true):Tx q/\Sz q 12:=by
 simp only[N2,A1b,decide_eq_true_eq]at h;have d:=Dr oV h.1;have g:=Dr oV h.2;have e:(10:Nat)^100<=1000000000^12:=fV
 exact⟨⟨oV,oV⟩,A8 (A12 h.1 e),A8 (A12 h.2 e)⟩
section
section rules
variable [Cj] [Dd] [Pu] {P:Program} [A6 P] {fn:Func} {Post:Ca} {st:List KI×S} {u m:PH}
def G.buildM (e:TypeId)(sz Y:Nat)(z:Value)(es:List Value)(h:Ak P (adv P st)=.buildS (some (e,sz,Y,z)) es.length (es.zipIdx.map fun p=>(p.2,p.1)))(E:Bm sz es)(a1:z.cells.size=sz)(T:0<sz)(Q:0<es.length)(hb:es.length*sz<=16777216)
 (k:∀ g j,Af m j (.slice (some ⟨g,0,none⟩) es.length es.length) e sz es->G P fn Post (nx (adv P st) (.slice (some ⟨g,0,none⟩) es.length es.length)) u j):G P fn Post st u m:=by
 refine G.big (K:=fun X U j=>U=u/\PH.le m j/\∃ g,X=.slice (some ⟨g,0,none⟩) es.length es.length/\Af m j (.slice (some ⟨g,0,none⟩) es.length es.length) e sz es) h mV (fun H op hv=>?_) (.inl fun v U j C=>C.2.1) (fun H o n w L=>?_) (fun X U j a0 C=>?_)
 ·obtain⟨t,qs,rfl,_⟩:=Ef hv;rfl
 ·obtain⟨t,qs,V,e2,hi⟩:=Ef n;obtain⟨Z,a2,W,pos,F,I⟩:=o;simp only at V;subst V;obtain⟨hu,i,N,O,rfl,rfl⟩:=Dw hi;obtain⟨g1,g2,g3,g4⟩:=L.newM (cs:=(Bb es).toArray) (t:=e) (by simpa using Gu E);have J:=B7 E;have R:es.length*i.size≠0:=by have:=A5e Q T;omega
  have d:=Rs es 0 ((Array.range (es.length*i.size)).map (z.cells[· % z.cells.size]!)) E mV;have e0:((Array.range (es.length*i.size)).map (z.cells[· % z.cells.size]!)).toList.drop (es.length*i.size) = []:=by
   apply A9d;simp
  simp only[A42,A5y,A41,A2e,e0,A1i]at d;refine B0 (w':=w.alloc (.cells (Bb es).toArray e (0,0))) (v:=.slice (some ⟨w.heap.size,0,none⟩) es.length es.length) ?_ ⟨u,_,g1,g2,rfl,I9 _ g3,_,rfl,E,.inr ⟨w.heap.size,es.length,[],g3,by rw[A1i],rfl,A0s _,by rw[A1i,J],mV⟩⟩;simp only[execOp,e2];simp[Instr.buildSlice,run_underlying hu,sizeOf,typeInfo,zeroValue,N,O,R,d,newRow,show ¬ 16777216<es.length*i.size by omega]
 obtain⟨rfl,_,g,rfl,C⟩:=C;exact k g j C
end rules
end
section
variable [Cj] [Dd] [Pu]
section rules
variable {P:Program} [A6 P] {fn:Func} {Post:Ca} {st:List KI×S} {u m:PH}
def Adj {d:Operand->Value}{o:Op}{t:TypeId}{x:Value}{f:Nat}(h:Bc P d o=.fieldA t x f):∃ X,o=.fieldAddr t X f/\d X=x:=by
 cases o<;>simp only[Bc]at h<;>try cases h
 any_goals ((repeat' split at h)<;>cases h;done)
 exact⟨_,rfl,rfl⟩
def G.fieldA (t:TypeId)(b j f E:Nat)(h:Ak P (adv P st)=.fieldA t (.pointer (some ⟨b,j,none⟩)) f)(d:Ny P t f=some E)(k:G P fn Post (nx (adv P st) (.pointer (some ⟨b,j+E,none⟩))) u m):G P fn Post st u m:=by
 refine G.ask h mV (fun J o g w _=>?_) k;obtain⟨X,e,I⟩:=Adj g;obtain⟨H,K,F,pos,z,C⟩:=o;simp only at e;subst e;unfold Ny at d;split at d
 ·rename_i fs hfs;split at d
  ·rename_i fd hfd;split at d
   ·rename_i n hn;simp only[A0u]at d;subst d;simp[execOp,Instr.fieldAt,run_underlying hfs,hfd,Instr.sureAddr,I,fieldPlace,Bg hn,Eu]
   cases d
  cases d
 cases d
def G.remZ (x y z:Int)(h:Ak P (adv P st)=.bin .rem (.int .i64 x) (.int .i64 y))(d:0<y)(C:y<=9223372036854775807)(e:x.tmod y=z)
 (k:G P fn Post (nx (adv P st) (.int .i64 z)) u m):G P fn Post st u m:=by
 refine G.bin _ h Dq (fun t w=>?_) k;have n:¬ y=0:=oV
 have E:-y<z/\z<y:=by
  rw[<-e];have g:=A99 x d;have j:=Baa x d;exact⟨j,g⟩
 simp[binOp,Op.intDiv,n,e]
end rules
end
section
variable [Cj] [Pu] [Dd]
variable {P:Program} [A6 P] {fn:Func} {Post:Ca} {st:List KI×S} {u m:PH}
def G.f (t:TypeId)(b off f fo:Nat)(k:G P fn Post (nx (adv P st) (.pointer (some ⟨b,off+fo,none⟩))) u m)(h:Ak P (adv P st)=.fieldA t (.pointer (some ⟨b,off,none⟩)) f:=by kernel_rfl)(hf:Ny P t f=some fo:=by kernel_rfl):G P fn Post st u m:=G.fieldA t b off f fo h hf k
end
section
variable {k:Nat}{m0:PH}
def Vr (m:PH):m.or PH.mt=m:=by
 funext g;unfold PH.or;split
 ·rename_i o e;rw[e]
 rename_i e;rw[e];rfl
def An8 (m0 m:PH){g:Nat}(o:Obj)(h:m0 g=none):m0.or (m.upd g o)=(m0.or m).upd g o:=by
 funext k
 by_cases e:k=g
 ·subst e;rw[PH.or_r h,Ac,Ac]
 rw[Ad _ _ e];unfold PH.or;split
 ·rfl
 rw[Ad _ _ e]
def Af.list {m0 m u:PH}{v:Value}{t:TypeId}{sz:Nat}{es:List Value}(h:Af m0 m v t sz es)(hl:PH.le m u):Ab u v sz es:=by
 obtain⟨ho,h⟩:=h;rcases h with ⟨rfl,rfl,_⟩|⟨g,cap,rest,_,rfl,rfl,hcap,hlen,_⟩
 ·exact Ab.nil _ _ _ _
 refine⟨_,_,rfl,hcap,fun j e hj=>⟨g,0,rfl,fun i x hx=>⟨_,_,_,hl _ _ (Ac _ _ _),?_⟩⟩⟩;rw[A2x,A2e];have:=Jd ho hj hx;rw[A09 (by obtain⟨h,_⟩:=A0o.1 this;exact h)];exact this
def Bag.list {l:List Arr}{m u:PH}(h:Bag m l)(hl:PH.le m u)(i:Nat){x:Arr}(hi:l[i]?=some x):Ab u x.v x.sz x.es:=by
 obtain⟨m0,hx,_⟩:=h.focus i hi;exact Af.list hx hl
section rules
variable [Cj] [Dd] [Pu] {P:Program} [A6 P] {fn:Func} {Post:Ca} {st:List KI×S} {u m:PH}
def G.callA (f:Nat)(args:List Value){mf mc:PH}{R:Value->PH->PH->Prop}(h:Ak P (adv P st)=.call f args)(C:Q7 (adv P st)=true)(X:∀ args w,(callFunc f args).run P w=.ok (.enter f args) w)(Z:m=mf.or mc)(z:G1 mf mc)(c:Ah P f args u mc R)
 (k:∀ v j d,PH.le u j->R v j d->G1 mf d->G P fn Post (nx (adv P st) v) j (mf.or d)):G P fn Post st u m:=by
 subst Z;refine G.bigN (K:=fun v j J=>∃ d,J=mf.or d/\R v j d/\G1 mf d) h mV C Dh (fun Q o t w n=>?_) (fun v j J T U=>?_)
 ·have F:Ci u mc w:=n.less (fun g o E=>by
   cases hx:mf g with
   |some o'=>have:=(z g).resolve_left (by rw[hx];simp);rw[this]at E;cases E
   |none=>rw[PH.or_r hx];exact E)
  refine Hf t X w _ (Calls.mono (c w F) fun e w' Y=>?_);obtain⟨v,j,d,L,N,I,O⟩:=Y;obtain⟨g1,g2⟩:=n.frameM z N I;refine⟨v,L,j,mf.or d,g1,g2,d,rfl,O,fun g=>?_⟩;cases hx:mf g with
  |none=>exact .inl rfl
  |some o =>
   right;have H:=Cf (n.pm g o (PH.or_l hx));exact I.ms g H ((z g).resolve_left (by rw[hx];simp))
 obtain⟨d,rfl,W,V⟩:=U;exact k v j d T W V
def G.callP (f:Nat)(args:List Value){mf mc:PH}{R:Value->PH->PH->Prop}(h:Ak P (adv P st)=.call f args)(H:Pu.b=true)(X:∀ args w,(callFunc f args).run P w=.ok (.enter f args) w)(Z:m=mf.or mc)(z:G1 mf mc)(c:Ah P f args u mc R)
 (k:∀ v j d,PH.le u j->R v j d->G1 mf d->G P fn Post (nx (adv P st) v) j (mf.or d)):G P fn Post st u m:=by
 subst Z;refine G.bigP (K:=fun v j J=>∃ d,J=mf.or d/\R v j d/\G1 mf d) h mV H Dh (fun Q o t w n=>?_) (fun v j J T U=>?_)
 ·have E:Ci u mc w:=n.less (fun g o C=>by
   cases hx:mf g with
   |some o'=>have:=(z g).resolve_left (by rw[hx];simp);rw[this]at C;cases C
   |none=>rw[PH.or_r hx];exact C)
  refine Hf t X w _ (Calls.mono (c w E) fun e w' Y=>?_);obtain⟨v,j,d,L,N,I,O⟩:=Y;obtain⟨g1,g2⟩:=n.frameM z N I;refine⟨v,L,j,mf.or d,g1,g2,d,rfl,O,fun g=>?_⟩;cases hx:mf g with
  |none=>exact .inl rfl
  |some o =>
   right;have F:=Cf (n.pm g o (PH.or_l hx));exact I.ms g F ((z g).resolve_left (by rw[hx];simp))
 obtain⟨d,rfl,W,V⟩:=U;exact k v j d T W V
def G.giveP {ma sm:PH}(h:G2 (ctl P 100 st).1=true)(F:m=ma.or sm)(V:G1 ma sm)(h0:∀ g,Post.m0 g=none\/sm g≠none)(k:∀ U,PH.le u U->PH.le ma U->G P fn Post (ctl P 100 st) U sm):G P fn Post st u m:=by
 subst F;refine⟨Ll 100 st ?_⟩;rw[Sym.ofNo h];intro c ρ a w I C;have L:∀ g o,ma g=some o->u g=none:=fun g o d=>(C.gd.ap g).resolve_right (by rw[PH.or_l d];simp);have J:∀ g o,sm g=some o->ma g=none:=fun g o d=>(V g).resolve_right (by rw[d];simp);have H:∀ g o,ma g=some o->c.w0.heap.size<=g:=by
  intro g o d;rcases A16 g c.w0.heap.size with Q|N
  ·have R:c.m0 g=none:=by
    rw[I];rcases h0 g with e|e
    ·exact e
    cases hs:sm g with
    |none=>exact absurd hs e
    |some o'=>have:=J g o' hs;rw[this]at d;cases d
   have:=C.gr.ms g Q R;rw[PH.or_l d]at this;cases this
  exact N
 have O:PH.le u (ma.or u):=fun g o d=>by
  cases n:ma g with
  |none=>rw[PH.or_r n];exact d
  |some o'=>have:=L g o' n;rw[this]at d;cases d
 have W:=(k (ma.or u) O (fun g o d=>PH.or_l d)).out;rw[Sym.ofNo h]at W;refine W c ρ a w I ⟨C.sz,C.tm,C.df.of fun r e _ hu F=>(by
  have E:ma r=none:=(by
   cases n:ma r with
   |none=>rfl
   |some o=>rw[PH.or_l n]at F;cases F)
  rw[PH.or_r E]at F;exact⟨e,by rw[PH.or_r E];exact hu,F⟩),fun T b hb=>?_,C.inj,C.lv,⟨fun t o d=>?_,fun t o d=>?_,fun t=>?_,fun t cs t' fr j z d hj=>?_⟩,⟨C.gr.sz,C.gr.old,fun t d=>?_,fun t d F=>?_,C.gr.io,C.gr.dr⟩⟩
 ·obtain⟨X,Y,Z,K⟩:=C.box T b hb;have E:ma (ρ T)=none:=by
   cases n:ma (ρ T) with
   |none=>rfl
   |some o=>rw[PH.or_l n]at K;cases K
  rw[PH.or_r E]at K;exact⟨X,Y,by rw[PH.or_r E];exact Z,K⟩
 ·cases n:ma t with
  |some o'=>rw[PH.or_l n]at d;cases d;exact C.gd.pm t _ (PH.or_l n)
  |none=>rw[PH.or_r n]at d;exact C.gd.pu t o d
 ·exact C.gd.pm t o (by rw[PH.or_r (J t o d)];exact d)
 ·cases n:ma t with
  |some o'=>right;exact (V t).resolve_left (by rw[n];simp)
  |none =>
   rw[PH.or_r n];have:=C.gd.ap t;rw[PH.or_r n]at this;exact this
 ·cases n:ma t with
  |some o' =>
   rw[PH.or_l n,<-d];exact (C.gd.pm t _ (PH.or_l n)).symm
  |none=>rw[PH.or_r n];exact C.gd.cl t cs t' fr j z d hj
 ·have n:ma t=none:=by
   cases n:ma t with
   |none=>rfl
   |some o=>have:=H t o n;omega
  rw[PH.or_r n];exact C.gr.us t d
 have:=C.gr.ms t d F;cases n:ma t with
 |some o=>have:=H t o n;omega
 |none=>rw[PH.or_r n]at this;exact this
end rules
structure Src where
 g:Nat
 a:Option Addr
 n:Nat
 c:Nat
def Src.ptr (s:Src):Value:=.pointer (some ⟨s.g,0,none⟩)
def Src.el (s:Src)(k:Nat):Value:=.agg #[.slice s.a s.n s.c,.int .i64 k]
def Src.M (s:Src)(k:Nat):PH:=PH.mt.upd s.g (.cells #[.slice s.a s.n s.c,.int .i64 k] 103 (0,0))
def Src.arr (s:Src)(k:Nat):Arr:=⟨.slice (some ⟨s.g,0,none⟩) 1 1,103,2,[s.el k]⟩
def Src.el_ok (s:Src)(k:Nat):Bm 2 [s.el k]:=by
 intro x d;simp at d;subst d;exact⟨rfl,fun y e=>by simp[Src.el,Value.cells]at e;rcases e with rfl|rfl<;>rfl⟩
def Src.at {s:Src}(h:m0 s.g=none):(s.arr k).At m0 (m0.or (s.M k)):=by
 refine⟨s.el_ok k,.inr ⟨s.g,1,[],h,?_,rfl,A0s _,rfl,mV⟩⟩;unfold Src.M;rw[An8 _ _ _ h,Vr];rfl
def Src.split {s:Src}{m0 m:PH}(h:(s.arr k).At m0 m):m=m0.or (s.M k)/\m0 s.g=none:=by
 obtain⟨_,h⟩:=h;rcases h with ⟨h,_,_⟩|⟨g,cap,rest,d,rfl,e,t,j,z⟩
 ·simp[Src.arr]at h
 simp only[Src.arr,Value.slice.injEq,A0u,Addr.mk.injEq,and_true]at e;obtain⟨rfl,_,rfl⟩:=e;have n:rest = []:=by
  simp[Src.arr,Bb,Src.el,Value.cells]at j;exact j
 subst n;refine⟨?_,d⟩;unfold Src.M;rw[An8 _ _ _ d,Vr];rfl
def Src.apart {s:Src}(h:m0 s.g=none):G1 m0 (s.M k):=fun g=>by
 by_cases e:g=s.g
 ·subst e;exact .inl h
 right;unfold Src.M;rw[Ad _ _ e];rfl
structure Po (u:PH)(s:Src)(ts:List Int):Prop where
 list:Ab u (.slice s.a s.n s.c) 1 (Er ts)
 n:s.n=ts.length
 le:ts.length<=600
 lo:∀ t∈ts,-9223372036854775808<=t
 hi:∀ t∈ts,t<=9223372036854775807
def Po.mono {u u':PH}{s:Src}{ts:List Int}(h:Po u s ts)(hl:PH.le u u'):Po u' s ts:=⟨h.list.mono hl,h.n,h.le,h.lo,h.hi⟩
def Src.cell0 (s:Src)(k:Nat):ElP (s.M k) s.g (0+0) (.slice s.a s.n s.c):=fun i y d=>by
 match i,d with
 |0,d=>simp[Value.cells]at d;subst d;exact⟨_,_,_,Ac _ _ _,rfl⟩
def Src.cell1 (s:Src)(k:Nat):ElP (s.M k) s.g (0+1) (.int .i64 k):=fun i y d=>by
 match i,d with
 |0,d=>simp[Value.cells]at d;subst d;exact⟨_,_,_,Ac _ _ _,rfl⟩
end
section
variable [Cj] [Pu] [Dd]
variable {P:Program} [A6 P] {fn:Func} {Post:Ca} {st:List KI×S} {u m:PH}
def G.A {f:Nat}{args:List Value}{R:Value->PH->PH->Prop}(hc:∀ args w,(callFunc f args).run P w=.ok (.enter f args) w)(c:Ah P f args u m R)(k:∀ v u' mc',PH.le u u'->R v u' mc'->G1 PH.mt mc'->G P fn Post (nx (adv P st) v) u' (PH.mt.or mc'))(h:Ak P (adv P st)=.call f args:=by kernel_rfl)(hdr:Q7 (adv P st)=true:=by kernel_rfl):G P fn Post st u m:=G.callA f args h hdr hc (Cm _).symm (Jl _) c k
def G.D {f:Nat}{args:List Value}{mf mc:PH}{R:Value->PH->PH->Prop}(hc:∀ args w,(callFunc f args).run P w=.ok (.enter f args) w)(hd:G1 mf mc)(c:Ah P f args u mc R)(k:∀ v u' mc',PH.le u u'->R v u' mc'->G1 mf mc'->G P fn Post (nx (adv P st) v) u' (mf.or mc'))(h:Ak P (adv P st)=.call f args:=by kernel_rfl)(hdr:Q7 (adv P st)=true:=by kernel_rfl):G P fn Post st u (mf.or mc):=G.callA f args h hdr hc rfl hd c k
end
section
open Go.MapKept
variable {et t:TypeId}{g:Nat}{o:Obj}{w:World}
structure Wp (P:Program)(kt:TypeId){κ:Type}[DecidableEq κ](enc:κ->Value):Prop where
 eq:∀ a b w,(Op.equal kt (enc a) (enc b)).run P w=.ok (decide (a=b)) w
 now:∃ d,P.underlying kt=some d/\((∀ a b,Instr.sameNow d (enc a) (enc b)=none)\/(∀ a b,Instr.sameNow d (enc a) (enc b)=some (decide (a=b))))
 chk:∀ e a w,(Instr.checkKey e 10000 kt (enc a)).run P w=.ok () w
 bits:∀ a,Instr.sameBits 10000 (enc a) (enc a)=true
 inj:∀ a b,enc a=enc b->a=b
def Ep {κ:Type}(enc:κ->Value)(o:Obj)(l:List (κ×Value)):Prop :=
 ∃ es clock,o=.map es clock/\es.toList.map (fun e=>(e.key,e.val))=l.map (fun p=>(enc p.1,p.2))/\Stamped es clock
def D1 {κ:Type}[DecidableEq κ](a:κ):List (κ×Value)->Option Value
 |[]=>none
 |(b,v)::l=>if a=b then some v else D1 a l
def Is {κ:Type}[DecidableEq κ](a:κ)(x:Value):List (κ×Value)->List (κ×Value)
 |[]=>[(a,x)]
 |(b,v)::l=>if a=b then (b,x)::l else (b,v)::Is a x l
def Avp {κ:Type}[DecidableEq κ](a:κ):List (κ×Value)->List (κ×Value)
 |[]=>[]
 |(b,v)::l=>if a=b then l else (b,v)::Avp a l
def Hw {κ:Type}[DecidableEq κ](a:κ):List (κ×Value)->Nat->Option (Nat×Value)
 |[],_=>none
 |(b,v)::l,i=>if a=b then some (i,v) else Hw a l (i+1)
def Agi (z:Value)(r:Option Value)(ok:Bool):Value:=match r with|some v=>(if ok then .tuple #[v,.bool true] else v)|none=>(if ok then .tuple #[z,.bool false] else z)
def L7 {α β:Type}{f:α->β}{l:List α}(h:(l.map f).Nodup):l.Nodup:=(A8p.1 h).imp fun h e=>h (by rw[e])
section
variable {κ:Type} [DecidableEq κ] {enc:κ->Value}
def Aam (a:κ):∀ (l:List (κ×Value)) (i:Nat),(Hw a l i).map (·.2)=D1 a l
 |[],_=>rfl
 |(b,v)::l,i=>by
  unfold Hw D1;split
  ·rfl
  exact Aam a l (i+1)
def Vw {a:κ}:∀ {l:List (κ×Value)} {i:Nat},Hw a l i=none->a∉l.map (·.1)
 |[],_,_=>mV
 |(b,v)::l,i,h=>by
  unfold Hw at h;split at h
  ·cases h
  rename_i hne;simp only[A1t,A0v,not_or];exact⟨hne,Vw h⟩
def Wo {a:κ}:∀ {l:List (κ×Value)} {i j:Nat} {v:Value},Hw a l i=some (j,v)->i<=j/\l[j-i]?=some (a,v)/\(∀ x,Is a x l=l.set (j-i) (a,x))/\Avp a l=l.eraseIdx (j-i)
 |[],_,_,_,h=>by cases h
 |(b,w)::l,i,j,v,h=>by
  unfold Hw at h;split at h
  ·rename_i e;simp only[A0u,A2c]at h;obtain⟨rfl,rfl⟩:=h;subst e;exact⟨A0s _,mV,fun x=>by simp[Is],by simp[Avp]⟩
  rename_i hne;obtain⟨u,d,m,n⟩:=Wo h;have e:j-i=(j-(i+1))+1:=oV;refine⟨oV,by rw[e,A2v];exact d,fun x=>?_,?_⟩
  ·rw[e,A2s,<-m x];simp[Is,hne]
  rw[e,List.eraseIdx_cons_succ,<-n];simp[Avp,hne]
def Xs {a:κ}:∀ {l:List (κ×Value)} (x:Value),a∉l.map (·.1)->Is a x l=l++[(a,x)]
 |[],_,_=>rfl
 |(b,v)::l,x,h=>by
  simp only[A1t,A0v,not_or]at h;unfold Is;rw[if_neg h.1,Xs x h.2];rfl
def Hl {a:κ}:∀ {l:List (κ×Value)},D1 a l=none↔a∉l.map (·.1)
 |[]=>by simp[D1]
 |(b,v)::l=>by
  unfold D1;split
  ·rename_i e;simp[e]
  rename_i hne;rw[Hl];simp[hne]
variable {P:Program} {kt:TypeId}
def Nn (K:Wp P kt enc)(a:κ)(w:World):∀ (es:List MapEntry) (l:List (κ×Value)) (i:Nat),es.map (fun e=>(e.key,e.val))=l.map (fun p=>(enc p.1,p.2))->(Instr.findAsking kt (enc a) es i).run P w=.ok (Hw a l i) w
 |[],[],i,_=>by simp[Instr.findAsking,Hw]
 |[],_::_,_,h=>by simp at h
 |_::_,[],_,h=>by simp at h
 |e::es,(b,v)::l,i,h=>by
  simp only[A1t,A3b,A2c]at h;obtain⟨⟨j,m⟩,n⟩:=h;unfold Instr.findAsking;simp only[Sem.run_bind,j,K.eq,Result.andThen_ok];unfold Hw;by_cases d:a=b
  ·simp[d,m]
  simp only[decide_eq_false d,A3z,if_false,if_neg d];exact Nn K a w es l (i+1) n
def Yk {d:TypeDesc}(m:∀ a b,Instr.sameNow d (enc a) (enc b)=some (decide (a=b)))(a:κ):∀ (es:List MapEntry) (l:List (κ×Value)) (i:Nat),es.map (fun e=>(e.key,e.val))=l.map (fun p=>(enc p.1,p.2))->Instr.findNow d (enc a) es i=some (Hw a l i)
 |[],[],i,_=>by simp[Instr.findNow,Hw]
 |[],_::_,_,h=>by simp at h
 |_::_,[],_,h=>by simp at h
 |e::es,(b,v)::l,i,h=>by
  simp only[A1t,A3b,A2c]at h;obtain⟨⟨n,u⟩,z⟩:=h;unfold Instr.findNow Hw;rw[n,m];by_cases j:a=b
  ·simp[j,u]
  simp only[decide_eq_false j,if_neg j];exact Yk m a es l (i+1) z
def Ub (K:Wp P kt enc)(a:κ)(w:World){es:List MapEntry}{l:List (κ×Value)}(h:es.map (fun e=>(e.key,e.val))=l.map (fun p=>(enc p.1,p.2))):(Instr.findKey kt (enc a) es).run P w=.ok (Hw a l 0) w:=by
 obtain⟨d,m,j⟩:=K.now;unfold Instr.findKey;simp only[Sem.run_bind,run_underlying m,Result.andThen_ok];rcases j with j|j
 case inr=>rw[Yk j a es l 0 h];rfl
 cases es with
 |nil =>
  cases l with
  |nil=>simp[Instr.findNow,Hw]
  |cons=>simp at h
 |cons e es =>
  have n:Instr.findNow d (enc a) (e::es) 0=none:=by
   cases l with
   |nil=>simp at h
   |cons p l =>
    simp only[A1t,A3b,A2c]at h;unfold Instr.findNow;rw[h.1.1,j]
  rw[n];exact Nn K a w _ _ _ h
def Ep.empty:Ep enc (.map #[] 0) []:=⟨#[],0,rfl,mV,stamped_empty 0⟩
def Ep.nodup {l:List (κ×Value)}(h:Ep enc o l):(l.map (·.1)).Nodup:=by
 obtain⟨es,d,rfl,m,n⟩:=h;have j:es.toList.map (·.key)=l.map (fun p=>enc p.1):=by
  have:=congrArg (List.map (·.1)) m;simpa[Function.comp_def] using this
 have e:=n.2.2;rw[j]at e;have:l.map (fun p=>enc p.1)=(l.map (·.1)).map enc:=by simp[Function.comp_def]
 rw[this]at e;exact L7 e
def Ahz (K:Wp P kt enc)(n:P.underlying t=some (.map kt et)){z:Value}(u:∀ w,(zeroValue et).run P w=.ok z w){l:List (κ×Value)}(j:w.heap[g]?=some o)(m:Ep enc o l)(a:κ)(ok:Bool) :
 (Instr.lookup t (.map (some g)) (enc a) ok).run P w=.ok (Agi z (D1 a l) ok) w:=by
 obtain⟨es,d,rfl,e,C⟩:=m;have h:=Ub K a w e;rw[<-Aam a l 0];simp only[Instr.lookup,Sem.run_bind,run_underlying n,Result.andThen_ok,MapKept.run_getObj_map j,K.chk,Sem.run_pure,h];cases Hw a l 0 with
 |none=>simp only[Agi,Option.map_none,Sem.run_bind,u,Result.andThen_ok,Sem.run_pure]
 |some p=>simp only[Agi,A3g,Sem.run_bind,Sem.run_pure,Result.andThen_ok]
def Ahc (K:Wp P kt enc)(W:P.underlying t=some (.map kt et)){l:List (κ×Value)}(H:w.heap[g]?=some o)(Z:Ep enc o l)(a:κ)(x:Value) :
 ∃ o',Ep enc o' (Is a x l)/\(Instr.mapUpdate t (.map (some g)) (enc a) x).run P w=.ok () { w with heap:=w.heap.setIfInBounds g o' }:=by
 obtain⟨es,d,rfl,n,V⟩:=Z;have F:=Ub K a w n;have T:es.toList.length=l.length:=by simpa using congrArg List.length n
 cases hfk:Hw a l 0 with
 |none =>
  rw[hfk]at F;have U:=Vw hfk;refine⟨.map (es.push { key:=enc a,val:=x,born:=d }) (d+1),⟨_,_,rfl,?_,stamped_push V (fun e Y R=>?_)⟩,?_⟩
  ·rw[Xs x U];simp only[Array.toList_push,A02,n,A1t,A38]
  ·obtain⟨j,X,rfl⟩:=A2b.1 Y;have:=congrArg (fun t=>t[j]?) n;simp only[A0n,A0i X,A3g]at this;rw[A0i oV]at this;simp only[A3g,A0u,A2c]at this;rw[this.1]at R;exact U (A0r.2 ⟨_,A0y oV,K.inj _ _ R⟩)
  simp only[Instr.mapUpdate,Sem.run_bind,run_underlying W,Result.andThen_ok,MapKept.run_getObj_map H,K.chk,F];exact MapKept.run_setObj_map _ H
 |some p =>
  obtain⟨j,v⟩:=p;rw[hfk]at F;obtain⟨_,I,O,_⟩:=Wo hfk;rw[A68]at I O;have L:j<l.length:=(A0o.1 I).1;have J:j<es.toList.length:=oV;obtain⟨E,u⟩:∃ E,es.toList[j]?=some E:=⟨_,A0i J⟩;have z:E.key=enc a:=by
   have:=congrArg (fun t=>t[j]?) n;simp only[A0n,u,A3g,I,A0u,A2c]at this;exact this.1
  have m:es[j]?=some E:=by rw[<-A6o];exact u
  refine⟨.map (es.modify j fun e=>{ e with key:=enc a,val:=x }) d,⟨_,_,rfl,?_,stamped_modify V j _ (fun _ _=>rfl) (fun e _ h=>?_)⟩,?_⟩
  ·rw[O x,A10];apply A4m;intro i;simp only[A0n,A6o,A75,A2g];have Q:=congrArg (fun t=>t[i]?) n;simp only[A0n,A6o]at Q;by_cases e:j=i
   ·subst e;rw[if_pos rfl,if_pos rfl,m,if_pos (by simpa using L)];rfl
   rw[if_neg e,if_neg e];exact Q
  ·rw[m]at h;cases h;exact z.symm
  have C:((es[j]?).map (·.key)).getD (enc a)=enc a:=by rw[m];simp[z]
  simp only[Instr.mapUpdate,Sem.run_bind,run_underlying W,Result.andThen_ok,MapKept.run_getObj_map H,K.chk,F,C];have N:(Instr.keyThatStays (enc a) (enc a)).run P w=.ok (enc a) w:=by unfold Instr.keyThatStays;rw[if_pos (K.bits a)];rfl
  rw[N];simp only[Result.andThen_ok];exact MapKept.run_setObj_map _ H
end
end
section
variable {D:List MapEntry}{clock g:Nat}{env:Operand->Value}{es:Array MapEntry}{o o':Obj}
variable [Cj]
open Go.MapKept
inductive Pr where
 |other
 |mk
 |look (t:Option TypeDesc) (x k:Value) (ok:Bool)
 |put (t:Option TypeDesc) (x k v:Value)
 |range (t:Option TypeDesc) (x:Value)
 |next (it:Value)
 |entry (it:Value)
def Mu (P:Program)(env:Operand->Value):Op->Pr
 |.makeMap _ none=>.mk
 |.lookup t x i ok=>.look (P.underlying t) (env x) (env i) ok
 |.mapUpdate t x k v=>.put (P.underlying t) (env x) (env k) (env v)
 |.insert t x k v=>.put (P.underlying t) (env x) (env k) (env v)
 |.range t x=>.range (P.underlying t) (env x)
 |.next it false=>.next (env it)
 |.entry it=>.entry (env it)
 |_=>.other
def Mv (P:Program)(st:List KI×S):Pr :=
 match st.1 with
 |.reg _ ops _ (i::_)::_=>match ops[i]? with
  |some o=>match G8 st.2 o&&(M1 st.2 o.op&&M7 o.op) with
   |true=>match gv st.2 ops o with
    |some true=>Mu P (Mw st.2) o.op
    |_=>.other
   |false=>.other
  |none=>.other
 |_=>.other
def W4:Obj->Bool
 |.cells ..=>false
 |_=>true
section good
variable {u m:PH} {w:World}
def Uv (w:World)(g:Nat)(o:Obj):World:={ w with heap:=w.heap.setIfInBounds g o }
def Zj (h:w.heap[g]?=some o):(Uv w g o').heap[g]?=some o':=by
 show (w.heap.setIfInBounds g o')[g]?=_;rw[A7q];simp[Cf h]
def U2 {g k:Nat}(h:k≠g):(Uv w g o').heap[k]?=w.heap[k]?:=by
 show (w.heap.setIfInBounds g o')[k]?=_;rw[A20 (fun e=>h e.symm)]
def Amu (g:Nat)(o':Obj):(Uv w g o').heap.size=w.heap.size:=by show (w.heap.setIfInBounds g o').size=_;simp
theorem Ci.setO (h : Ci u m w)   (hg : m g = some o) (hn : W4 o' = true) : Ci u (m.upd g o') (Uv w g o') ∧ Cn u m w u (m.upd g o') (Uv w g o') := by
  have hb := h.pm g _ hg
  have hug : u g = none := by rcases h.ap g with e | e
                              · exact e
                              · grind
  refine ⟨⟨fun k o hk => ?_, fun k o hk => ?_, fun k => ?_, fun k cs1 t1 fr1 j z hk hj => ?_⟩, ⟨by rw [Amu]; exact A0s _, fun k hk hm => U2 (fun e => by rw [e, hg] at hm; cases hm), fun _ _ => rfl, fun k hk hm => by rw [Ad _ _ (fun e => by rw [e, hg] at hm; cases hm)]; exact hm, ⟨rfl, rfl⟩, fun _ => ⟨rfl, A0s _⟩⟩⟩
  · rw [U2 (fun e => by rw [e, hug] at hk; cases hk)]; exact h.pu k o hk
  · by_cases e : k = g
    · subst e; rw [Ac] at hk; rw [Zj hb]; exact hk
    · rw [Ad _ _ e] at hk; rw [U2 e]; exact h.pm k o hk
  · by_cases e : k = g
    · grind
    · rw [Ad _ _ e]; exact h.ap k
  · by_cases e : k = g
    · subst e
      rw [Zj hb] at hk
      simp only [A0u] at hk
      subst hk; cases hn
    · rw [U2 e] at hk; exact h.cl k cs1 t1 fr1 j z hk hj
theorem Ci.newO (h:Ci u m w)(F:W4 o=true):Ci u (m.upd w.heap.size o) (w.alloc o)/\Cn u m w u (m.upd w.heap.size o) (w.alloc o)/\m w.heap.size=none/\u w.heap.size=none:=by
 have C:m w.heap.size=none:=h.pm.none (A0s _);have H:u w.heap.size=none:=h.pu.none (A0s _);refine⟨⟨fun g o' d=>?_,fun g o' d=>?_,fun g=>?_,fun g cs t fr j z d E=>?_⟩,⟨by rw[Cd];omega,fun g d _=>Bi _ _ d,fun _ _=>rfl,fun g d C=>by rw[Ad _ _ oV];exact C,⟨rfl,rfl⟩,fun _=>⟨rfl,A0s _⟩⟩,C,H⟩
 ·rw[Bi _ _ (h.pu.lt d)];exact h.pu g o' d
 ·by_cases e:g=w.heap.size
  ·subst e;rw[Ac]at d;rw[Cy];exact d
  rw[Ad _ _ e]at d;rw[Bi _ _ (h.pm.lt d)];exact h.pm g o' d
 ·by_cases e:g=w.heap.size
  ·grind
  rw[Ad _ _ e];exact h.ap g
 by_cases e:g=w.heap.size
 ·subst e;rw[Cy]at d;simp only[A0u]at d;subst d;cases F
 have n:=Cf d;rw[Cd]at n;rw[Bi _ _ oV]at d;exact h.cl g cs t fr j z d E
def Ci.drewG (h:Ci u m w):Cn u m w u m w.drew:=⟨A0s _,fun _ _ _=>rfl,fun _ _=>rfl,fun _ _ h=>h,⟨rfl,rfl⟩,fun _=>⟨rfl,Nat.le_succ _⟩⟩
end good
section rules
variable {P:Program} [A6 P] {fn:Func} {Post:Ca} {st:List KI×S} {u m:PH}
theorem Xw {V:Pr}(h:Mv P st=V)(n:V≠.other):∃ j d e i l k s o,st=(.reg j d e (i::l)::k,s)/\d[i]?=some o/\gv s d o=some true/\G8 s o=true/\M1 s o.op=true/\M7 o.op=true/\Mu P (Mw s) o.op=V /\
 ∀ v,nx st v=(.reg j d e l::k,s.put o.dst (.v v)):=by
 obtain⟨t,s⟩:=st;unfold Mv at h;simp only at h;split at h
 ·rename_i j d e i l k;split at h
  ·rename_i o ho;split at h
   ·rename_i hb;simp only[A1b]at hb;split at h
    ·rename_i hg;exact⟨j,d,e,i,l,k,s,o,rfl,ho,hg,hb.1,hb.2.1,hb.2.2,h,fun v=>by simp[nx,ho]⟩
    grind
   grind
  grind
 grind
def Qg:Pr->Bool
 |.look ..=>true
 |_=>false
def Ai2 {o:Op}{V:Pr}(h:Mu P env o=V)(e:V≠.other)(d:Qg V=false):E9 o=false:=by
 unfold Mu at h;split at h<;>first|rfl|exact absurd h.symm e|(rw[<-h]at d;cases d)
theorem G.bigX {V:Pr}{K:Value->PH->PH->Prop}(h:Mv P (adv P st)=V)(z:V≠.other/\Qg V=false)(t:(∀ v j d,K v j d->PH.le m d)\/Q7 (adv P st)=true)
 (N:∀ env (o:Oper),Mu P env o.op=V->∀ w,Ci u m w->Ft P env o w fun v w'=>∃ j d,Ci j d w'/\Cn u m w j d w'/\K v j d)
 (k:∀ v j d,PH.le u j->K v j d->G P fn Post (nx (adv P st) v) j d):G P fn Post st u m:=by
 refine G.stp ?_;obtain⟨W,R,T,i,l,X,s,o,e,F,L,J,Q,O,n,E⟩:=Xw h z.1;rw[e]at t⊢;refine⟨?_⟩;refine Ob.big (K:=K) F L J Q O (Ai2 n z.1 z.2) (fun v j d U=>?_) (fun w C=>N _ o n w C) (fun v j d H I=>?_)
 ·rcases t with t|t
  ·grind
  exact .inr (Aa7 F t)
 have:=(k v j d H I).out;rw[E]at this;exact this
def Alv {o:Oper}{w w':World}{K:Value->World->Prop}(h:(execOp env o).run P w=.ok .skip w')(d:K undef w'):Ft P env o w K:=by
 unfold Ft;rw[h];exact d
theorem G.mapMk (h:Mv P (adv P st)=.mk)(k:∀ g,m g=none->u g=none->G P fn Post (nx (adv P st) (.map (some g))) u (m.upd g (.map #[] 0))):G P fn Post st u m:=by
 refine G.bigX (K:=fun v z e=>z=u/\PH.le m e/\∃ g,m g=none/\u g=none/\v=.map (some g)/\e=m.upd g (.map #[] 0)) h (by simp[Qg]) (.inl fun v z e C=>C.2.1) (fun env o d w t=>?_) (fun L z e I C=>?_)
 ·obtain⟨F,J,E,pos,j,n⟩:=o;simp only at d;unfold Mu at d;split at d<;>try (cases d;done)
  obtain⟨g1,g2,g3,H⟩:=t.newO (o:=.map #[] 0) rfl;refine B0 (w':=w.alloc (.map #[] 0)) (v:=.map (some w.heap.size)) ?_ ⟨u,_,g1,g2,rfl,I9 _ g3,w.heap.size,g3,H,rfl,rfl⟩;simp[execOp,Instr.makeMap]
 grind
def Pn (P:Program)(t:TypeId):Option Value:=match P.info? t with|some i=>i.zero|none=>none
def K5 {t:TypeId}{z:Value}(h:Pn P t=some z)(w:World):(zeroValue t).run P w=.ok z w:=by
 unfold Pn at h;split at h
 ·rename_i i hi;simp[zeroValue,typeInfo,hi,h]
 cases h
variable {κ:Type} [DecidableEq κ] {enc:κ->Value} {kt et:TypeId}
def G.mapGet (K:Wp P kt enc)(z:Value)(g:Nat)(o:Obj)(l:List (κ×Value))(a:κ)(ok:Bool)(h:Mv P (adv P st)=.look (some (.map kt et)) (.map (some g)) (enc a) ok)(Y:Pn P et=some z)(R:u g=some o\/m g=some o)(T:Ep enc o l)
 (k:G P fn Post (nx (adv P st) (Agi z (D1 a l) ok)) u m):G P fn Post st u m:=by
 refine G.stp ?_;obtain⟨id,a0,dr,i,l',kk,s,o',e,H,E,Q,W,V,d,F⟩:=Xw h mV;have k:=k.out;rw[F]at k;rw[e];have C:Fk o'.op=false:=by
  unfold Mu at d;split at d<;>first|(cases d;done)|(rename_i e;rw[e];rfl)
 refine⟨Ob.ask H E Q W V C (fun w hp=>?_) k⟩;obtain⟨J,Z,I,pos,j,n⟩:=o';simp only at d hp;unfold Mu at d;split at d<;>try (cases d;done)
 rename_i t x i ok';simp only[Pr.look.injEq]at d;obtain⟨L,N,O,rfl⟩:=d;obtain⟨pu,pm⟩:=hp (.inl rfl);have X:w.heap[g]?=some o:=R.elim (pu g o) (pm (.inl rfl) g o);have U:=Ahz K L (fun w=>K5 Y w) X T a ok';simp only[execOp,N,O];simp[U]
def G.mapHas (K:Wp P kt enc)(z:Value)(g:Nat)(o:Obj)(l:List (κ×Value))(a:κ)(x:Value)(h:Mv P (adv P st)=.look (some (.map kt et)) (.map (some g)) (enc a) true)(n:Pn P et=some z)(d:u g=some o\/m g=some o)(e:Ep enc o l)(j:D1 a l=some x)
 (k:G P fn Post (nx (adv P st) (.tuple #[x,.bool true])) u m):G P fn Post st u m :=
 G.mapGet K z g o l a true h n d e (by rw[j];exact k)
def G.mapNot (K:Wp P kt enc)(z:Value)(g:Nat)(o:Obj)(l:List (κ×Value))(a:κ)(h:Mv P (adv P st)=.look (some (.map kt et)) (.map (some g)) (enc a) true)(n:Pn P et=some z)(d:u g=some o\/m g=some o)(e:Ep enc o l)(j:D1 a l=none)
 (k:G P fn Post (nx (adv P st) (.tuple #[z,.bool false])) u m):G P fn Post st u m :=
 G.mapGet K z g o l a true h n d e (by rw[j];exact k)
theorem G.mapPut (K:Wp P kt enc)(g:Nat)(o:Obj)(l:List (κ×Value))(a:κ)(x:Value)(h:Mv P (adv P st)=.put (some (.map kt et)) (.map (some g)) (enc a) x)(J:Q7 (adv P st)=true)(Q:m g=some o)(Z:Ep enc o l)
 (k:∀ o',Ep enc o' (Is a x l)->G P fn Post (nx (adv P st) undef) u (m.upd g o')):G P fn Post st u m:=by
 refine G.bigX (K:=fun v C z=>C=u/\v=undef/\∃ o',Ep enc o' (Is a x l)/\z=m.upd g o') h (by simp[Qg]) (.inr J) (fun env o' d w E=>?_) (fun v' C z V hk=>?_)
 ·obtain⟨I,n,H,pos,e,j⟩:=o';have key:∀ t X A Y,P.underlying t=some (.map kt et)->env X=.map (some g)->env A=enc a->env Y=x->(n=.mapUpdate t X A Y\/n=.insert t X A Y)->Ft P env ⟨I,n,H,pos,e,j⟩ w fun v w'=>∃ C z,Ci C z w'/\Cn u m w C z w'/\C=u/\v=undef/\∃ o',Ep enc o' (Is a x l)/\z=m.upd g o':=by
   intro t X A Y T L N O U;have hw:w.heap[g]?=some o:=E.pm g o Q;obtain⟨o',F,R⟩:=Ahc K T hw Z a x;have W:W4 o'=true:=by obtain⟨es,c,rfl,_⟩:=F;rfl
   obtain⟨g1,g2⟩:=E.setO Q W;refine Alv (w':=Uv w g o') ?_ ⟨u,_,g1,g2,rfl,rfl,o',F,rfl⟩;rcases U with rfl|rfl
   ·simp only[execOp,L,N,O];simp[R,Uv]
   simp only[execOp,L,N,O];simp[R,Uv]
  unfold Mu at d;split at d<;>try (cases d;done)
  ·grind
  grind
 grind
def G.mapLen (t kt et:TypeId)(g:Nat)(o:Obj)(l:List (κ×Value))(h:Ak P (adv P st)=.blt .len [t] [.map (some g)])(Q:P.underlying t=some (.map kt et))(O:Awd (adv P st)=true)(J:u g=some o\/m g=some o)(N:Ep enc o l)
 (k:G P fn Post (nx (adv P st) (.int .i64 l.length)) u m):G P fn Post st u m:=by
 refine G.see h mV O (fun env o' d w R L=>?_) k;obtain⟨E,U,z,pos,e,j⟩:=o';obtain⟨c,rfl,F,H,I⟩:=Np d;obtain⟨callee,args,C⟩:=c;subst F H;have T:w.heap[g]?=some o:=J.elim (R g _) (L g _);obtain⟨es,clock,rfl,n,_⟩:=N;have K:es.size=l.length:=by
  have:=congrArg List.length n;simpa using this
 simp only[execOp,resolve,invoke,builtin,I];simp[Builtin.len_,run_underlying Q,MapKept.run_getObj_map T,goInt,K]
def Ay (D:List MapEntry):Array Nat:=(D.map (·.born)).toArray
structure Us (es:Array MapEntry)(D:List MapEntry):Prop where
 sub:∀ e∈D,e∈es.toList
 nod:(D.map (·.born)).Nodup
def Us.nil (es:Array MapEntry):Us es []:=⟨mV,mV⟩
theorem G.mapRange (g:Nat)(es:Array MapEntry)(clock:Nat)(kt et:TypeId)(h:Mv P (adv P st)=.range (some (.map kt et)) (.map (some g)))(L:u g=some (.map es clock)\/m g=some (.map es clock))
 (k:∀ i,m i=none->u i=none->G P fn Post (nx (adv P st) (.pointer (some ⟨i,0,none⟩))) u (m.upd i (.mapIter (some g) clock (Ay []) clock))):G P fn Post st u m:=by
 refine G.bigX (K:=fun v z j=>z=u/\PH.le m j/\∃ i,m i=none/\u i=none/\v=.pointer (some ⟨i,0,none⟩)/\j=m.upd i (.mapIter (some g) clock (Ay []) clock)) h (by simp[Qg]) (.inl fun v z j C=>C.2.1) (fun env o d w e=>?_) (fun T z j N C=>?_)
 ·obtain⟨F,R,E,pos,n,t⟩:=o;simp only at d;unfold Mu at d;split at d<;>try (cases d;done)
  simp only[Pr.range.injEq]at d;obtain⟨I,J⟩:=d;have Q:w.heap[g]?=some (.map es clock):=L.elim (e.pu g _) (e.pm g _);obtain⟨g1,g2,g3,H⟩:=e.newO (o:=.mapIter (some g) clock (Ay []) clock) rfl;have O:=run_range_map (P:=P) w _ kt et g es clock I Q;refine B0 (w':=w.alloc (.mapIter (some g) clock (Ay []) clock)) (v:=.pointer (some ⟨w.heap.size,0,none⟩)) ?_ ⟨u,_,g1,g2,rfl,I9 _ g3,w.heap.size,g3,H,rfl,rfl⟩;simp only[execOp,J];simp[O,Ay]
 grind
def Aec (n:Nat)(h:0<n)(w:World):∃ j d,j<n/\(d=w\/d=w.drew)/\(choose (.mapNext n)).run P w=.ok j d:=by
 by_cases e:n<=1
 ·exact⟨0,w,h,.inl rfl,by simp[Question.forced,e]⟩
 exact⟨_,w.drew,A2l _ h,.inr rfl,by
  simp only[choose,Sem.run,Question.forced,decide_eq_true_eq,e,if_false,Question.cut];rfl⟩
theorem Ama {w:World}{t g:Nat}(N:TypeId)(J:w.heap[t]?=some (.mapIter (some g) clock (Ay D) clock))(T:w.heap[g]?=some (.map es clock))(K:Stamped es clock) :
 ((leftOf es (Ay D)).size=0/\(Instr.next (.pointer (some ⟨t,0,none⟩)) false N).run P w=.ok (.tuple #[.bool false]) w) \/
 ∃ e∈(leftOf es (Ay D)).toList,∃ h,(h=w\/h=w.drew)/\(Instr.next (.pointer (some ⟨t,0,none⟩)) false N).run P w=.ok (.tuple #[.bool true,e.key,e.val]) (Uv h t (.mapIter (some g) clock (Ay (D++[e])) clock)):=by
 have n:∀ e:MapEntry,(Ay D).push e.born=Ay (D++[e]):=fun e=>by simp[Ay]
 simp only[Instr.next,getObj,Sem.run_bind,Sem.run,J,T,Result.andThen,next_test_false (Ay D) es clock clock K.1 (A0s _),A3z,if_false];have d:∀ x∈(leftOf es (Ay D)).toList,x.born<clock:=fun x I=>K.1 x (mem_left I).1;have R:es.filter (fun e=>!(Ay D).contains e.born)=leftOf es (Ay D):=rfl;simp only[R];generalize leftOf es (Ay D)=L at d⊢;have O:L.filter (fun x=>decide (x.born<clock))=L:=Array.filter_eq_self.2 (fun x I=>by simpa using d x (by simpa using I));have Q:L.filter (fun x=>decide (x.born≥clock)) = #[]:=by simp_all
 simp only[O,Q,Array.append_empty];by_cases h0:L.size=0
 ·have:L = #[]:=A6i h0;subst this;simp[Question.forced]
 right;have H:L.isEmpty=false:=by grind
 simp only[H,A3z,if_false,Array.empty_append,Array.size_map];obtain⟨j,h,U,z,C⟩:=Aec (P:=P) L.size oV w;refine⟨L[j],mV,h,z,?_⟩;have F:h.heap[t]?=some (.mapIter (some g) clock (Ay D) clock):=by rcases z with rfl|rfl<;>exact J
 have E:∀ o':Obj,(setObj t o').run P h=.ok () (Uv h t o'):=fun o'=>by
  simp only[setObj,Sem.run,F,Uv]
 simp only[C,Array.getElem?_map,A15 U,A3g,Sem.run_bind,E,n];rfl
def Pf (D:List MapEntry)(b:Nat):(Ay D).contains b=true↔b∈D.map (·.born):=by
 unfold Ay;simp
def Am8 (F:Stamped es clock)(n:Us es D)(h:(leftOf es (Ay D)).size=0):D.Perm es.toList:=by
 have E:es.toList.Nodup:=L7 F.2.1;have z:D.Nodup:=L7 n.nod;refine (List.perm_ext_iff_of_nodup z E).2 fun e=>⟨n.sub e,fun I=>?_⟩;have C:leftOf es (Ay D) = #[]:=A6i h;have t:(Ay D).contains e.born=true:=by
  cases t:(Ay D).contains e.born with
  |true=>rfl
  |false =>
   have:e∈leftOf es (Ay D):=Array.mem_filter.2 ⟨by simpa using I,by rw[t];rfl⟩;rw[C]at this;simp at this
 obtain⟨d,H,L⟩:=A0r.1 ((Pf D _).1 t);have J:=find_born e es.toList F.2.1 I;have j:=find_born d es.toList F.2.1 (n.sub d H);rw[L]at j;rw[J]at j;have K:=A2k j;rw[K];exact H
def Us.snoc (h:Us es D){e:MapEntry}(C:e∈(leftOf es (Ay D)).toList):Us es (D++[e]):=by
 obtain⟨t,j⟩:=mem_left C;refine⟨fun x d=>?_,?_⟩
 ·simp only[A04,A07]at d;rcases d with d|rfl
  ·exact h.sub x d
  exact t
 simp only[A02,A1t,A38];refine A30.2 ⟨h.nod,mV,fun a z b n=>?_⟩;simp only[A07]at n;subst n;rintro rfl;rw[(Pf D _).2 z]at j;cases j
theorem G.mapNext (n g:Nat)(es:Array MapEntry)(clock:Nat)(D:List MapEntry)(h:Mv P (adv P st)=.next (.pointer (some ⟨n,0,none⟩)))(I:Q7 (adv P st)=true)(T:m n=some (.mapIter (some g) clock (Ay D) clock))(X:u g=some (.map es clock)\/m g=some (.map es clock))(U:Stamped es clock)(Q:Us es D)
 (k0:D.Perm es.toList->G P fn Post (nx (adv P st) (.tuple #[.bool false])) u m)
 (k1:∀ e,e∈es.toList->Us es (D++[e])->G P fn Post (nx (adv P st) (.tuple #[.bool true,e.key,e.val])) u (m.upd n (.mapIter (some g) clock (Ay (D++[e])) clock))):G P fn Post st u m:=by
 refine G.bigX (K:=fun v V N=>V=u/\((N=m/\v=.tuple #[.bool false]/\D.Perm es.toList)\/∃ e,e∈es.toList/\Us es (D++[e])/\v=.tuple #[.bool true,e.key,e.val]/\N=m.upd n (.mapIter (some g) clock (Ay (D++[e])) clock))) h (by simp[Qg]) (.inr I) (fun env o d w j=>?_) (fun v' V N Y hk=>?_)
 ·obtain⟨W,a0,E,pos,F,H⟩:=o;simp only at d;unfold Mu at d;split at d<;>try (cases d;done)
  simp only[Pr.next.injEq]at d;have Z:w.heap[g]?=some (.map es clock):=X.elim (j.pu g _) (j.pm g _);have L:=j.pm n _ T;rcases Ama (P:=P) E L Z U with ⟨h0,J⟩|⟨e,R,O,C,J⟩
  ·refine B0 (w':=w) (v:=.tuple #[.bool false]) ?_ ⟨u,m,j,Cn.refl _ _ _,rfl,.inl ⟨rfl,rfl,Am8 U Q h0⟩⟩;simp only[execOp,d];simp[J]
  have t:Ci u m O:=by rcases C with rfl|rfl;exact j;exact j.drew'
  have z:Cn u m w u m O:=by rcases C with rfl|rfl;exact Cn.refl _ _ _;exact j.drewG
  obtain⟨g1,g2⟩:=t.setO (o':=.mapIter (some g) clock (Ay (D++[e])) clock) T rfl;refine B0 (w':=Uv O n (.mapIter (some g) clock (Ay (D++[e])) clock)) (v:=.tuple #[.bool true,e.key,e.val]) ?_ ⟨u,_,g1,z.trans g2,rfl,.inr ⟨e,(mem_left R).1,Q.snoc R,rfl,rfl⟩⟩;simp only[execOp,d];simp[J]
 grind
theorem G.mapEntry (n g:Nat)(es:Array MapEntry)(clock:Nat)(D:List MapEntry)(e:MapEntry)(h:Mv P (adv P st)=.entry (.pointer (some ⟨n,0,none⟩)))(R:m n=some (.mapIter (some g) clock (Ay (D++[e])) clock))(Q:u g=some (.map es clock)\/m g=some (.map es clock))(V:Stamped es clock)(N:e∈es.toList)
 (k:G P fn Post (nx (adv P st) (.tuple #[e.key,e.val])) u m):G P fn Post st u m:=by
 refine G.bigX (K:=fun v F E=>F=u/\E=m/\v=.tuple #[e.key,e.val]) h (by simp[Qg]) (.inl fun v F E H=>by rw[H.2.1];exact PH.le_refl _) (fun env o d w j=>?_) (fun Y F E T H=>?_)
 ·obtain⟨J,X,I,pos,t,z⟩:=o;simp only at d;unfold Mu at d;split at d<;>try (cases d;done)
  simp only[Pr.entry.injEq]at d;have W:w.heap[g]?=some (.map es clock):=Q.elim (j.pu g _) (j.pm g _);have C:=j.pm n _ R;have L:(Ay (D++[e])).back?=some e.born:=by simp[Ay]
  have O:es.find? (fun x=>x.born==e.born)=some e:=by rw[<-Array.find?_toList];exact find_born e es.toList V.2.1 N
  have U:(Instr.entry (.pointer (some ⟨n,0,none⟩))).run P w=.ok (.tuple #[e.key,e.val]) w:=by
   simp only[Instr.entry,getObj,Sem.run_bind,Sem.run,C,W,Result.andThen,L,bne_self_eq_false,O];rfl
  refine B0 (w':=w) ?_ ⟨u,m,j,Cn.refl _ _ _,rfl,rfl,rfl⟩;simp only[execOp,d];simp[U]
 grind
end rules
end
section
variable {g:Nat}
variable [Cj]
def Kv (g:Nat)(o:Obj):PH:=PH.mt.upd g o
def PH.del (m:PH)(g:Nat):PH:=fun h=>if h=g then none else m h
def By (g:Nat)(o:Obj):Kv g o g=some o:=Ac _ _ _
def Kk {g h:Nat}(o:Obj)(d:h≠g):Kv g o h=none:=by unfold Kv;rw[Ad _ _ d];rfl
def Anb {m:PH}{o:Obj}(h:m g=some o):m=(m.del g).or (Kv g o)/\G1 (m.del g) (Kv g o):=by
 constructor
 ·funext k
  by_cases e:k=g
  ·subst e;rw[PH.or_r (by simp[PH.del]),By,h]
  cases hk:m k with
  |none=>rw[PH.or_r (by simp[PH.del,e,hk]),Kk o e]
  |some p=>rw[PH.or_l (o:=p) (by simp[PH.del,e,hk])]
 intro k;by_cases e:k=g
 ·left;simp[PH.del,e]
 right;exact Kk o e
def Anv {m:PH}{o:Obj}:(m.del g).or (Kv g o)=m.upd g o:=by
 funext k
 by_cases e:k=g
 ·subst e;rw[PH.or_r (by simp[PH.del]),By,Ac]
 rw[Ad _ _ e];cases hk:m k with
 |none=>rw[PH.or_r (by simp[PH.del,e,hk]),Kk o e]
 |some p=>rw[PH.or_l (o:=p) (by simp[PH.del,e,hk])]
section
variable {P:Program} [A6 P] {fn:Func} {Post:Ca} {st:List KI×S} {u m:PH}
def G.callG (f:Nat)(args:List Value){g:Nat}{o:Obj}{R:Value->PH->Obj->Prop}(h:Ak P (adv P st)=.call f args)(e:Q7 (adv P st)=true)(C:∀ args w,(callFunc f args).run P w=.ok (.enter f args) w)(E:m g=some o)
 (c:Ah P f args u (Kv g o) (fun v d j=>∃ o',j=Kv g o'/\R v d o')) (k:∀ v d o',PH.le u d->R v d o'->G P fn Post (nx (adv P st) v) d (m.upd g o')):G P fn Post st u m:=by
 obtain⟨n,t⟩:=Anb E;refine G.callA f args h e C n t c ?_;rintro v d j F ⟨o',rfl,z⟩ _;rw[Anv];exact k v d o' F z
def Ah.giveAll {f:FuncId}{args:List Value}{R:Value->PH->PH->Prop}(c:Ah P f args u PH.mt R):Fn0 P f args u (fun v h=>∃ J I,PH.le J h/\PH.le I h/\R v J I):=by
 intro w Q;refine Calls.mono (c w Q) fun e w' O=>?_;obtain⟨v,h,F,K,H,n,L⟩:=O;have E:PH.le h (F.or h):=fun g o d=>by
  cases hx:F g with
  |none=>rw[PH.or_r hx];exact d
  |some p=>have:=(H.ap g).resolve_right (by rw[hx];simp);rw[this]at d;cases d
 refine⟨v,F.or h,PH.mt,K,⟨fun g o d=>?_,F7.mt _,fun g=>.inr rfl,fun g cs t fr j z d T=>?_⟩,⟨n.sz,n.old,fun g C=>?_,fun _ _ _=>rfl,n.io,n.dr⟩,rfl,h,F,E,fun g o d=>PH.or_l d,L⟩
 ·cases hx:F g with
  |none=>rw[PH.or_r hx]at d;exact H.pu g o d
  |some p=>rw[PH.or_l hx]at d;cases d;exact H.pm g _ hx
 ·exact E g _ (H.cl g cs t fr j z d T)
 rw[PH.or_r (n.ms g C rfl)];exact n.us g C
end
abbrev SlI:Type:=Option Addr×Nat×Nat
section
variable {κ:Type} [DecidableEq κ] {enc:κ->Value} {R:PH->Value->Rat->Prop} {nz:Bool} {u:PH} {o:Obj} {f:κ->Rat} {N s:Nat}
def Ol {a:κ}:∀ {l:List (κ×Value)} {v:Value},D1 a l=some v->(a,v)∈l
 |(b,w)::l,v,h=>by
  unfold D1 at h;split at h
  ·rename_i e;cases h;rw[e];simp
  exact A01 _ (Ol h)
def Acq {a:κ}:∀ {l:List (κ×Value)} {v:Value},(l.map (·.1)).Nodup->(a,v)∈l->D1 a l=some v
 |(b,w)::l,v,hn,h=>by
  simp only[A1t,A3a]at hn;unfold D1;rcases A0v.1 h with e|e
  ·cases e;rw[if_pos rfl]
  have:a≠b:=fun d=>hn.1 (by rw[<-d];exact A0r.2 ⟨_,e,rfl⟩);rw[if_neg this];exact Acq hn.2 e
def Ado {a:κ}{x:Value}:∀ {l:List (κ×Value)} {p:κ×Value},(l.map (·.1)).Nodup->p∈Is a x l->p=(a,x)\/(p∈l/\p.1≠a)
 |[],p,_,h=>by simp[Is]at h;exact .inl h
 |(b,w)::l,p,hn,h=>by
  simp only[A1t,A3a]at hn;unfold Is at h;split at h
  ·rename_i e;subst e;rcases A0v.1 h with h|h
   ·exact .inl h
   refine .inr ⟨A01 _ h,fun d=>hn.1 ?_⟩;rw[<-d];exact A0r.2 ⟨p,h,rfl⟩
  rename_i e;rcases A0v.1 h with h|h
  ·subst h;exact .inr ⟨mV,fun d=>e d.symm⟩
  rcases Ado hn.2 h with h|⟨h,j⟩
  ·exact .inl h
  exact .inr ⟨A01 _ h,j⟩
def Zi {a:κ}{x:Value}{k:κ}:∀ {l:List (κ×Value)},k∈(Is a x l).map (·.1)↔k=a\/k∈l.map (·.1)
 |[]=>by simp[Is]
 |(b,w)::l=>by
  unfold Is;split
  ·rename_i e;subst e;simp
  simp only[A1t,A0v,Zi (l:=l)];constructor
  ·rintro (h|h|h)
   ·exact .inr (.inl h)
   ·exact .inl h
   exact .inr (.inr h)
  rintro (h|h|h)
  ·exact .inr (.inl h)
  ·exact .inl h
  exact .inr (.inr h)
def Ug {a:κ}{x:Value}:∀ {l:List (κ×Value)},(Is a x l).length<=l.length+1
 |[]=>by simp[Is]
 |(b,w)::l=>by
  unfold Is;split
  ·simp
  have:=Ug (a:=a) (x:=x) (l:=l);simp;omega
def Md (f:κ->Rat)(a:κ)(q:Rat):κ->Rat:=fun k=>if k=a then q else f k
end
end
section
abbrev Par:=Int×List UInt8
def Tp:∀ a:List UInt8,Op.bytesLess a a=false
 |[]=>rfl
 |x::a=>by unfold Op.bytesLess;rw[Tp a];simp
def Q1:∀ {a b c:List UInt8},Op.bytesLess a b=true->Op.bytesLess b c=true->Op.bytesLess a c=true
 |_,[],_,h,_=>by simp[Op.bytesLess]at h
 |_,_::_,[],_,k=>by simp[Op.bytesLess]at k
 |[],_::_,_::_,_,_=>rfl
 |x::a,y::b,z::c,h,k=>by
  unfold Op.bytesLess at h k⊢;simp only[A33,decide_eq_true_eq,A1b,beq_iff_eq]at h k⊢;rcases h with h|⟨rfl,h⟩
  ·rcases k with k|⟨rfl,k⟩
   ·exact .inl (UInt8.lt_trans h k)
   exact .inl h
  rcases k with k|⟨rfl,k⟩
  ·exact .inl k
  exact .inr ⟨rfl,Q1 h k⟩
def Abh:∀ {a b:List UInt8},Op.bytesLess a b=false->Op.bytesLess b a=false->a=b
 |[],[],_,_=>rfl
 |[],_::_,h,_=>by simp[Op.bytesLess]at h
 |_::_,[],_,k=>by simp[Op.bytesLess]at k
 |x::a,y::b,h,k=>by
  unfold Op.bytesLess at h k;simp only[Bool.or_eq_false_iff,decide_eq_false_iff_not,A73,beq_eq_false_iff_ne]at h k;have d:x=y:=by
   rcases A5q x.toNat y.toNat with e|e|e
   ·exact absurd (A9m.2 e) h.1
   ·exact A8b.1 e
   exact absurd (A9m.2 e) k.1
  subst d;have g:=h.2.resolve_left (fun e=>e rfl);have j:=k.2.resolve_left (fun e=>e rfl);rw[Abh g j]
def Ur (a b:List UInt8):Int:=if Op.bytesLess a b then -1 else if a=b then 0 else 1
def P6 (x y:Int):Int:=if x<y then -1 else if y<x then 1 else 0
def Bf (a b:Par):Int:=if P6 a.1 b.1≠0 then P6 a.1 b.1 else Ur a.2 b.2
def Nk (a b:Par×Par):Int:=if Bf a.1 b.1≠0 then Bf a.1 b.1 else Bf a.2 b.2
structure Ord {κ:Type}(c:κ->κ->Int):Prop where
 refl:∀ a,c a a=0
 eq:∀ a b,c a b=0->a=b
 sym:∀ a b,c a b<0↔0<c b a
 trans:∀ a b d,c a b<0->c b d<0->c a d<0
def Az0:Ord Ur:=by
 refine⟨fun a=>by simp[Ur,Tp],fun a b h=>?_,fun a b=>?_,fun a b d h k=>?_⟩
 ·unfold Ur at h;split at h
  ·cases h
  split at h
  ·assumption
  cases h
 ·unfold Ur;by_cases h:Op.bytesLess a b=true
  ·rw[if_pos h];have g:¬ (Op.bytesLess b a=true):=fun k=>by have:=Q1 h k;rw[Tp]at this;cases this
   have m:¬ (b=a):=fun e=>by rw[e,Tp]at h;cases h
   rw[if_neg g,if_neg m];omega
  rw[if_neg h];constructor
  ·intro k;split at k<;>omega
  intro k;by_cases g:Op.bytesLess b a=true
  ·rw[if_pos g]at k;omega
  rw[if_neg g]at k;have:=Abh (Bool.eq_false_iff.2 g) (Bool.eq_false_iff.2 h);rw[if_pos this]at k;omega
 have j:Op.bytesLess a b=true:=by
  unfold Ur at h;split at h
  ·assumption
  split at h<;>omega
 have n:Op.bytesLess b d=true:=by
  unfold Ur at k;split at k
  ·assumption
  split at k<;>omega
 unfold Ur;rw[if_pos (Q1 j n)];omega
def Az7:Ord P6:=by
 refine⟨fun a=>by simp[P6],fun a b h=>?_,fun a b=>?_,fun a b d h k=>?_⟩;all_goals unfold P6 at *
 ·split at h<;>(try split at h)<;>omega
 ·split<;>split<;>(try split)<;>omega
 split at h<;>split at k<;>(try split at h)<;>(try split at k)<;>split<;>(try split)<;>omega
def Ord.lex {α β:Type}{c:α->α->Int}{d:β->β->Int}(h:Ord c)(k:Ord d):Ord (fun (a b:α×β)=>if c a.1 b.1≠0 then c a.1 b.1 else d a.2 b.2):=by
 refine⟨fun a=>by simp[h.refl,k.refl],fun a b e=>?_,fun a b=>?_,fun a b x e f=>?_⟩
 ·by_cases h0:c a.1 b.1=0
  ·simp only[h0,ne_eq,not_true,if_false]at e;exact A56 (h.eq _ _ h0) (k.eq _ _ e)
  simp only[h0,ne_eq,not_false_eq_true,if_true]at e
 ·have F:=h.sym a.1 b.1;have I:=h.sym b.1 a.1;by_cases h0:c a.1 b.1=0
  ·have e:=h.eq _ _ h0;have t:c b.1 a.1=0:=by rw[<-e];exact h.refl _
   simp only[h0,t,ne_eq,not_true,if_false];exact k.sym _ _
  have t:c b.1 a.1≠0:=fun H=>h0 (by rw[h.eq _ _ H];exact h.refl _);simp only[h0,t,ne_eq,not_false_eq_true,if_true];exact F
 have g:∀ y z:α×β,(if c y.1 z.1≠0 then c y.1 z.1 else d y.2 z.2)<0↔(c y.1 z.1<0\/(y.1=z.1/\d y.2 z.2<0)):=fun y z=>by
  by_cases h0:c y.1 z.1=0
  ·have e:=h.eq _ _ h0;simp only[h0,ne_eq,not_true,if_false];constructor
   ·intro j;exact .inr ⟨e,j⟩
   rintro (j|⟨_,j⟩)
   ·omega
   exact j
  simp only[h0,ne_eq,not_false_eq_true,if_true];constructor
  ·intro j;exact .inl j
  rintro (j|⟨m,_⟩)
  ·exact j
  exact absurd (by rw[m];exact h.refl _) h0
 have m:=(g a b).1 e;have f':=(g b x).1 f;refine (g a x).2 ?_;rcases m with m|⟨u,E⟩
 ·rcases f' with f'|⟨n,C⟩
  ·exact .inl (h.trans _ _ _ m f')
  rw[<-n];exact .inl m
 rcases f' with f'|⟨n,C⟩
 ·rw[u];exact .inl f'
 exact .inr ⟨u.trans n,k.trans _ _ _ E C⟩
def Dl:Ord Bf:=Ord.lex Az7 Az0
def A0g:Ord Nk:=Ord.lex Dl Dl
section
variable {κ:Type} {c:κ->κ->Int}
def D5 (c:κ->κ->Int)(l:List κ):Prop:=l.Pairwise fun a b=>c a b<0
def Ord.irr (h:Ord c)(a:κ):¬ c a a<0:=by rw[h.refl];omega
def Ad6 (h:Ord c):∀ {l g:List κ},D5 c l->D5 c g->(∀ a,a∈l↔a∈g)->l=g
 |[],[],_,_,_=>rfl
 |[],b::g,_,_,e=>by have:=(e b).2 mV;simp at this
 |a::l,[],_,_,e=>by have:=(e a).1 mV;simp at this
 |a::l,b::g,h1,h2,e=>by
  obtain⟨m,t⟩:=A5j.1 h1;obtain⟨n,u⟩:=A5j.1 h2;have j:a=b:=by
   rcases A0v.1 ((e a).1 mV) with r|r
   ·exact r
   rcases A0v.1 ((e b).2 mV) with s|s
   ·exact s.symm
   exact absurd (h.trans _ _ _ (m b s) (n a r)) (h.irr a)
  subst j
  congr 1
  refine Ad6 h t u fun x=>?_;constructor
  ·intro d;rcases A0v.1 ((e x).1 (by simp[d])) with r|r
   ·subst r;exact absurd (m x d) (h.irr x)
   exact r
  intro d;rcases A0v.1 ((e x).2 (by simp[d])) with r|r
  ·subst r;exact absurd (n x d) (h.irr x)
  exact r
def D5.nodup (h:Ord c){l:List κ}(g:D5 c l):l.Nodup:=g.imp fun d e=>by rw[e]at d;exact h.irr _ d
structure Can (c:κ->κ->Int)(f:κ->Rat)(l:List (κ×Rat)):Prop where
 srt:D5 c (l.map (·.1))
 val:∀ p∈l,p.2=f p.1/\p.2≠0
 out:∀ k,k∉l.map (·.1)->f k=0
end
structure CF where
 c:Rat
 s:Par->Rat
 t:Par×Par->Rat
def Aw (p q:Par):Par×Par:=if 0<Bf p q then (q,p) else (p,q)
def V6 (p q:Par):Aw p q=Aw q p:=by
 unfold Aw;have e:=Dl.sym p q;have g:=Dl.sym q p;by_cases h:0<Bf p q
 ·rw[if_pos h,if_neg oV]
 rw[if_neg h];by_cases d:0<Bf q p
 ·rw[if_pos d]
 rw[if_neg d];have:=Dl.eq p q oV;rw[this]
def CF.zero:CF:=⟨0,fun _=>0,fun _=>0⟩
def CF.add (a b:CF):CF:=⟨a.c+b.c,fun p=>a.s p+b.s p,fun q=>a.t q+b.t q⟩
def CF.scale (k:Rat)(a:CF):CF:=⟨a.c*k,fun p=>a.s p*k,fun q=>a.t q*k⟩
def Ik (a b:CF)(q:Par×Par):Rat:=if 0<Bf q.1 q.2 then 0 else if q.1=q.2 then 2*(a.s q.1*b.s q.1) else a.s q.1*b.s q.2+a.s q.2*b.s q.1
def CF.mul (a b:CF):CF:=⟨a.c*b.c,fun p=>b.s p*a.c+a.s p*b.c,fun q=>b.t q*a.c+a.t q*b.c+Ik a b q⟩
def CF.ext' {a b:CF}(d:a.c=b.c)(e:∀ p,a.s p=b.s p)(g:∀ q,a.t q=b.t q):a=b:=by
 cases a;cases b;simp only at d e g;rw[d,funext e,funext g]
theorem Ahn (a b:CF)(q:Par×Par):Ik a b q=Ik b a q:=by
 unfold Ik;split
 ·rfl
 split<;>grind
theorem CF.mul_comm (a b:CF):a.mul b=b.mul a:=CF.ext' (by simp only[CF.mul];grind) (fun p=>by simp only[CF.mul];grind) (fun q=>by simp only[CF.mul];rw[Ahn];grind)
theorem CF.mul_zero (a:CF):a.mul CF.zero=CF.zero:=by
 refine CF.ext' (by simp only[CF.mul,CF.zero];grind) (fun p=>by simp only[CF.mul,CF.zero];grind) (fun q=>?_);simp only[CF.mul,CF.zero,Ik];split
 ·grind
 split<;>grind
end
section
variable {k:IntKind}{o:Nat}{t ti ts:TypeId}{xs:Array Value}
def An (p:Par):Value:=.agg #[.int .i64 p.1,.string (mkS p.2)]
def prV (q:Par×Par):Value:=.agg #[.int .i64 q.1.1,.string (mkS q.1.2),.int .i64 q.2.1,.string (mkS q.2.2)]
def Se (f:Field):Bool×TypeId×Nat:=(f.name != "_",f.type,f.offset)
section
variable {P:Program}
def Dp {v:Value}(h:M2 P t=some false)(d:xs[o]?=some v)(w:World):(part t xs o).run P w=.ok v w:=by
 simp[part,Ei h,d]
def Ff {n:Nat}(h:M2 P t=some true)(d:szB P t=some n)(w:World):(part t xs o).run P w=.ok (.agg (xs.extract o (o+n))) w:=by
 simp[part,Ei h,Bg d]
def Qh (h:P.underlying t=some (.int k)):M2 P t=some false:=by unfold M2;rw[h]
def Eo (h:P.underlying t=some .string):M2 P t=some false:=by unfold M2;rw[h]
def Qy (a b:List UInt8):((mkS a).toList==(mkS b).toList)=decide (a=b):=K8 a b
def Ab4 {A B:Type}{h:A->B}{d:List A}{x y:B}(e:d.map h = [x,y]):∃ f g,d = [f,g]:=by
 have h0:=congrArg List.length e;simp only[A0k,A1y,A3q]at h0
 match d,h0 with
 |[f,g],_=>exact⟨f,g,rfl⟩
def Ma (h:(P.fieldsOf t).toList.map Se = [(true,ti,0),(true,ts,1)])(J:P.underlying t=some (.struct (P.fieldsOf t)))(hp:P.stoodInHeld t=false)(u:P.underlying ti=some (.int k))(z:P.underlying ts=some .string)(d:Nat)(a b:Par)(w:World) :
 (Op.equalIn (d+2) t (An a) (An b)).run P w=.ok (decide (a=b)) w:=by
 unfold An;rw[run_equalIn_struct w (d+1) t _ _ J hp];generalize (P.fieldsOf t).toList=fs at h;obtain⟨f,g,n⟩:=Ab4 h;subst n;simp only[A1t,A38,A3b,Se,A2c,bne_iff_ne,ne_eq,and_true]at h;obtain⟨⟨K,rfl,H⟩,L,rfl,I⟩:=h;obtain⟨j,C⟩:=a;obtain⟨m,E⟩:=b;simp only[Op.eqFields,ne_eq,K,L,not_false_eq_true,if_true,Sem.run_bind];rw[Dp (Qh u) (v:=.int .i64 j) (by rw[H];rfl),Result.andThen_ok,Dp (Qh u) (v:=.int .i64 m) (by rw[H];rfl),Result.andThen_ok,run_equalIn_int w d _ _ _ _ _ u,Result.andThen_ok];by_cases e:j=m
 ·subst e;simp only[beq_self_eq_true,A5m,A3z,if_false,Sem.run_bind];rw[Dp (Eo z) (v:=.string (mkS C)) (by rw[I];rfl),Result.andThen_ok,Dp (Eo z) (v:=.string (mkS E)) (by rw[I];rfl),Result.andThen_ok,run_equalIn_string w d _ _ _ z,Result.andThen_ok,Qy];by_cases F:C=E
  ·subst F;simp
  simp[F]
 have:(j==m)=false:=by simpa using e
 simp[this,e]
def Mf (h:(∃ k,P.underlying t=some (.int k))\/P.underlying t=some .string)(e:Bool)(d:Nat)(v:Value)(w:World):(Instr.checkKey e (d+1) t v).run P w=.ok () w:=by
 unfold Instr.checkKey;rcases h with ⟨k,h⟩|h<;>simp[run_underlying h]
def N9 (h:(P.fieldsOf t).toList.map Se = [(true,ti,0),(true,ts,1)])(C:P.underlying t=some (.struct (P.fieldsOf t)))(m:P.underlying ti=some (.int k))(n:P.underlying ts=some .string)(e:Bool)(d:Nat)(a:Par)(w:World) :
 (Instr.checkKey e (d+2) t (An a)).run P w=.ok () w:=by
 unfold An;rw[Instr.checkKey];simp only[Sem.run_bind,run_underlying C,Result.andThen_ok];rw[<-Array.forIn_toList];generalize (P.fieldsOf t).toList=fs at h;obtain⟨f,g,j⟩:=Ab4 h;subst j;simp only[A1t,A38,A3b,Se,A2c,bne_iff_ne,ne_eq,and_true]at h;obtain⟨⟨E,u,H⟩,F,z,I⟩:=h;simp only[List.forIn_cons,List.forIn_nil,ne_eq,E,F,not_false_eq_true,if_true,Sem.run_bind,u,z,H,I];rw[Dp (Qh m) (v:=.int .i64 a.1) rfl,Result.andThen_ok,Mf (.inl ⟨k,m⟩)];simp only[Result.andThen_ok,Sem.run_pure,Sem.run_bind];rw[Dp (Eo n) (v:=.string (mkS a.2)) rfl,Result.andThen_ok,Mf (.inr n)];simp
def Ar9 (a b:Par)(h:An a=An b):a=b:=by
 unfold An at h;simp only[Value.agg.injEq,A5b,A3b,Value.int.injEq,Value.string.injEq,true_and,and_true]at h;exact A56 h.1 (Add.1 h.2)
def Aum (a b:Par×Par)(h:prV a=prV b):a=b:=by
 unfold prV at h;simp only[Value.agg.injEq,A5b,A3b,Value.int.injEq,Value.string.injEq,true_and,and_true]at h;exact A56 (A56 h.1 (Add.1 h.2.1)) (A56 h.2.2.1 (Add.1 h.2.2.2))
def Agj (d:Nat)(k:IntKind)(z:Int):Instr.sameBits d (.int k z) (.int k z)=true:=by unfold Instr.sameBits;simp
def Y0 (d:Nat)(z:ByteArray):Instr.sameBits d (.string z) (.string z)=true:=by
 obtain⟨⟨l⟩⟩:=z;have:((⟨⟨l⟩⟩:ByteArray) == ⟨⟨l⟩⟩)=true:=by rw[beq_toListBytes];simp
 unfold Instr.sameBits;exact this
def Apg (a:Par):Instr.sameBits 10000 (An a) (An a)=true:=by
 show Instr.sameBits (9999+1) _ _=true;unfold An Instr.sameBits;simp[Agj,Y0]
def Avc (a:Par×Par):Instr.sameBits 10000 (prV a) (prV a)=true:=by
 show Instr.sameBits (9999+1) _ _=true;unfold prV Instr.sameBits;simp[Agj,Y0]
end
theorem Bo:Wp prog 78 An :=
 ⟨fun a b w=>Ma (P:=prog) (t:=78) (ti:=3) (ts:=9) (k:=.i64) kV kV kV kV kV 9998 a b w,
  ⟨_,(by kernel_rfl:prog.underlying 78=some (.struct (prog.fieldsOf 78))),.inl fun _ _=>rfl⟩,
  fun e a w=>N9 (P:=prog) (t:=78) (ti:=3) (ts:=9) (k:=.i64) kV kV kV kV e 9998 a w,Apg,Ar9⟩
end
section
section
variable {P:Program}
def Ah7 {t e ti ts:TypeId}{k:IntKind}(U:P.underlying t=some (.array 2 e))(L:(P.info? e).isSome=true)(T:P.cellsOf e=2)(h:szB P e=some 2)
 (I:(P.fieldsOf e).toList.map Se = [(true,ti,0),(true,ts,1)]) (j:P.underlying e=some (.struct (P.fieldsOf e))) (J:P.stoodInHeld e=false) (K:P.underlying ti=some (.int k)) (O:P.underlying ts=some .string) (d:Nat) (a b:Par×Par) (w:World) :
 (Op.equalIn (d+3) t (prV a) (prV b)).run P w=.ok (decide (a=b)) w:=by
 have g:M2 P e=some true:=by unfold M2;rw[j]
 obtain⟨i,L⟩:=A55.1 L;unfold prV;rw[run_equalIn_array w (d+2) _ _ U L,T];obtain⟨⟨m,n⟩,u,z⟩:=a;obtain⟨⟨C,E⟩,F,H⟩:=b;rw[show List.range 2 = [0,1] from rfl];simp only[Op.eqItems,Sem.run_bind,A42,A27];rw[Ff g h,Result.andThen_ok,Ff g h,Result.andThen_ok];have Q:=Ma I j J K O d (m,n) (C,E) w;have R:=Ma I j J K O d (u,z) (F,H) w;unfold An at Q R;have V:(#[Value.int .i64 m,.string (mkS n),.int .i64 u,.string (mkS z)].extract 0 (0+2)) = #[.int .i64 m,.string (mkS n)]:=rfl;have W:(#[Value.int .i64 C,.string (mkS E),.int .i64 F,.string (mkS H)].extract 0 (0+2)) = #[.int .i64 C,.string (mkS E)]:=rfl;have X:(#[Value.int .i64 m,.string (mkS n),.int .i64 u,.string (mkS z)].extract 2 (2+2)) = #[.int .i64 u,.string (mkS z)]:=rfl;have Y:(#[Value.int .i64 C,.string (mkS E),.int .i64 F,.string (mkS H)].extract 2 (2+2)) = #[.int .i64 F,.string (mkS H)]:=rfl;simp only[V,W,Q,Result.andThen_ok];by_cases e:((m,n):Par)=(C,E)
 ·simp only[e,decide_true,A5m,A3z,if_false,Sem.run_bind];rw[Ff g h,Result.andThen_ok,Ff g h,Result.andThen_ok];simp only[X,Y,R,Result.andThen_ok];by_cases N:((u,z):Par)=(F,H)
  ·simp[N]
  simp[N]
 simp[e]
def Af8 {t e ti ts:TypeId}{k:IntKind}(F:P.underlying t=some (.array 2 e))(g:szB P e=some 2)
 (n:(P.fieldsOf e).toList.map Se = [(true,ti,0),(true,ts,1)]) (j:P.underlying e=some (.struct (P.fieldsOf e))) (u:P.underlying ti=some (.int k)) (z:P.underlying ts=some .string) (h:Bool) (d:Nat) (a:Par×Par) (w:World) :
 (Instr.checkKey h (d+3) t (prV a)).run P w=.ok () w:=by
 have m:M2 P e=some true:=by unfold M2;rw[j]
 unfold prV;rw[Instr.checkKey];simp only[Sem.run_bind,run_underlying F,Result.andThen_ok];have C:=N9 n j u z h d a.1 w;have E:=N9 n j u z h d a.2 w;unfold An at C E;have H:(#[Value.int .i64 a.1.1,.string (mkS a.1.2),.int .i64 a.2.1,.string (mkS a.2.2)].extract 0 (0+2)) = #[.int .i64 a.1.1,.string (mkS a.1.2)]:=rfl;have I:(#[Value.int .i64 a.1.1,.string (mkS a.1.2),.int .i64 a.2.1,.string (mkS a.2.2)].extract 2 (2+2)) = #[.int .i64 a.2.1,.string (mkS a.2.2)]:=rfl;simp only[Std.Legacy.Range.forIn_eq_forIn_range',Std.Legacy.Range.size,A68,Nat.add_one_sub_one,Bap,show List.range' 0 2 1 = [0,1] from rfl,List.forIn_cons,List.forIn_nil,Sem.run_bind,Bg g,Result.andThen_ok,A42,A27];rw[Ff m g,Result.andThen_ok,H,C];simp only[Result.andThen_ok,Sem.run_pure,Sem.run_bind,Bg g,A27];rw[Ff m g,Result.andThen_ok,I,E];simp
end
theorem Id:Wp prog 224 prV :=
 ⟨fun a b w=>Ah7 (P:=prog) (t:=224) (e:=78) (ti:=3) (ts:=9) (k:=.i64) kV kV kV kV kV kV kV kV kV 9997 a b w,
  ⟨_,(by kernel_rfl:prog.underlying 224=some (.array 2 78)),.inl fun _ _=>rfl⟩,
  fun e a w=>Af8 (P:=prog) (t:=224) (e:=78) (ti:=3) (ts:=9) (k:=.i64) kV kV kV kV kV kV e 9997 a w,Avc,Aum⟩
end
section
variable [Cj]
open Go.MapKept
def Tl {α β:Type}(f:α->β):∀ {l:List α} {x y:α},(l.map f).Nodup->x∈l->y∈l->f x=f y->x=y
 |[],_,_,_,h,_,_=>by simp at h
 |a::l,x,y,hn,g,d,e=>by
  simp only[A1t,A3a]at hn;rcases A0v.1 g with n|g
  ·subst n;rcases A0v.1 d with j|d
   ·exact j.symm
   exact absurd (A0r.2 ⟨y,d,e.symm⟩) hn.1
  rcases A0v.1 d with j|d
  ·rw[j]at e;exact absurd (A0r.2 ⟨x,g,e⟩) hn.1
  exact Tl f hn.2 g d e
def Wn {α β:Type}(f:α->β):∀ {L l:List α},(L.map f).Nodup->(∀ p∈L,p∈l)->L.length<=l.length
 |[],_,_,_=>A1c _
 |a::L,l,hn,hs=>by
  simp only[A1t,A3a]at hn;obtain⟨s,t,rfl⟩:=A6c (hs a mV);have:=Wn f (L:=L) (l:=s++t) hn.2 (fun p hp=>by
   have g:=hs p (by simp[hp]);have d:p≠a:=fun e=>hn.1 (by rw[<-e];exact A0r.2 ⟨p,hp,rfl⟩);simp only[A04,A0v]at g⊢;rcases g with h|h|h
   ·exact .inl h
   ·exact absurd h d
   exact .inr h)
  simp only[A03,A1y]at this⊢;omega
section
variable {κ:Type} [DecidableEq κ] {enc:κ->Value}
structure Fs (enc:κ->Value)(es:Array MapEntry)(l:List (κ×Value))(D:List MapEntry)(L:List (κ×Value)):Prop where
 it:Us es D
 kv:D.map (fun e=>(e.key,e.val))=L.map (fun p=>(enc p.1,p.2))
 sub:∀ p∈L,p∈l
 nod:(L.map (·.1)).Nodup
def Fs.nil (es:Array MapEntry)(l:List (κ×Value)):Fs enc es l [] []:=⟨Us.nil es,rfl,mV,mV⟩
def Fs.snoc (C:∀ a b,enc a=enc b->a=b){es:Array MapEntry}{l:List (κ×Value)}{D:List MapEntry}{L:List (κ×Value)}(O:es.toList.map (fun e=>(e.key,e.val))=l.map (fun p=>(enc p.1,p.2)))(Q:(l.map (·.1)).Nodup)
 (h:Fs enc es l D L) {e:MapEntry} (K:e∈es.toList) (N:Us es (D++[e])):∃ p,p∈l/\e.key=enc p.1/\e.val=p.2/\p.1∉L.map (·.1)/\Fs enc es l (D++[e]) (L++[p]):=by
 have T:(e.key,e.val)∈l.map (fun p=>(enc p.1,p.2)):=by rw[<-O];exact A0r.2 ⟨e,K,rfl⟩
 obtain⟨p,hp,d⟩:=A0r.1 T;simp only[A2c]at d;have E:(es.toList.map (·.key)).Nodup:=by
  have R:es.toList.map (·.key)=(l.map (·.1)).map enc:=by
   have:=congrArg (List.map (·.1)) O;simpa[Function.comp_def] using this
  rw[R];exact A8p.2 (Q.imp fun F g=>F (C _ _ g))
 have n:p.1∉L.map (·.1):=by
  intro W;obtain⟨q,j,I⟩:=A0r.1 W;have H:q=p:=Tl (·.1) Q (h.sub q j) hp I;subst H;have U:(enc q.1,q.2)∈D.map (fun e=>(e.key,e.val)):=by rw[h.kv];exact A0r.2 ⟨q,j,rfl⟩
  obtain⟨g,t,z⟩:=A0r.1 U;simp only[A2c]at z;have:g=e:=Tl (·.key) E (h.it.sub g t) K (z.1.trans d.1);subst this;have:=N.nod;rw[A02,A30]at this;exact this.2.2 g.born (A0r.2 ⟨g,t,rfl⟩) g.born mV rfl
 refine⟨p,hp,d.1.symm,d.2.symm,n,N,?_,fun q j=>?_,?_⟩
 ·rw[A02,A02,h.kv];simp[d.1,d.2]
 ·rcases A04.1 j with j|j
  ·exact h.sub q j
  simp at j;subst j;exact hp
 rw[A02,A30];exact⟨h.nod,mV,fun a V b J g=>n (by simp at J;rw[<-J,<-g];exact V)⟩
def Fs.all (j:∀ a b,enc a=enc b->a=b){es:Array MapEntry}{l:List (κ×Value)}{D:List MapEntry}{L:List (κ×Value)}(E:es.toList.map (fun e=>(e.key,e.val))=l.map (fun p=>(enc p.1,p.2)))
 (h:Fs enc es l D L) (hp:D.Perm es.toList):∀ p∈l,p∈L:=by
 intro p n;have t:(enc p.1,p.2)∈es.toList.map (fun e=>(e.key,e.val)):=by rw[E];exact A0r.2 ⟨p,n,rfl⟩
 obtain⟨e,C,d⟩:=A0r.1 t;have z:(e.key,e.val)∈L.map (fun p=>(enc p.1,p.2)):=by rw[<-h.kv];exact A0r.2 ⟨e,hp.mem_iff.2 C,rfl⟩
 obtain⟨q,F,g⟩:=A0r.1 z;simp only[A2c]at g d;have:q=p:=A56 (j _ _ (g.1.trans d.1)) (g.2.trans d.2);subst this;exact F
def Fs.len {es:Array MapEntry}{l:List (κ×Value)}{D:List MapEntry}{L:List (κ×Value)}(h:Fs enc es l D L):L.length<=l.length:=Wn (·.1) h.nod h.sub
end
section rules
variable {P:Program} [A6 P] {fn:Func} {Post:Ca} {st:List KI×S} {u m:PH}
variable {κ:Type} [DecidableEq κ] {enc:κ->Value}
def G.mapNextL (j:∀ a b,enc a=enc b->a=b)(n g:Nat)(es:Array MapEntry)(d:Nat)(l:List (κ×Value))(D:List MapEntry)(L:List (κ×Value))(h:Mv P (adv P st)=.next (.pointer (some ⟨n,0,none⟩)))(z:Q7 (adv P st)=true)
 (Q:m n=some (.mapIter (some g) d (Ay D) d)) (O:u g=some (.map es d)\/m g=some (.map es d)) (T:Stamped es d) (I:es.toList.map (fun e=>(e.key,e.val))=l.map (fun p=>(enc p.1,p.2))) (R:(l.map (·.1)).Nodup) (t:Fs enc es l D L)
 (U:(∀ p∈l,p∈L)->G P fn Post (nx (adv P st) (.tuple #[.bool false])) u m)
 (V:∀ p e,p∈l->p.1∉L.map (·.1)->e∈es.toList->e.key=enc p.1->e.val=p.2->Fs enc es l (D++[e]) (L++[p])->G P fn Post (nx (adv P st) (.tuple #[.bool true,enc p.1,p.2])) u (m.upd n (.mapIter (some g) d (Ay (D++[e])) d))):G P fn Post st u m:=by
 refine G.mapNext n g es d D h z Q O T t.it (fun hp=>U (t.all j I hp)) (fun e H C=>?_);obtain⟨p,J,E,F,K,N⟩:=t.snoc j I R H C;rw[E,F];exact V p e J K H E F N
end rules
end
section
variable {k n:Nat}{q:Rat}{s:Src}{ts:List Int}{u:PH}
def Azz {x:Int}(m:-9223372036854775808<=x)(t:x<=9223372036854775807)(d:0<n)(e:n<=1000000) :
 Fn0 prog 77 [.int .i64 x,.int .i64 n] u fun v _=>∃ r:Nat,v=.int .i64 r/\r<n:=by
 refine Fn0.o func77<|G.lF n 1 ?_;have h:=A99 x (show (0:Int)<n by omega);have j:=Baa x (show (0:Int)<n by omega);refine G.remZ x (n:Int) (x.tmod n) kV oV oV rfl<|G.add (x.tmod n) (n:Int) (x.tmod n+n) kV rfl oV oV ?_;obtain⟨y,g⟩:∃ y:Nat,x.tmod n+n=(y:Int):=⟨(x.tmod n+n).toNat,oV⟩;exact G.remZ (x.tmod n+n) (n:Int) ((y%n:Nat):Int) kV oV oV (by rw[g,A5p oV];rfl)<|G.r _ ⟨rfl,y%n,rfl,A2l _ d⟩
def Azc (s:Src)(n:Nat)(v:Value)(m':PH):Prop:=∃ r k:Nat,v=.int .i64 r/\r<n/\k<=s.n/\m'=s.M k
def Ud (h:Po u s ts)(F:k<=s.n)(H:0<n)(z:n<=1000000) :
 Ah prog 31 [s.ptr,.int .i64 n] u (s.M k) fun v _ N=>Azc s n v N:=by
 have C:=h.n;have K:=h.le;refine Ah.o func31<|G.f 103 s.g 0 1 1<|G.lM none s.g (0+1) (.int .i64 k) (s.cell1 k)<|G.f 103 s.g 0 0 0<|G.lM none s.g (0+0) (.slice s.a s.n s.c) (s.cell0 k) ?_;by_cases m:k<s.n
 ·refine G.hF k s.n<|G.f 103 s.g 0 1 1<|G.lM none s.g (0+1) (.int .i64 k) (s.cell1 k)<|G.i k<|G.f 103 s.g 0 1 1<|G.storeM 1 s.g (0+1) 103 [.slice s.a s.n s.c,.int .i64 k] (.int .i64 (k+1:Nat)) kV (Ac _ _ _) (fun x I=>by simp at I;rcases I with rfl|rfl<;>rfl) mV rfl rfl ?_
  have e:(s.M k).upd s.g (.cells (([Value.slice s.a s.n s.c,.int .i64 k].take (0+1))++(Value.int .i64 (k+1:Nat)).cells.toList++([Value.slice s.a s.n s.c,.int .i64 k].drop (0+1+1))).toArray 103 (0,0))=s.M (k+1):=by
   unfold Src.M;rw[Ds];rfl
  rw[e];refine G.f 103 s.g 0 0 0<|G.lM none s.g (0+0) (.slice s.a s.n s.c) (s.cell0 (k+1))<|G.f 103 s.g 0 1 1<|G.lM none s.g (0+1) (.int .i64 (k+1:Nat)) (s.cell1 (k+1))<|G.s (k+1:Nat) 1 k ?_;have d:k<ts.length:=oV;obtain⟨b,t,E,J⟩:=Ab.at' h.list (j:=k) (e:=.int .i64 ts[k]) (by simp[Er,A0i d]);obtain⟨g,a,O,c⟩:=s;simp only at E m F C;subst E;refine G.a b t O c k 1 m<|G.lU none b (t+k*1) (.int .i64 ts[k]) J<|G.c call77 (Azz (h.lo _ (A0y d)) (h.hi _ (A0y d)) H z) ?_;rintro R Q P ⟨r,rfl,L⟩;exact G.r _ ⟨r,k+1,rfl,L,dV,rfl⟩
 exact G.hT k s.n<|G.r (.int .i64 0) ⟨0,k,rfl,H,F,rfl⟩
def Aop {v:Value}{L:List Int}(h:Po u s ts)(H:k<=s.n)(m:Ab u v 1 (Er L))(C:0<L.length)(E:L.length<=1000000) :
 Ah prog 34 [s.ptr,v] u (s.M k) fun v _ J=>∃ z∈L,∃ g:Nat,v=.int .i64 z/\g<=s.n/\J=s.M g:=by
 obtain⟨a,c,rfl⟩:=m.opn;rw[Ch]at m⊢;refine Ah.o func34<|G.A call31 (Ud h H C E) ?_;rintro O N K I ⟨r,g,rfl,F,t,rfl⟩ _;rw[Cm];obtain⟨b,d,rfl,e⟩:=Ab.at' (m.mono I) (j:=r) (e:=.int .i64 L[r]) (by simp[Er,A0i F]);exact G.a b d L.length c r 1 F<|G.lU none b (d+r*1) (.int .i64 L[r]) e<|G.r _ ⟨L[r],A0y F,g,rfl,t,rfl⟩
structure SmR (q:Rat):Prop where
 num:q.num.natAbs<=9
 den:q.den ∣ 12
def SmR.le (h:SmR q):q.den<=12:=A4l oV h.den
def SmR.tx (h:SmR q):Tx q:=⟨A0l (Dr (k:=2) oV (by have:=h.num;omega)) oV,A0l (Dr (k:=2) oV (by have:=h.le;omega)) oV⟩
def SmR.sz (h:SmR q):Sz q 1:=⟨A8 (by have:=h.num;omega),A8 (by have:=h.le;omega)⟩
structure SmW (q:Rat):Prop where
 num:q.num.natAbs<=1545
 den:q.den ∣ 12
def SmR.w (h:SmR q):SmW q:=⟨A0l h.num oV,h.den⟩
def SmW.le (h:SmW q):q.den<=12:=A4l oV h.den
def SmW.tx (h:SmW q):Tx q:=⟨A0l (Dr (k:=4) oV (by have:=h.num;omega)) oV,A0l (Dr (k:=2) oV (by have:=h.le;omega)) oV⟩
def SmW.sz (h:SmW q):Sz q 1:=⟨A8 (by have:=h.num;omega),A8 (by have:=h.le;omega)⟩
end
section
section rules
variable [Cj] {P:Program} [A6 P] {fn:Func} {Post:Ca} {st:List KI×S} {u m:PH}
def G.appendM (e:TypeId)(sz T:Nat)(z:Value)(m0:PH)(es xs:List Value)(v:Value)(b C n c:Nat)(h:Ak P (adv P st)=.app (some (e,sz,T,z)) true [v,.slice (some ⟨b,C,none⟩) n c])(hz:z.cells.toList.all Be=true)(Q:z.cells.size=sz)(H:0<sz)
 (ha:Af m0 m v e sz es) (hx:He m b C sz xs) (U:Bm sz xs) (hn:xs.length=n) (N:0<n) (hb:(es.length+n)*T<=140737488355328) (I:es.length+n<=9223372036854775807)
 (k:∀ g d,Af m0 d g e sz (es++xs)->G P fn Post (nx (adv P st) g) u d):G P fn Post st u m:=by
 refine G.big (K:=fun g V d=>V=u/\Af m0 d g e sz (es++xs)) h mV (fun E R O=>(Es (P:=P) (o:=⟨none,R,0, "",#[],none⟩) O).2.1) (.inr fun E R O=>(Es (P:=P) (o:=⟨none,R,0, "",#[],none⟩) O).1) (fun E o j w F=>?_) (fun g V d _ L=>?_)
 ·obtain⟨_,_,t,hi,J⟩:=Es (P:=P) j;obtain⟨g,w',d,W,X,Y,Z⟩:=Rv (P:=P) m0 es xs v b C n c o.type hi hz Q H ha U hn N hb I F (hx.cells H U F.pm);refine B0 (w':=w') (v:=g) ?_ ⟨u,d,X,Y,rfl,Z⟩;rw[J w,W];rfl
 obtain⟨rfl,L⟩:=L;exact k g d L
end rules
def Src.h0 (s:Src)(k k':Nat)(g:Nat):s.M k g=none\/s.M k' g≠none:=by
 by_cases e:g=s.g
 ·subst e;right;unfold Src.M;rw[Ac];simp
 left;unfold Src.M;rw[Ad _ _ e];rfl
def Ajf {u:PH}{v:Value}{ts:List Int}(h:Ab u v 1 (Er ts))(C:ts.length<=600)(n:∀ t∈ts,-9223372036854775808<=t)(z:∀ t∈ts,t<=9223372036854775807) :
 Ah prog 9 [v] u PH.mt fun H F E=>∃ s:Src,H=s.ptr/\E=s.M 0/\Po F s ts:=by
 have d:∃ a c,v=.slice a ts.length c/\ts.length<=c:=by
  obtain⟨a,c,e,j,_⟩:=h;rw[Ch]at e j;exact⟨a,c,e,j⟩
 obtain⟨a,c,rfl,d⟩:=d;refine Ah.o func9<|G.minI [3,3] (ts.length:Int) 600 (ts.length:Int) kV oV<|G.sliceTo 1 a ts.length c ts.length kV d<|G.pub 1006 103 [.slice a ts.length c,.int .i64 0] kV kV ?_;intro g J I;exact G.r (.pointer (some ⟨g,0,none⟩)) ⟨⟨g,a,ts.length,c⟩,rfl,rfl,h,rfl,C,n,z⟩
def Src.bag0 (s:Src)(k:Nat){l:List Arr}(h:Bag PH.mt l):Bag (s.M k) (s.arr k::l):=by
 have:=Src.at (s:=s) (k:=k) (m0:=PH.mt) rfl;rw[Cm]at this;exact⟨PH.mt,this,h⟩
def Ad3 {o l:Arr}{d:List Arr}:(l::o::d).Perm (o::(d++[l])):=by
 refine (List.Perm.swap _ _ _).trans (List.Perm.cons _ ?_);exact (List.perm_append_singleton l d).symm
def Aud {M:List (List Rat)}{q:List Rat}(i:Nat):gM (M++[q]) i=if i<M.length then gM M i else if i=M.length then q else []:=by
 unfold gM;rw[A0j];by_cases d:i<M.length
 ·rw[if_pos d,A09 d,A0j]
 rw[if_neg d,A1d oV];by_cases e:i=M.length
 ·rw[if_pos e,e,A4r];rfl
 rw[if_neg e,A1k gV];rfl
end
section
variable {l o s:Arr}{rows:List Arr}
def Al2 :(s::l::o::rows).Perm (s::o::(rows++[l])):=List.Perm.cons _ Ad3
def Aas :(l::s::o::rows).Perm (s::o::(rows++[l])):=(List.Perm.swap _ _ _).trans Al2
def T5 {rows:List (Value×List Value)}{i:Nat}{r r':Value×List Value}(h:rows[i]?=some r)(e:r'.1=r.1):(rows.set i r').map (·.1)=rows.map (·.1):=by
 rw[A10];apply A4m;intro j;rw[A2g];split
 ·rename_i e';subst e';have g:i<rows.length:=by
   rcases A16 i rows.length with d|d
   ·exact d
   rw[A1k d]at h;cases h
  rw[if_pos (by simpa using g),A0n,h,e];rfl
 rfl
end
def Aob {n:Nat}(f:Nat->Rat){j:Nat}(d:j<n):gR ((List.range n).map f) j=f j:=by
 unfold gR;rw[A0j,A0n,A4c d];rfl
section
variable {F G:CF}{M N d e:Nat}{a b k q r:Rat}
def Dn (d N:Nat)(q:Rat):Prop:=∃ k:Int,q*((12^d:Nat):Rat)=(k:Rat)/\k.natAbs<=N
def Ajt (d:Nat):0<12^d:=A60 oV
def Awf (d:Nat):((12^d:Nat):Rat)≠0:=by
 intro h;have g:((12^d:Nat):Rat)=((0:Nat):Rat):=h;have:=A88.1 g;have:=Ajt d;omega
def Dn.mono (h:Dn d N q)(hm:N<=M):Dn d M q:=by
 obtain⟨k,h1,h2⟩:=h;exact⟨k,h1,oV⟩
theorem Dn.add (h:Dn d N q)(g:Dn d M r):Dn d (N+M) (q+r):=by
 obtain⟨k,j,n⟩:=h;obtain⟨l,m,t⟩:=g;exact⟨k+l,by rw[A44,<-j,<-m];grind,oV⟩
theorem Dn.mul (h:Dn d N q)(g:Dn e M r):Dn (d+e) (N*M) (q*r):=by
 obtain⟨k,j,m⟩:=h;obtain⟨l,n,t⟩:=g;refine⟨k*l,?_,by rw[A2t];exact A2p m t⟩;rw[A1v,<-j,<-n,A4k,A4e];grind
def Dn.zero (d N:Nat):Dn d N 0:=⟨0,by rw[A32];rfl,A1c _⟩
theorem Dn.two (h:Dn d N q):Dn d (2*N) (2*q):=by
 have:=h.add h;rw[show 2*q=q+q by grind,show 2*N=N+N by omega];exact this
theorem Dn.frac (h:Dn d N q):q.num.natAbs<=N/\q.den<=12^d:=by
 obtain⟨k,m,u⟩:=h;have hp:=Ajt d;have C:q=Rat.divInt k ((12^d:Nat):Int):=by
  rw[A3l,A1f,<-m];have:=Awf d;grind
 obtain⟨g,j,E⟩:=Ok (y:=k) (z:=((12^d:Nat):Int)) oV;have t:0<Nat.gcd k.natAbs (12^d):=A7a _ hp;rw[C];constructor
 ·rw[g,A8a];exact A0l (A24 _ _) u
 have n:((Rat.divInt k ((12^d:Nat):Int)).den:Int)<=((12^d:Nat):Int):=by
  rw[j,show (((12^d:Nat):Int)).natAbs=12^d from rfl,A3i oV,<-A5c];exact Bad.2 (A24 _ _)
 exact Bad.1 n
def Dn.small (h:Dn d N q)(u:d<=50)(t:N<10^100):N2 q=true:=by
 obtain⟨g,j⟩:=h.frac;have m:12^d<=12^50:=A1h oV u;have n:12^50<10^100:=jV
 simp only[N2,A1b,decide_eq_true_eq];exact⟨A2i g t,A2i j (A2i m n)⟩
theorem SmW.dn (h:SmW q):Dn 1 18540 q:=by
 obtain⟨k,n⟩:=h.den;refine⟨q.num*(k:Int),?_,?_⟩
 ·have m:q*(q.den:Rat)=(q.num:Rat):=by
   have g:q=(q.num:Rat)/(((q.den:Int)):Rat):=by rw[<-A3l,A6f]
   have t:=A7e ((q.den:Nat):Rat) (fun e=>absurd (A88.1 (e.trans (rfl:(0:Rat)=((0:Nat):Rat)))) (Nat.pos_iff_ne_zero.1 q.den_pos));rw[A1f,A5v]at g;generalize ((q.den:Nat):Rat)⁻¹=j at g t;rw[g];grind
  show q*((12^1:Nat):Rat)=_;rw[show (12^1:Nat)=12 from rfl,n,A4e,A1v,A1f,<-m];grind
 rw[A2t,A1e];have m:=h.num;have g:k<=12:=by
  have:=h.le;have:0<q.den:=q.den_pos;rcases A1p k with h0|h0
  ·omega
  exact A4l oV ⟨q.den,by rw[A1r];exact n⟩
 exact A2p m g
structure CFD (d N:Nat)(F:CF):Prop where
 c:Dn d N F.c
 s:∀ p,Dn d N (F.s p)
 t:∀ q,Dn d N (F.t q)
def CFD.mono {d N M:Nat}{F:CF}(h:CFD d N F)(hm:N<=M):CFD d M F:=⟨h.c.mono hm,fun p=>(h.s p).mono hm,fun q=>(h.t q).mono hm⟩
def CFD.add {d N M:Nat}{F G:CF}(h:CFD d N F)(g:CFD d M G):CFD d (N+M) (F.add G):=⟨h.c.add g.c,fun p=>(h.s p).add (g.s p),fun q=>(h.t q).add (g.t q)⟩
def CFD.scale (h:CFD d N F)(g:Dn e M k):CFD (d+e) (N*M) (F.scale k):=⟨h.c.mul g,fun p=>(h.s p).mul g,fun q=>(h.t q).mul g⟩
theorem CFD.mul {d e N M:Nat}{F G:CF}(h:CFD d N F)(g:CFD e M G):CFD (d+e) (4*(N*M)) (F.mul G):=by
 have j:∀ {q r:Rat},Dn d N q->Dn e M r->Dn (d+e) (N*M) (r*q):=fun {q r} hq hr=>by rw[show r*q=q*r by grind];exact hq.mul hr
 refine⟨(h.c.mul g.c).mono oV,fun p=>((j h.c (g.s p)).add ((h.s p).mul g.c)).mono oV,fun q=>?_⟩;have m:=(j h.c (g.t q)).add ((h.t q).mul g.c);have n:Dn (d+e) (N*M+N*M) (Ik F G q):=by
  unfold Ik;split
  ·exact Dn.zero _ _
  split
  ·have:=((h.s q.1).mul (g.s q.1)).two;exact this.mono oV
  exact ((h.s q.1).mul (g.s q.2)).add ((h.s q.2).mul (g.s q.1))
 exact (m.add n).mono oV
def Ax8 (c:UInt8):Bool:=decide (97<=c.toNat)&&decide (c.toNat<=122)
def Kh (s:List UInt8):Bool:=match s with
 |[]=>false
 |c::l=>Ax8 c&&l.all (fun x=>Ax8 x||(decide (x.toNat=45)||(decide (48<=x.toNat)&&decide (x.toNat<=57))))&&decide (s.length<=12)
structure PV (p:Par):Prop where
 lo:-1<=p.1
 hi:p.1<=1000
 cat:p.2 = []\/Kh p.2=true
structure CFV (F:CF):Prop where
 s:∀ p,F.s p≠0->PV p
 t:∀ q,F.t q≠0->PV q.1/\PV q.2/\¬ 0<Bf q.1 q.2
theorem Gh (h:a+b≠0):a≠0\/b≠0:=by
 by_cases g:a=0
 ·right;rintro rfl;apply h;rw[g];grind
 exact .inl g
theorem Cu (h:a*b≠0):a≠0/\b≠0:=⟨fun e=>h (by rw[e];grind),fun e=>h (by rw[e];grind)⟩
def CFV.add (h:CFV F)(g:CFV G):CFV (F.add G) :=
 ⟨fun p hp=>(Gh hp).elim (h.s p) (g.s p),fun q j=>(Gh j).elim (h.t q) (g.t q)⟩
def CFV.scale (h:CFV F)(k:Rat):CFV (F.scale k):=⟨fun p hp=>h.s p (Cu hp).1,fun q g=>h.t q (Cu g).1⟩
def CFV.mul (h:CFV F)(g:CFV G):CFV (F.mul G):=by
 refine⟨fun p hp=>(Gh hp).elim (fun e=>g.s p (Cu e).1) (fun e=>h.s p (Cu e).1),fun q j=>?_⟩;rcases Gh j with e|e
 ·exact (Gh e).elim (fun e=>g.t q (Cu e).1) (fun e=>h.t q (Cu e).1)
 unfold Ik at e;split at e
 ·exact absurd rfl e
 rename_i hno;split at e
 ·rename_i heq;have:=Cu (Cu e).2;exact⟨h.s _ this.1,by rw[<-heq];exact h.s _ this.1,hno⟩
 rcases Gh e with e|e
 ·have:=Cu e;exact⟨h.s _ this.1,g.s _ this.2,hno⟩
 have:=Cu e;exact⟨g.s _ this.2,h.s _ this.1,hno⟩
def CFV.count (k:Rat):CFV ⟨k,fun _=>0,fun _=>0⟩:=⟨fun p h=>absurd rfl h,fun q h=>absurd rfl h⟩
def CFD.count (h:Dn d N k):CFD d N ⟨k,fun _=>0,fun _=>0⟩:=⟨h,fun _=>Dn.zero _ _,fun _=>Dn.zero _ _⟩
end
section
variable {F G:CF}{L:List (Par×Par)}{M N d e:Nat}{p q:Par}
structure CFS (F:CF):Prop where
 c:N2 F.c=true
 s:∀ p,N2 (F.s p)=true
 t:∀ q,N2 (F.t q)=true
def CFD.cfs (h:CFD d N F)(j:d<=50)(g:N<10^100):CFS F:=⟨h.c.small j g,fun p=>(h.s p).small j g,fun q=>(h.t q).small j g⟩
def con (F G:CF)(x:Par×Par):Rat:=if x.1=x.2 then F.s x.1*G.s x.2+F.s x.1*G.s x.2 else F.s x.1*G.s x.2
def Ek (F G:CF):List (Par×Par)->Par×Par->Rat
 |[],_=>0
 |x::L,k=>(if Aw x.1 x.2=k then con F G x else 0)+Ek F G L k
theorem Jq (F G:CF)(x:Par×Par):∀ (L:List (Par×Par)) (k:Par×Par),Ek F G (L++[x]) k=if k=Aw x.1 x.2 then con F G x+Ek F G L k else Ek F G L k
 |[],k=>by
  simp only[A41,Ek];by_cases h:k=Aw x.1 x.2
  ·rw[if_pos h.symm,if_pos h]
  rw[if_neg (fun e=>h e.symm),if_neg h];grind
 |y::L,k=>by
  simp only[A5a,Ek];rw[Jq F G x L k];by_cases h:k=Aw x.1 x.2
  ·rw[if_pos h,if_pos h];grind
  rw[if_neg h,if_neg h]
def two (F G:CF)(L:List (Par×Par))(k:Par×Par):Rat :=
 if 0<Bf k.1 k.2 then 0 else if k.1=k.2 then (if k∈L then con F G k else 0) else (if k∈L then con F G k else 0)+(if (k.2,k.1)∈L then con F G (k.2,k.1) else 0)
def Rx (h:0<Bf p q):Aw p q=(q,p):=by unfold Aw;rw[if_pos h]
def H7 (h:¬ 0<Bf p q):Aw p q=(p,q):=by unfold Aw;rw[if_neg h]
def Tg (p q:Par):¬ 0<Bf (Aw p q).1 (Aw p q).2:=by
 by_cases h:0<Bf p q
 ·rw[Rx h];intro g;have:=(Dl.sym p q).1;have j:=(Dl.sym q p).2 h;simp only at g;omega
 rw[H7 h];exact h
def Lv {p q a b:Par}:Aw p q=(a,b)↔¬ 0<Bf a b/\((p=a/\q=b)\/(p=b/\q=a)):=by
 constructor
 ·intro h;have:=Tg p q;rw[h]at this;refine⟨this,?_⟩;by_cases g:0<Bf p q
  ·rw[Rx g]at h;cases h;exact .inr ⟨rfl,rfl⟩
  rw[H7 g]at h;cases h;exact .inl ⟨rfl,rfl⟩
 rintro⟨h,⟨rfl,rfl⟩|⟨rfl,rfl⟩⟩
 ·exact H7 h
 rw[V6];exact H7 h
theorem Tm (F G:CF):∀ (L:List (Par×Par)) (k:Par×Par),L.Nodup->Ek F G L k=two F G L k
 |[],k,_=>by
  unfold Ek two;split
  ·rfl
  split
  ·simp
  simp;grind
 |(p,q)::L,(a,b),hn=>by
  rw[A3a]at hn;unfold Ek;rw[Tm F G L (a,b) hn.2];unfold two;simp only;by_cases h0:0<Bf a b
  ·rw[if_pos h0,if_pos h0,if_neg (fun e=>(Lv.1 e).1 h0)];grind
  rw[if_neg h0,if_neg h0];by_cases g:a=b
  ·subst g;rw[if_pos rfl,if_pos rfl];by_cases h:(p,q)=(a,a)
   ·cases h;rw[if_pos (Lv.2 ⟨h0,.inl ⟨rfl,rfl⟩⟩),if_neg hn.1,if_pos mV];grind
   rw[if_neg (fun e=>h (by rcases (Lv.1 e).2 with ⟨rfl,rfl⟩|⟨rfl,rfl⟩<;>rfl))]
   have:((a,a)∈(p,q)::L)↔(a,a)∈L:=by simp[A0v,Ne.symm h]
   simp only[this];grind
  rw[if_neg g,if_neg g];by_cases h:(p,q)=(a,b)
  ·cases h;rw[if_pos (Lv.2 ⟨h0,.inl ⟨rfl,rfl⟩⟩),if_neg hn.1,if_pos (show (p,q)∈(p,q)::L by simp)];have:((q,p)∈(p,q)::L)↔(q,p)∈L:=by simp[A0v,Ne.symm g]
   simp only[this];grind
  by_cases j:(p,q)=(b,a)
  ·cases j;rw[if_pos (Lv.2 ⟨h0,.inr ⟨rfl,rfl⟩⟩),if_neg hn.1,if_pos (show (p,q)∈(p,q)::L by simp)];have:((q,p)∈(p,q)::L)↔(q,p)∈L:=by simp[A0v,g]
   simp only[this];grind
  rw[if_neg (fun e=>by rcases (Lv.1 e).2 with ⟨rfl,rfl⟩|⟨rfl,rfl⟩;exact h rfl;exact j rfl)];have m:((a,b)∈(p,q)::L)↔(a,b)∈L:=by simp[A0v,Ne.symm h]
  have n:((b,a)∈(p,q)::L)↔(b,a)∈L:=by simp[A0v,Ne.symm j]
  simp only[m,n];grind
theorem Amk (F G:CF)(t:L.Nodup)(n:∀ p q,F.s p≠0->G.s q≠0->(p,q)∈L)(k:Par×Par):Ek F G L k=Ik F G k:=by
 rw[Tm F G L k t];have key:∀ p q:Par,(if (p,q)∈L then con F G (p,q) else 0)=con F G (p,q):=fun p q=>by
  by_cases h:(p,q)∈L
  ·rw[if_pos h]
  rw[if_neg h];have:F.s p=0\/G.s q=0:=by
   by_cases g:F.s p=0
   ·exact .inl g
   by_cases j:G.s q=0
   ·exact .inr j
   exact absurd (n p q g j) h
  unfold con;simp only;rcases this with g|g<;>rw[g]<;>split<;>grind
 obtain⟨a,b⟩:=k;unfold two Ik;simp only[key];split
 ·rfl
 split
 ·rename_i e;subst e;unfold con;simp only[if_true];grind
 rename_i e;unfold con;simp only[if_neg e,if_neg (fun m:b=a=>e m.symm)]
def Api (h:CFD d N F)(g:CFD e M G)(x:Par×Par):Dn (d+e) (2*(N*M)) (con F G x):=by
 unfold con;split
 ·exact (((h.s x.1).mul (g.s x.2)).add ((h.s x.1).mul (g.s x.2))).mono oV
 exact ((h.s x.1).mul (g.s x.2)).mono oV
def Ao0 (h:CFD d N F)(j:CFD e M G)(m:L.Nodup)(k:Par×Par):Dn (d+e) (4*(N*M)) (Ek F G L k):=by
 rw[Tm F G L k m];have g:∀ x,Dn (d+e) (2*(N*M)) (if x∈L then con F G x else 0):=fun x=>by
  split
  ·exact Api h j x
  exact Dn.zero _ _
 unfold two;split
 ·exact Dn.zero _ _
 split
 ·exact (g k).mono oV
 exact ((g k).add (g _)).mono oV
def B8 {κ:Type}[DecidableEq κ](a:κ):List (κ×Rat)->Rat
 |[]=>0
 |(b,q)::l=>if a=b then q else B8 a l
section
variable {κ:Type} [DecidableEq κ]
def I5 {a:κ}{q:Rat}:∀ {l:List (κ×Rat)},(l.map (·.1)).Nodup->(a,q)∈l->B8 a l=q
 |(b,r)::l,hn,h=>by
  simp only[A1t,A3a]at hn;unfold B8;rcases A0v.1 h with e|e
  ·cases e;rw[if_pos rfl]
  have:a≠b:=fun g=>hn.1 (by rw[<-g];exact A0r.2 ⟨_,e,rfl⟩);rw[if_neg this];exact I5 hn.2 e
def L9 {a:κ}:∀ {l:List (κ×Rat)},a∉l.map (·.1)->B8 a l=0
 |[],_=>rfl
 |(b,r)::l,h=>by
  simp only[A1t,A0v,not_or]at h;unfold B8;rw[if_neg h.1];exact L9 h.2
end
end
section
variable [Cj] [Dd] [Pu]
def Av4:List KI->Bool
 |.code (.region _ _ _)::_=>true
 |_=>false
def Gr (P:Program):Nat->List KI×S->List KI×S
 |0,st=>st
 |n+1,st=>cond (Av4 st.1) st (match one P st.1 st.2 with|some st'=>Gr P n st'|none=>st)
section rules
variable {P:Program} [A6 P] {fn:Func} {Post:Ca} {st:List KI×S} {u m:PH}
def Bct:∀ (n:Nat) (st:List KI×S),Sym P fn Post (Gr P n st).1 (Gr P n st).2 u m->Sym P fn Post st.1 st.2 u m
 |0,st,h=>h
 |n+1,st,h=>by
  unfold Gr at h;cases hn:Av4 st.1 with
  |true=>simp[hn]at h;exact h
  |false =>
   simp only[hn,cond_false]at h;split at h
   ·rename_i st' he;obtain⟨d,e⟩:=st';exact O7 A6.mx he (Bct n _ h)
   exact h
def G.canon (T:List (Nat×SV))(B:List (Nat×Blk))(h:G2 (Gr P 200 st).1=true)(g:T3 T B=true)(h0:Cov (Gr P 200 st).2.n (Gr P 200 st).2 T B)(k:G P fn Post ((Gr P 200 st).1,S.of (Gr P 200 st).2.n T B) u m):G P fn Post st u m:=by
 refine⟨Bct 200 st ?_⟩;have e:=k.out;rw[Sym.ofNo h]at e⊢;intro c ρ a w d j;exact e c ρ a w d (j.cov h0 g)
def G.join {ι:Type}(b:Value)(T:ι->List (Nat×SV))(B:ι->List (Nat×Blk))(h:ι->PH->PH->Prop)(I:∀ i,T3 (T i) (B i)=true)(J:G2 (Gr P 200 (nx (adv P st) b)).1=true)
 (j:∀ i e g,PH.le u e->h i e g->G P fn Post ((Gr P 200 (nx (adv P st) b)).1,S.of (Gr P 200 (nx (adv P st) b)).2.n (T i) (B i)) e g)
 (k:(∀ i d e g,(Gr P 200 d).1=(Gr P 200 (nx (adv P st) b)).1->Cov (Gr P 200 (nx (adv P st) b)).2.n (Gr P 200 d).2 (T i) (B i)->PH.le u e->h i e g->G P fn Post d e g)->G P fn Post st u m):G P fn Post st u m:=by
 refine k fun i d e g C z E F=>?_;have H:Cov (Gr P 200 d).2.n (Gr P 200 d).2 (T i) (B i):=⟨rfl,z.t,z.b⟩;refine G.canon (T i) (B i) (by rw[C];exact J) (I i) H ?_;rw[C,z.n];exact j i e g E F
end rules
end
section
def At5 {x y:List UInt8}(h:Op.bytesLess x y=true):Op.bytesLess y x=false:=by
 cases h':Op.bytesLess y x with
 |false=>rfl
 |true=>have:=Q1 h h';rw[Tp]at this;cases this
def Azu (x y:List UInt8):(!(Op.bytesLess x y||decide (x=y)))=Op.bytesLess y x:=by
 cases h1:Op.bytesLess x y with
 |true=>rw[At5 h1];rfl
 |false =>
  by_cases e:x=y
  ·subst e;rw[h1];simp
  cases h2:Op.bytesLess y x with
  |true=>simp[e]
  |false=>exact absurd (Abh h1 h2) e
section rules
variable [Cj] {P:Program} [A6 P] {fn:Func} {Post:Ca} {st:List KI×S} {u m:PH}
def G.ltS (a b:List UInt8)(r:Bool)(h:Ak P (adv P st)=.bin .lss (.string (mkS a)) (.string (mkS b)))(d:Op.bytesLess a b=r)(k:G P fn Post (nx (adv P st) (.bool r)) u m):G P fn Post st u m :=
 G.bin (.bool r) h (fun t X Y w=>Hg t X Y w) (fun t w=>by simp only[binOp,Op.stringOp,L0];rw[d];rfl) k
def G.gtS (a b:List UInt8)(r:Bool)(h:Ak P (adv P st)=.bin .gtr (.string (mkS a)) (.string (mkS b)))(d:Op.bytesLess b a=r)(k:G P fn Post (nx (adv P st) (.bool r)) u m):G P fn Post st u m :=
 G.bin (.bool r) h (fun t X Y w=>Hg t X Y w) (fun t w=>by
  rw[<-d,<-Azu];simp only[binOp,Op.stringOp,L0];rw[show (a==b)=decide (a=b) from by by_cases e:a=b<;>simp[e]]
  rfl) k
end rules
section
variable [Cj] {u:PH}
def Aji (x:Int):Fn0 prog 255 [.int .i64 x] u fun v _=>v=.bool false:=Fn0.o func255<|G.nF x x<|G.r (.bool false) ⟨rfl,rfl⟩
def Ak1 (x:List UInt8):Fn0 prog 256 [.string (mkS x)] u fun v _=>v=.bool false:=Fn0.o func256<|G.y x x rfl<|G.r (.bool false) ⟨rfl,rfl⟩
def Ay2 (x y:Int):Fn0 prog 220 [.int .i64 x,.int .i64 y] u fun v _=>v=.int .i64 (P6 x y):=by
 refine Fn0.o func220<|G.c call255 (Aji x) ?_;rintro n g e rfl;refine G.c call255 (Aji y) ?_;rintro t j l2 rfl;unfold P6;by_cases h:x<y
 ·exact G.lT' x y h<|G.r (.int .i64 (-1)) ⟨rfl,by rw[if_pos h]⟩
 refine G.lF' x y h ?_;by_cases d:x>y
 ·exact G.gT' x y d<|G.r (.int .i64 1) ⟨rfl,by rw[if_neg h,if_pos d]⟩
 exact G.gF' x y d<|G.r (.int .i64 0) ⟨rfl,by rw[if_neg h,if_neg d]⟩
def Azq (x y:List UInt8):Fn0 prog 221 [.string (mkS x),.string (mkS y)] u fun v _=>v=.int .i64 (Ur x y):=by
 refine Fn0.o func221<|G.c call256 (Ak1 x) ?_;rintro n g d rfl;refine G.c call256 (Ak1 y) ?_;rintro t j l2 rfl;unfold Ur;cases h:Op.bytesLess x y with
 |true =>
  exact G.ltS x y true kV h<|G.r (.int .i64 (-1)) ⟨rfl,by rw[if_pos rfl]⟩
 |false =>
  refine G.ltS x y false kV h ?_;cases h':Op.bytesLess y x with
  |true =>
   exact G.gtS x y true kV h'<|G.r (.int .i64 1) ⟨rfl,by rw[if_neg mV,if_neg (fun e=>by subst e;rw[Tp]at h';cases h')]⟩
  |false =>
   exact G.gtS x y false kV h'<|G.r (.int .i64 0) ⟨rfl,by rw[if_neg mV,if_pos (Abh h h')]⟩
def Awm (x y:Int){b:Nat}(h:He u b 0 1 [.int .i64 x,.int .i64 y]):Fn0 prog 219 [.slice (some ⟨b,0,none⟩) 2 2] u fun v _=>v=.int .i64 (if x≠0 then x else y):=by
 refine Fn0.o func219<|G.l (ι:=Nat) (fun i=>[(3,iV 0),(6,sV (some ⟨b,0,none⟩) 2 2),(7,iV (2:Nat)),(8,iV i)]) (fun _=>[])
  (fun i t n=>i<=2/\n=PH.mt/\(1<=i->x=0)/\(2<=i->y=0)) (fun i=>2-i) 0 ⟨oV,rfl,oV,oV⟩ ?_
 rintro J i E t n e ⟨H,rfl,j,F⟩;by_cases g:i=2
 ·subst g;exact G.lF (2:Nat) (2:Nat)<|G.r (.int .i64 0) ⟨rfl,by rw[if_neg (by simp[j oV]),F oV]⟩
 refine G.lT i (2:Nat)<|G.a b 0 2 2 i 1 oV ?_;obtain⟨z,d,C,g⟩:∃ z:Int,ElP t b (0+i*1) (.int .i64 z)/\(z≠0->(if x≠0 then x else y)=z)/\(z=0->(1<=i+1->x=0)/\(2<=i+1->y=0)):=by
  rcases (by omega:i=0\/i=1) with rfl|rfl
  ·exact⟨x,(h 0 _ rfl).mono e,fun d=>if_pos d,fun d=>⟨fun _=>d,oV⟩⟩
  exact⟨y,(h 1 _ rfl).mono e,fun d=>if_neg (by simp[j oV]),fun d=>⟨fun _=>j oV,fun _=>d⟩⟩
 refine G.lU none b (0+i*1) (.int .i64 z) d ?_;by_cases h0:z=0
 ·exact G.nF z 0<|G.i i<|G.b (E (i+1) _ _ _ cV e ⟨oV,rfl,(g h0).1,(g h0).2⟩ oV)
 exact G.nT' z 0 h0<|G.r (.int .i64 z) ⟨rfl,by rw[C h0]⟩
def Ad8 (p q:Par):Fn0 prog 160 [An p,An q] u fun v _=>v=.int .i64 (Bf p q):=by
 refine Fn0.o func160<|G.c call220 (Ay2 p.1 q.1) ?_;rintro E n e rfl;refine G.c call221 (Azq p.2 q.2) ?_;rintro F t l2 rfl;refine G.B 3 1 8 (.int .i64 0) [.int .i64 (P6 p.1 q.1),.int .i64 (Ur p.2 q.2)] (Yv [_,_]) ?_;intro g z h d;refine G.c call219 (Awm _ _ d) ?_;rintro H C j rfl;exact G.r _ ⟨rfl,rfl⟩
end
end
section
variable {q:Rat}
abbrev SB (q:Rat):Prop:=N2 q=true
def SB.sz (h:SB q):Sz q 12:=(T2 h).2
def SB.tx (h:SB q):Tx q:=(T2 h).1
def SB.zero:SB 0:=fV
abbrev fz:Value:=.agg #[.bool false,.slice none 0 0,.bool false,.slice none 0 0]
def A0e :sgn q.num=0↔q=0:=by
 constructor
 ·intro h;have:q.num=0:=by
   rcases A4b q.num 0 with d|d|d
   ·rw[En d]at h;cases h
   ·exact d
   rw[Db d]at h;cases h
  exact A4d.1 this
 rintro rfl;rfl
end
section
section
variable {κ:Type} [DecidableEq κ]
def Ee (f g:κ->Rat)(q:Rat)(L:List κ):κ->Rat:=fun k=>if k∈L then g k*q+f k else f k
def I0 (f g:κ->Rat)(q:Rat){L:List κ}{k:κ}(h:k∉L):Md (Ee f g q L) k (g k*q+Ee f g q L k)=Ee f g q (L++[k]):=by
 funext j
 unfold Md Ee;by_cases e:j=k
 ·subst e;rw[if_pos rfl,if_neg h,if_pos mV]
 rw[if_neg e];by_cases d:j∈L
 ·rw[if_pos d,if_pos (by simp[d])]
 rw[if_neg d,if_neg (by simp[d,e])]
theorem Li (f g:κ->Rat)(q:Rat){L:List κ}(h:∀ k,k∉L->g k=0):Ee f g q L=fun k=>f k+g k*q:=by
 funext k
 unfold Ee;by_cases d:k∈L
 ·rw[if_pos d];grind
 rw[if_neg d,h k d];grind
def O0 {f g:κ->Rat}{q:Rat}{L:List κ}(d:∀ k,SB (f k))(e:∀ k,SB (f k+g k*q))(k:κ):SB (Ee f g q L k):=by
 unfold Ee;split
 ·rw[A39];exact e k
 exact d k
end
end
section
def Ajk (t:TypeId):Op->Bool
 |.binOp _ t' ..=>Nat.beq t' t
 |_=>false
section rules
variable [Cj] {P:Program} [A6 P] {fn:Func} {Post:Ca} {st:List KI×S} {u m:PH}
def T8 {e:BinOp}{t:TypeId}{xs ys:Array Value}(X Y:Operand)(d:P.eqGuardType P.depth t=false)(w:World):(eqGuard e t X Y (.agg xs) (.agg ys)).run P w=.ok () w:=by
 unfold eqGuard;split<;>simp[d]
def G.eqAgg (t:TypeId)(xs ys:Array Value)(r:Bool)(h:Ak P (adv P st)=.binT .eql (P.underlying t) (.agg xs) (.agg ys))(K:Xp (Ajk t) (adv P st)=true)(J:P.eqGuardType P.depth t=false)(I:∀ w,(Op.equal t (.agg xs) (.agg ys)).run P w=.ok r w)
 (k:G P fn Post (nx (adv P st) (.bool r)) u m):G P fn Post st u m:=by
 refine G.askQ (Ajk t) h K mV (fun F o d H w _=>?_) k;obtain⟨N,X,Y,Q,e,C,E,O⟩:=Lg d;obtain⟨z,L,n,pos,g,j⟩:=o;simp only at e;subst e;obtain rfl:N=t:=A1u H;simp[execOp,C,E,T8 X Y J,binOp,I]
def G.neAgg (t:TypeId)(xs ys:Array Value)(r:Bool)(h:Ak P (adv P st)=.binT .neq (P.underlying t) (.agg xs) (.agg ys))(K:Xp (Ajk t) (adv P st)=true)(J:P.eqGuardType P.depth t=false)(I:∀ w,(Op.equal t (.agg xs) (.agg ys)).run P w=.ok r w)
 (k:G P fn Post (nx (adv P st) (.bool (!r))) u m):G P fn Post st u m:=by
 refine G.askQ (Ajk t) h K mV (fun F o d H w _=>?_) k;obtain⟨N,X,Y,Q,e,C,E,O⟩:=Lg d;obtain⟨z,L,n,pos,g,j⟩:=o;simp only at e;subst e;obtain rfl:N=t:=A1u H;simp[execOp,C,E,T8 X Y J,binOp,I]
end rules
end
structure Avy (F H:CF):Prop where
 a:CFS F
 b:CFS H
 c:CFS (H.scale F.c)
 d:CFS (F.scale H.c)
 e:CFS ((H.scale F.c).add (F.scale H.c))
 f:SB (F.c*H.c)
 pr:∀ p q,SB (F.s p*H.s q)
 con:∀ x,SB (con F H x)
 acc:∀ Ps:List (Par×Par),Ps.Nodup->∀ k,SB (((H.scale F.c).add (F.scale H.c)).t k+Ek F H Ps k)
def Ay3 {d e N M:Nat}{F H:CF}(h:CFD d N F)(g:CFD e M H)(j:d+e<=50)(K:8*(N*M)<10^100)(u:0<N)(z:0<M):Avy F H:=by
 have I:N<=N*M:=Nat.le_mul_of_pos_right _ z;have J:M<=N*M:=Nat.le_mul_of_pos_left _ u;have m:CFD (d+e) (N*M) (H.scale F.c):=by have:=g.scale h.c;rw[A8x,A1r]at this;exact this
 have n:CFD (d+e) (N*M) (F.scale H.c):=h.scale g.c;exact⟨h.cfs oV oV,g.cfs oV oV,m.cfs j oV,n.cfs j oV,(m.add n).cfs j oV,(h.c.mul g.c).small j oV,
  fun p q=>((h.s p).mul (g.s q)).small j oV,fun x=>(Api h g x).small j oV,fun E C k=>(((m.add n).t k).add (Ao0 h g C k)).small j oV⟩
section
def As (p:Par×Rat):Value:=.agg #[.int .i64 p.1.1,.string (mkS p.1.2),.string (mkS (Ag p.2))]
def D6 (x:(Par×Par)×Rat):Value:=.agg #[.int .i64 x.1.1.1,.string (mkS x.1.1.2),.int .i64 x.1.2.1,.string (mkS x.1.2.2),.string (mkS (Ag x.2))]
def J0 (u:PH)(v:Value)(F:CF)(K:Nat):Prop :=
 ∃ (T:List (Par×Rat)) (Q:List ((Par×Par)×Rat)) (a1:Option Addr) (c1:Nat) (a2:Option Addr) (c2:Nat),v=.agg #[.string (mkS (Ag F.c)),.slice a1 T.length c1,.slice a2 Q.length c2] /\
  Ab u (.slice a1 T.length c1) 3 (T.map As)/\Ab u (.slice a2 Q.length c2) 5 (Q.map D6)/\Can Bf F.s T/\Can Nk F.t Q/\T.length<=K/\Q.length<=K
def J0.mono {u u':PH}{v:Value}{F:CF}{K:Nat}(h:J0 u v F K)(hl:PH.le u u'):J0 u' v F K:=by
 obtain⟨T,Q,a1,c1,a2,c2,e,h1,h2,h3⟩:=h;exact⟨T,Q,a1,c1,a2,c2,e,h1.mono hl,h2.mono hl,h3⟩
section
variable {κ:Type} [DecidableEq κ]
end
end
section
open Go.RowKit Go.MapKept Go.Shelf
section
variable {F:Fence} {n:Nat} {P:Program} [A6 P] {w:World} {ops:Array Oper} {rest:List Oper} {o:Oper} {a:Act} {Q:Exit->Act->World->Prop}
end
end
section
open Go.RowKit Go.MapKept Go.Shelf
end
section
open Go.RowKit Go.MapKept Go.Shelf
end
section
open Go.RowKit Go.MapKept Go.Shelf
abbrev Ce (p:Par):List Value:=[.int .i64 p.1,.string (mkS p.2)]
end
section
open Go.RowKit Go.MapKept Go.Shelf
end
end Go.Proofs.YtdgncafgglafjaaGreatDoor
section
namespace Go.Proofs
open Go.Shelf
def Tryz.sortPar_ren:Go.Shelf.Ren:=⟨fun|6=>159|15=>218|14=>217|28=>253|29=>254|20=>245|21=>246|22=>247|23=>248|24=>249|25=>250|26=>251|27=>252|46=>283|47=>284|48=>285|49=>286|50=>287|57=>302|n=>n,fun|22=>63|24=>78|25=>234|3=>3|39=>274|0=>0|53=>304|55=>251|4=>4|46=>298|45=>297|50=>228|5=>5|9=>9|66=>329|70=>332|76=>349|77=>350|n=>n,fun|n=>n⟩
theorem Tryz.sortPar:Go.Proofs.SlLaysF0.n6 Tryz.prog Tryz.sortPar_ren:={
 mixed:=by kernel_rfl
 f6:=⟨Tryz.f159.name,by decide,Tryz.func159.trans (congrArg some (by kernel_rfl))⟩
 f14:=⟨Tryz.f217.name,by decide,Tryz.func217.trans (congrArg some (by kernel_rfl))⟩
 f15:=Tryz.func218.trans (congrArg some (by kernel_rfl))
 f20:=⟨Tryz.f245.name,by decide,Tryz.func245.trans (congrArg some (by kernel_rfl))⟩
 f21:=⟨Tryz.f246.name,by decide,Tryz.func246.trans (congrArg some (by kernel_rfl))⟩
 f22:=⟨Tryz.f247.name,by decide,Tryz.func247.trans (congrArg some (by kernel_rfl))⟩
 f23:=⟨Tryz.f248.name,by decide,Tryz.func248.trans (congrArg some (by kernel_rfl))⟩
 f24:=⟨Tryz.f249.name,by decide,Tryz.func249.trans (congrArg some (by kernel_rfl))⟩
 f25:=⟨Tryz.f250.name,by decide,Tryz.func250.trans (congrArg some (by kernel_rfl))⟩
 f26:=⟨Tryz.f251.name,by decide,Tryz.func251.trans (congrArg some (by kernel_rfl))⟩
 f27:=⟨Tryz.f252.name,by decide,Tryz.func252.trans (congrArg some (by kernel_rfl))⟩
 f28:=Tryz.func253.trans (congrArg some (by kernel_rfl))
 f29:=Tryz.func254.trans (congrArg some (by kernel_rfl))
 f46:=⟨Tryz.f283.name,by decide,Tryz.func283.trans (congrArg some (by kernel_rfl))⟩
 f47:=Tryz.func284.trans (congrArg some (by kernel_rfl))
 f48:=Tryz.func285.trans (congrArg some (by kernel_rfl))
 f49:=⟨Tryz.f286.name,by decide,Tryz.func286.trans (congrArg some (by kernel_rfl))⟩
 f50:=⟨Tryz.f287.name,by decide,Tryz.func287.trans (congrArg some (by kernel_rfl))⟩
 f57:=⟨Tryz.f302.name,by decide,Tryz.func302.trans (congrArg some (by kernel_rfl))⟩
 t0:=Tryz.underlying0
 a0:=Tryz.isAgg0
 z0:=Tryz.sizeOf0
 v0:=Tryz.zeroValue0
 t3:=Tryz.underlying3
 a3:=Tryz.isAgg3
 z3:=Tryz.sizeOf3
 v3:=Tryz.zeroValue3
 t4:=Tryz.underlying4
 a4:=Tryz.isAgg4
 z4:=Tryz.sizeOf4
 v4:=Tryz.zeroValue4
 t5:=Tryz.underlying5
 a5:=Tryz.isAgg5
 z5:=Tryz.sizeOf5
 v5:=Tryz.zeroValue5
 t9:=Tryz.underlying9
 a9:=Tryz.isAgg9
 z9:=Tryz.sizeOf9
 v9:=Tryz.zeroValue9
 t22:=Tryz.underlying63
 a22:=Tryz.isAgg63
 z22:=Tryz.sizeOf63
 v22:=Tryz.zeroValue63
 t25:=Tryz.underlying234
 a25:=Tryz.isAgg234
 z25:=Tryz.sizeOf234
 v25:=Tryz.zeroValue234
 t39:=Tryz.underlying274
 a39:=Tryz.isAgg274
 z39:=Tryz.sizeOf274
 v39:=Tryz.zeroValue274
 t45:=Tryz.underlying297
 a45:=Tryz.isAgg297
 z45:=Tryz.sizeOf297
 v45:=Tryz.zeroValue297
 t46:=Tryz.underlying298
 a46:=Tryz.isAgg298
 z46:=Tryz.sizeOf298
 v46:=Tryz.zeroValue298
 t50:=Tryz.underlying228
 a50:=Tryz.isAgg228
 z50:=Tryz.sizeOf228
 v50:=Tryz.zeroValue228
 t53:=Tryz.underlying304
 a53:=Tryz.isAgg304
 z53:=Tryz.sizeOf304
 v53:=Tryz.zeroValue304
 t55:=Tryz.underlying251
 a55:=Tryz.isAgg251
 z55:=Tryz.sizeOf251
 v55:=Tryz.zeroValue251
 t66:=Tryz.underlying329
 a66:=Tryz.isAgg329
 z66:=Tryz.sizeOf329
 v66:=Tryz.zeroValue329
 t70:=Tryz.underlying332
 a70:=Tryz.isAgg332
 z70:=Tryz.sizeOf332
 v70:=Tryz.zeroValue332
 t76:=Tryz.underlying349
 a76:=Tryz.isAgg349
 z76:=Tryz.sizeOf349
 v76:=Tryz.zeroValue349
 t77:=Tryz.underlying350
 a77:=Tryz.isAgg350
 z77:=Tryz.sizeOf350
 v77:=Tryz.zeroValue350 }
end Go.Proofs
end
namespace Go.Proofs.YtdgncafgglafjaaGreatDoor
open Go.Proofs.Tryz
open Go.RowKit Go.MapKept
section
open Go.RowKit Go.Sort
def Axt (w:World):PH:=fun g=>w.heap[g]?
def Azn (w:World):Ci (Axt w) PH.mt w:=⟨fun _ _ h=>h,F7.mt w,fun _=>.inr rfl,fun _ _ _ _ _ _ h _=>h⟩
@[reducible] def Cj.yes:Cj:=⟨True⟩
def Aeh [Fl:Cj](hF:Fl.on){w w':World}{P:PH}(h:Cn (Axt w) PH.mt w P PH.mt w'):∃ n C,w'=grow (w.drewN n) C:=by
 have u:=h.dr hF;refine⟨w'.drawn-w.drawn,w'.heap.extract w.heap.size w'.heap.size,?_⟩;obtain⟨hp,tp,Q,C,N⟩:=w;obtain⟨d,O,F,L,E⟩:=w';have e:=u.tape;have H:=u.dr;have j:=h.io.1;have m:=h.io.2;have I:=h.sz;have t:=fun g J=>h.old g J rfl;simp only at e H j m I t;subst e j m;unfold grow World.drewN;simp only[World.mk.injEq,and_true,true_and];refine⟨?_,oV⟩;apply Bae;intro i;by_cases z:i<hp.size
 ·rw[A5n z];exact t i z
 rw[Array.getElem?_append_right oV,Array.getElem?_extract];by_cases K:i<d.size
 ·rw[if_pos oV];congr 1;omega
 rw[if_neg oV,A4q oV]
def Fn0.exact [Fl:Cj](hF:Fl.on){P:Program}{f:FuncId}{args:List Value}{r:Value}(h:∀ u,Fn0 P f args u (fun v _=>v=r))(w:World):Calls P f args.toArray w fun e w'=>e=.returned r/\∃ n z,w'=grow (w.drewN n) z:=by
 refine Calls.mono (h (Axt w) w (Azn w)) fun e w' t=>?_;obtain⟨v,E,C,d,_,g,j,m⟩:=t;subst j m;exact⟨d,Aeh hF g⟩
def Aiu (d e size:Nat)(w:World):Go.Proofs.CmpLays prog 160 #[] (fun p:Par=>[.int .i64 p.1,.string (mkS p.2)]) 2 Bf d e size w :=
 fun m h g _ x y=>@Fn0.exact Cj.yes trivial _ _ _ _ (fun u=>@Ad8 Cj.yes u x y) _
end
end Go.Proofs.YtdgncafgglafjaaGreatDoor
