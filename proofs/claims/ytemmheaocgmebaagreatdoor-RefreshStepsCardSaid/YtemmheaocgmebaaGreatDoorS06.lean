/- Parts of one proof, joined by a program. -/
import Derived.Test.YtemmheaocgmebaaGreatDoorS05
import Derived.MapKept
import Derived.Laws.IdiomRangeMap
import Derived.Laws.StructEq
import Derived.RangeFuncSeq
import Derived.RangeFuncGives
import Derived.Maps.AppendAt
import Derived.Shelf.Abstract
import Derived.Shelf.AbstractIn
import Derived.Sort.MapsRangeIn
import Derived.WalkKit
import Derived.OwnWalkIn
import Derived.TacticsInMore
import Derived.RegionIn
import Derived.LoopNIn
import Derived.LoopIn
import Derived.Shelf.SlIter.Collect
import Derived.Shelf.SlSortCmp.WholeK
import Derived.Ground.SlsfProg
import Derived.Test.YtemmheaocgmebaaGreatDoorProg
import Derived.Shelf.SlSortCmp.NoneTotal
set_option linter.defProp false
set_option linter.unusedVariables false
set_option linter.unusedSimpArgs false
set_option linter.unusedSectionVars false
set_option maxHeartbeats 16000000
namespace Go.Proofs.YtemmheaocgmebaaGreatDoor
open Go.Proofs.Tryz
open Go.RowKit Go.MapKept
def A79:=@Nat.min_le_right
def A4s:=@Array.eq_empty_of_size_eq_zero
def Baj:=@Int.tmod_lt_of_pos
def Bak:=@Int.lt_tmod_of_pos
def A7r:=@List.getElem?_cons_succ
def A4z:=@Bool.false_eq_true
def A7m:=@List.map_nil
def A3d:=@List.mem_iff_getElem
def A6u:=@Array.getElem?_toList
def A8c:=@Array.getElem?_modify
def A6z:=@Prod.ext
def A9v:=@UInt8.lt_iff_toNat_lt
def A8y:=@List.pairwise_cons
def A31:=@List.getElem?_range
def A9l:=@Rat.natCast_inj
def A7d:=@Rat.intCast_add
def A7e:=@Rat.natCast_mul
def Ban:=@Rat.zero_mul
def A2r:=@Rat.intCast_natCast
def Bao:=@Int.ofNat_le
def Bap:=@Rat.mul_inv_cancel
def A46:=@Rat.add_comm
def Baq:=@Array.ext_getElem?
section
variable {e z:Value}{es:zV}{k n q sz:Nat}
def Ank (h:A9 sz es)(k:Nat):(A2 es).take (k*sz)=A2 (es.take k):=by
 by_cases C:k<=es.length
 ·have e:A2 es=A2 (es.take k)++A2 (es.drop k):=by rw[<-Dq,A4h]
  have j:(A2 (es.take k)).length=k*sz:=by rw[Ba (sz:=sz) (fun x t=>h x (A27 t)),A1e];congr 1;omega
  rw[e,A6n oV,<-j,A15]
 rw[A1j (by rw[Ba h];exact A13 _ oV),A1j oV]
def Am5 (h:A9 sz es)(k:Nat):(A2 es).drop (k*sz)=A2 (es.drop k):=by
 by_cases C:k<=es.length
 ·have e:A2 es=A2 (es.take k)++A2 (es.drop k):=by rw[<-Dq,A4h]
  have j:(A2 (es.take k)).length=k*sz:=by rw[Ba (sz:=sz) (fun x t=>h x (A27 t)),A1e];congr 1;omega
  rw[e,<-j,A8s]
 rw[A2b (by rw[Ba h];exact A13 _ oV),A2b oV];rfl
def A9.replicate (h:A9 sz [e])(n:Nat):A9 sz (List.replicate n e):=fun x j=>h x (by rw[A7g j];simp)
section rules
variable {P:Program} [A6 P] {fn:Func} {Post:Ce} {st:List KI×S} {u m:PH}
def G.copyA (Q Z e:TypeId)(sz g n k:Nat)(a:Addr)(H sc c:Nat)(t:TypeId)(m0:PH)(es xs:zV)(h:Aj P (adv P st)=.blt .copy [Q,Z] [.slice (some ⟨g,0+k*sz,none⟩) (n-k) c,.slice (some a) H sc])
 (hu:P.underlying Q=some (.slice e)) (T:szB P e=some sz) (V:Af m0 m (zG g n n) t sz es) (L:A9 sz xs) (J:xs.length=Nat.min H (n-k)) (a0:k<=n)
 (K:∀ w,Fj u w->Fj m w->∀ (j:Nat) (v:Value),(A2 xs)[j]?=some v->w.cell? (a.add j)=some v)
 (kk:∀ Y,Af m0 Y (zG g n n) t sz (es.take k++xs++es.drop (k+xs.length))->G P fn Post (nx (adv P st) (zI ((Nat.min H (n-k):Nat):Int))) u Y):G P fn Post st u m:=by
 have W:=V.len;obtain⟨C,h'⟩:=V;rcases h' with ⟨R,_,_⟩|⟨g',cap,rest,R,rfl,I,h3,U,h5⟩
 ·simp at R
 simp only[Value.slice.injEq,A1f,Addr.mk.injEq,and_true]at I;obtain⟨rfl,I,rfl⟩:=I;have hr:rest = []:=by
  rw[A1d,Ba C,<-I]at U;exact A2l oV
 subst hr;simp only[A1x]at U⊢;have X:Nat.min H (n-k)<=n-k:=A79 _ _;have E:(A2 xs).length=Nat.min H (n-k)*sz:=by rw[Ba L,J]
 refine G.copyM Q Z e sz g (0+k*sz) (n-k) c a H sc t (A2 es) (A2 xs) h hu T (Ab _ _ _) E (by simpa using K) (by rw[E,Ba C,<-I,A2w,<-A16];exact A13 _ oV) (Fu L) (Fu C) ?_;rw[Dp];refine kk _ ⟨?_,.inr ⟨g,n,[],R,?_,?_,?_,?_,mV⟩⟩
 ·exact ((A9.append (fun x F=>C x (A27 F)) L).append (fun x F=>C x (A3x F)))
 ·congr 3
  rw[A2w,Ank C,E,<-A16,Am5 C,<-Dq,<-Dq,A1x,J]
 ·congr 1
  simp only[A1d,A1e,A4y,J];omega
 ·simp only[A1d,A1e,A4y,J];omega
 rw[A1x,Ba (sz:=sz)]
 ·congr 1
  simp only[A1d,A1e,A4y,J];omega
 exact ((A9.append (fun x F=>C x (A27 F)) L).append (fun x F=>C x (A3x F)))
end rules
def Aqu {u:PH}(j:n<=1000000):zF 250 [.int .u64 1,.int .u64 (n:Int)] u fun v _=>v=.tuple #[.int .u64 0,.int .u64 (n:Int)]:=by
 refine Fn0.ofW (fun v _=>v=.tuple #[.int .u64 0,.int .u64 (n:Int)]) (fun w _=>(Tryz.bits_Mul 1 n oV oV w).mono fun _ _ ⟨e,h⟩=>⟨_,e,?_,by rw[h];exact Ext.refl _⟩) (fun _ _ _ h _ _ _=>h);rw[A3i,A49 oV,A5i oV];rfl
def Aeg {z:Int}(h:0<=z)(j:z<18446744073709551616):IntKind.u64.wrap z=z:=by
 simp only[IntKind.wrap,IntKind.signed,IntKind.bits];simp;omega
def Aek (h:k+q<=n):(List.replicate k e++List.replicate (n-k) z).take k++List.replicate q e++(List.replicate k e++List.replicate (n-k) z).drop (k+(List.replicate q e).length)=List.replicate (k+q) e++List.replicate (n-(k+q)) z:=by
 rw[List.take_left' mV,A3k,List.drop_append,A2b mV,A3k,A3q,List.drop_replicate,List.replicate_append_replicate]
 congr 2;omega
def Apq {g q k r:Nat}{u m m0:PH}{t:TypeId}(I:A9 sz [e])(K:q<=k)(E:0<sz)(F:Af m0 m (zG g n n) t sz (List.replicate k e++List.replicate r z)) :
 ∀ w,Fj u w->Fj m w->∀ (j:Nat) (v:Value),(A2 (List.replicate q e))[j]?=some v->w.cell? ((⟨g,0,none⟩:Addr).add j)=some v:=by
 intro w _ hp j v H;refine Hc.cells (u:=m) (b:=g) (off:=0) E (fun i x hi=>?_) (I.replicate q) hp j v H;have C:i<q:=by
  rcases A2e i q with h|h
  ·exact h
  rw[A1v (by simpa using h)]at hi;cases hi
 have J:x=e:=by rw[A6e,if_pos C]at hi;exact (A28 hi).symm
 subst J;refine F.el ?_;rw[A1r gV,A6e,if_pos oV]
def Ao2 {u:PH}{v e:Value}(h:Ac u v 1 [e])(I:A9 1 [e])(hn:n<=1000000) :
 zF 207 [v,zI n] u fun v' U=>Ac U v' 1 (List.replicate n e):=by
 obtain⟨a,c,rfl⟩:=h.opn;have K:=Ac.at' h (j:=0) (e:=e) rfl;obtain⟨b,off,rfl,L⟩:=K;refine Fn0.o func207<|G.lF n 0<|G.convI .i64 .u64 .i64 1 1 kV (Aeg oV oV)<|G.convI .i64 .u64 .i64 n (n:Int) kV (Aeg oV oV)<|G.c call250 (Aqu hn) ?_;rintro v1 u1 l1 rfl;refine G.cmpG .gtr .u64 0 0 false kV rfl rfl<|G.cmpG .gtr .u64 (n:Int) 9223372036854775807 false kV rfl (by simp only[Db,decide_eq_false_iff_not];omega)<|G.convI .u64 .i64 .u64 (n:Int) (n:Int) kV (Fk oV oV)<|G.make 34 1 16 zE n kV rfl rfl oV oV oV ?_;rintro v2 m2 R ⟨a2,rfl⟩;obtain⟨g,rfl,T⟩:=R.some';have a0:Nat.min 1 (n-0)<=1:=Nat.min_le_left _ _;refine G.copyA 46 46 34 1 g n 0 ⟨b,off,none⟩ 1 c n 34 PH.mt (List.replicate n zE) (List.replicate (Nat.min 1 (n-0)) e) kV kV kV R (I.replicate _) mV (A1t _) (fun w hp _ j x X=>?_) ?_
 ·refine Hc.cells (u:=u) (b:=b) (off:=off) (sz:=1) oV (fun i y hi=>?_) (I.replicate _) (fun g o T=>hp g o (l1 g o T)) j x X;have E:i<Nat.min 1 (n-0):=by
   rcases A2e i (Nat.min 1 (n-0)) with h|h
   ·exact h
   rw[A1v (by simpa using h)]at hi;cases hi
  rw[A6e,if_pos E]at hi;have hy:y=e:=(A28 hi).symm;subst hy;have:i=0:=oV;subst this;exact L
 intro m3 C;have F:=Aek (e:=e) (z:=zE) (n:=n) (k:=0) (q:=Nat.min 1 (n-0)) (by have:Nat.min 1 (n-0)<=n-0:=A79 _ _;omega);simp only[A42,A3q,A6t,A2w]at F C;rw[F]at C;clear F;refine G.l (ι:=Nat) (fun k=>[(7,sV (zA g) n n),(8,iV k)]) (fun _=>[])
  (fun k U m'=>k<=n/\(k=0->n=0)/\Af PH.mt m' (zG g n n) 34 1 (List.replicate k e++List.replicate (n-k) zE)) (fun k=>n-k) (Nat.min 1 n)
  ⟨A79 _ _,fun h=>by have h':min 1 n=0:=h;omega,C⟩ ?_
 rintro J k V u4 m4 l4 ⟨Y,Z,t⟩;by_cases E:k<n
 ·refine G.lT k n<|G.sliceFrom g 0 n n k 1 kV oV E<|G.sliceTo 1 (zA g) n n k kV oV ?_;have Q:Nat.min k (n-k)<=k:=Nat.min_le_left _ _;have a1:Nat.min k (n-k)<=n-k:=A79 _ _;have a3:0<Nat.min k (n-k):=by show 0<min k (n-k);omega
  refine G.copyA 46 46 34 1 g n k ⟨g,0,none⟩ k n (n-k) 34 PH.mt _ (List.replicate (Nat.min k (n-k)) e) kV kV kV t (I.replicate _) mV Y (Apq I Q oV t) ?_;intro m5 H;rw[Aek oV]at H;generalize Nat.min k (n-k)=q at *
  exact G.p k q (k+q:Nat)<|G.b (V (k+q) _ _ _ cV l4 ⟨oV,oV,H⟩ oV)
 obtain rfl:k=n:=oV;refine G.lF k k ?_;rw[A4i,A42,A1x]at t;refine G.give PH.mt _ _ kV t (fun _=>.inl rfl) ?_;intro u5 l5 W;exact G.r (zG g k k) ⟨rfl,W⟩
end
section
variable {q:Rat}
def sg (q:Rat):Int:=if q<0 then -1 else if 0<q then 1 else 0
theorem Ait (h:0<q):sg q=1:=by unfold sg;rw[if_neg (by grind),if_pos h]
theorem Ayz (h:q<0):sg q = -1:=by unfold sg;rw[if_pos h]
def At0:sg 0=0:=by simp[sg]
theorem Agk (q:Rat):(q<0/\sg q = -1)\/(q=0/\sg q=0)\/(0<q/\sg q=1):=by
 by_cases h:q<0
 ·exact .inl ⟨h,Ayz h⟩
 by_cases e:0<q
 ·exact .inr (.inr ⟨e,Ait e⟩)
 have:q=0:=by grind
 exact .inr (.inl ⟨this,by rw[this];exact At0⟩)
end
def gR (l:zR)(i:Nat):Rat:=l.getD i 0
def gM (M:zM)(i:Nat):zR:=M.getD i []


section
variable {a:zP}{es:zV}{i j k:Nat}{l:zR}{q r:Rat}
section rules
variable {P:Program} [A6 P] {fn:Func} {Post:Ce} {st:List KI×S} {u m:PH}
def Aea {h:BinOp}{a b:zP}{n c n' e:Nat}(t:TypeId)(X Y:Operand)(w:World):(eqGuard h t X Y (.slice a n c) (.slice b n' e)).run P w=.ok () w:=by
 unfold eqGuard;split<;>simp
def G.nilF (e:TypeId)(a:Addr)(n c:Nat)(h:Aj P (adv P st)=.binT .eql (some (.slice e)) (.slice (some a) n c) zN)(k:G P fn Post (nx (adv P st) zL) u m):G P fn Post st u m:=by
 refine G.ask h mV (fun Q o C w _=>?_) k;obtain⟨t,X,Y,T,F,J,K,L⟩:=Mb C;obtain⟨I,R,H,pos,after,E⟩:=o;simp only at F;subst F;have:(Op.equal t (.slice (some a) n c) zN).run P w=.ok false w:=by
  unfold Op.equal;rw[show Op.maxDepth=9999+1 from rfl,Op.equalIn];simp[run_underlying L]
 simp[execOp,J,K,Aea,binOp,this]
def G.build0 (e:TypeId)(sz W:Nat)(z:Value)(h:Aj P (adv P st)=.buildS (some (e,sz,W,z)) 0 [])(k:∀ g C,Af m C (zG g 0 0) e sz []->G P fn Post (nx (adv P st) (zG g 0 0)) u C):G P fn Post st u m:=by
 refine G.big (K:=fun V Q C=>Q=u/\PH.le m C/\∃ g,V=zG g 0 0/\Af m C (zG g 0 0) e sz []) h mV (fun H op hv=>?_) (.inl fun v Q C F=>F.2.1) (fun H o E w J=>?_) (fun V Q C a1 F=>?_)
 ·obtain⟨t,qs,rfl,_⟩:=En hv;rfl
 ·obtain⟨t,qs,R,Z,hi⟩:=En E;obtain⟨X,a2,U,pos,after,I⟩:=o;simp only at R;subst R;obtain⟨hu,i,L,a0,rfl,rfl⟩:=D4 hi;obtain⟨g1,g2,T,g4⟩:=J.newM (cs:=#[]) (t:=e) mV;refine B8 (w':=w.alloc (.cells #[] e (0,0))) (v:=.slice (some ⟨w.heap.size,0,none⟩) 0 0) ?_ ⟨u,_,g1,g2,rfl,Jw _ T,_,rfl,fun _ h=>absurd h mV,.inr ⟨w.heap.size,0,[],T,rfl,rfl,A08 _,by simp[A2],mV⟩⟩;simp only[execOp,Z];have Y:∀ f:Nat->Value,Array.map f (Array.range 0) = #[]:=fun f=>by apply A4s;simp
  simp[Instr.buildSlice,run_underlying hu,sizeOf,typeInfo,L,newRow,Instr.fill,Y]
 obtain⟨rfl,_,g,rfl,F⟩:=F;exact k g C F
end rules
def Ac.take' {u:PH}{n c sz:Nat}(h:Ac u (.slice a n c) sz es)(k:Nat)(F:k<=es.length):Ac u (.slice a k c) sz (es.take k):=by
 obtain⟨H,I,C,J,E⟩:=h;simp only[Value.slice.injEq]at C;obtain⟨rfl,_,rfl⟩:=C;refine⟨a,c,by rw[A1e,A4a F],by rw[A1e];omega,fun j e t=>?_⟩;rw[A3y]at t;split at t
 ·exact E j e t
 cases t
def AtP.at {α:Type}{R:PH->Value->α->Prop}{u:PH}{xs:List α}(h:AtP R u es xs)(t:j<xs.length):∃ e,es[j]?=some e/\R u e xs[j]:=h.2 j _ (A01 t)
def Cu (h:i<l.length):gR l i=l[i]:=by simp[gR,h]
def Xr (h:i<l.length):gR l i∈l:=by rw[Cu h];exact A09 h
def SzL (p:zR)(k:Nat):Prop:=∀ q∈p,Sz q k
def SzL.at {p:zR}(h:SzL p k)(hi:i<p.length):Sz (gR p i) k:=h _ (Xr hi)
def SzL.mono {p:zR}{j k:Nat}(h:SzL p j)(e:j<=k):SzL p k:=fun q t=>(h q t).mono e
theorem Acy (q:Rat):sgn q.num=sg q:=by
 rcases Agk q with ⟨h,e⟩|⟨h,e⟩|⟨h,e⟩
 ·rw[e];refine Ep ?_;have:¬ (0<=q.num):=fun t=>by have:=Rat.num_nonneg.1 t;grind
  omega
 ·subst h;rw[e];rfl
 rw[e];refine C5 ?_;have C:0<=q.num:=Rat.num_nonneg.2 (by grind);have E:q.num≠0:=fun t=>by have:=A4r.1 t;grind
 omega
def Aip :sg q=0↔q=0:=by
 rcases Agk q with ⟨h,e⟩|⟨h,e⟩|⟨h,e⟩
 ·rw[e];constructor
  ·intro t;omega
  intro t;subst t;simp at h
 ·exact⟨fun _=>h,fun _=>e⟩
 rw[e];constructor
 ·intro t;omega
 intro t;subst t;simp at h
def Anr {u:PH}{x:Value}(h:Bg u x q)(t:Sz q k)(e:k<=100000000000000):zF 131 [x] u fun v _=>v=zI (sg q):=by
 rw[<-Acy];exact Aao h (A04 t.1 e)
def Adt {z:Int}(h:z.natAbs<1000000000):Sz (z:Rat) 1:=⟨A4 (by simpa using h),A4 mV⟩
def R5 (h:Sz q j)(e:Sz r k):Sz (q+r) (j+k+1):=by
 rw[<-Rq q r];have a1:=G7 q.num.natAbs r.den;have a2:=G7 r.num.natAbs q.den;have a3:=G7 q.den r.den;have C:=Asl (q.num.natAbs*r.den) (r.num.natAbs*q.den);have t:(q.num*(r.den:Int)+r.num*(q.den:Int)).natAbs<=q.num.natAbs*r.den+r.num.natAbs*q.den:=by
  refine A04 (Int.natAbs_add_le _ _) ?_;rw[A26,A26];simp
 have E:=C4 t;have:=h.1;have:=h.2;have:=e.1;have:=e.2;exact Jg (Rs q r) oV (by rw[A26];simp only[A1s];omega)
theorem Asu (h:Sz q k):Sz (-q) k:=⟨by rw[Ba3,A3l];exact h.1,by rw[Ba4];exact h.2⟩
def Akj (h:Sz q j)(e:Sz r k):Sz (q-r) (j+k+1):=by
 rw[Bae];exact R5 h (Asu e)
def Fx (h:Sz q j)(e:Sz r k):Sz (q*r) (j+k):=by
 rw[<-Ac8 q r];have a1:=G7 q.num.natAbs r.num.natAbs;have a3:=G7 q.den r.den;have:=h.1;have:=h.2;have:=e.1;have:=e.2;exact Jg (Rs q r) (by rw[A26];omega) (by rw[A26];simp only[A1s];omega)
end
section
variable {M:zM}{i j:Nat}{q:Rat}
structure F4 where
 b:Bool
 a:zP
 n:Nat
 c:Nat
 b':Bool
 a':zP
 n':Nat
 c':Nat
def fv (f:F4):Value:=.agg #[.bool f.b,.slice f.a f.n f.c,.bool f.b',.slice f.a' f.n' f.c']
def fc (f:F4):List SV:=[.v (.bool f.b),.v (.slice f.a f.n f.c),.v (.bool f.b'),.v (.slice f.a' f.n' f.c')]
def Bg.opF {u:PH}{v:Value}(h:Bg u v q):∃ f,v=fv f:=by
 obtain⟨b,a,n,c,b',e,n',m,rfl⟩:=h.opn;exact⟨⟨b,a,n,c,b',e,n',m⟩,rfl⟩
def Bag.perm {l l':List Arr}(h:l.Perm l'):∀ {m:PH},Bag m l->Bag m l':=by
 induction h with
 |nil=>exact fun h=>h
 |cons x _ ih=>exact fun⟨m0,e,t⟩=>⟨m0,e,ih t⟩
 |swap x y l =>
  rintro m ⟨J,E,m0,C,u⟩;obtain⟨I,F,H,_⟩:=At.swap E C;exact⟨I,H,m0,F,u⟩
 |trans _ _ e t=>exact fun h=>t (e h)
def Kb {q:zR}(hi:i<M.length):gM (M.set i q) j=if i=j then q else gM M j:=by
 unfold gM;simp only[A02,A1z];split
 ·rename_i e;subst e;simp
 rfl
def SzM (M:zM)(k:Nat):Prop:=∀ i j,i<M.length->j<(gM M i).length->Sz (gR (gM M i) j) k
def SzM.mono {M:zM}{j k:Nat}(h:SzM M j)(e:j<=k):SzM M k:=fun a b m t=>(h a b m t).mono e
def Aht {l:zR}(hi:i<l.length):gR (l.set i q) j=if i=j then q else gR l j:=by
 unfold gR;simp only[A02,A1z];split
 ·rename_i e;subst e;simp
 rfl
def Ch (h:i<M.length):gM M i=M[i]:=by simp[gM,h]
def Arz {q r:Rat}{j k:Nat}(h:Sz q j)(t:Sz r k)(F:r≠0):Sz (q/r) (j+k):=by
 rw[<-Abt q r];have a1:=G7 q.num.natAbs r.den;have a3:=G7 q.den r.num.natAbs;have H:=h.1;have I:=h.2;have J:=t.1;have K:=t.2;have E:r.num≠0:=fun e=>F (A4r.1 e);have u:(q.den:Int)≠0:=by have:=q.den_pos;omega
 have c1:nl (q.num*(r.den:Int)).natAbs<=j+k:=by rw[A26];simp only[A1s];omega
 have c2:nl ((q.den:Int)*r.num).natAbs<=j+k:=by rw[A26];simp only[A1s];omega
 rcases Int.lt_or_lt_of_ne (A8l u E) with C|m
 ·have e:Rat.divInt (q.num*(r.den:Int)) ((q.den:Int)*r.num)=Rat.divInt (-(q.num*(r.den:Int))) (-((q.den:Int)*r.num)):=(Rat.neg_divInt_neg _ _).symm;rw[e];exact Jg oV (by rw[A3l];exact c1) (by rw[A3l];exact c2)
 exact Jg m c1 c2
end
def Cw:Value:=.agg #[zL,zN,zL,zN]
def Q3:Sz 0 1:=Adt (z:=0) fV
def Og (q:Rat):Bool:=decide (q.num.natAbs<10^100)&&decide (q.den<10^100)
def Cz:∀ {k n:Nat} (_:0<k) (_:n<10^k),Lib.nDigits n<=k
 |0,n,hk,h=>oV
 |k+1,n,hk,h=>by
  by_cases j:n<10
  ·rw[Lib.nDigits_small j];omega
  rw[Lib.nDigits_big j];have e:0<k:=by
   rcases A2a k with h0|h0
   ·subst h0;simp at h;omega
   exact h0
  have:=Cz (k:=k) (n:=n/10) e (by rw[A3b oV,<-A2d];exact h);omega
def Uo {q:Rat}(h:Og q=true):Tx q/\Sz q 12:=by
 simp only[Og,A1m,decide_eq_true_eq]at h;have j:=Cz oV h.1;have m:=Cz oV h.2;have e:(10:Nat)^100<=1000000000^12:=fV
 exact⟨⟨oV,oV⟩,A4 (A2s h.1 e),A4 (A2s h.2 e)⟩
section
section rules
variable [Cl] [Co] [Pu] {P:Program} [A6 P] {fn:Func} {Post:Ce} {st:List KI×S} {u m:PH}
def G.buildM (e:TypeId)(sz bt:Nat)(z:Value)(es:zV)(h:Aj P (adv P st)=.buildS (some (e,sz,bt,z)) es.length (es.zipIdx.map fun p=>(p.2,p.1)))(H:A9 sz es)(a3:z.cells.size=sz)(W:0<sz)(U:0<es.length)(hb:es.length*sz<=16777216)
 (k:∀ g C,Af m C (zG g es.length es.length) e sz es->G P fn Post (nx (adv P st) (zG g es.length es.length)) u C):G P fn Post st u m:=by
 refine G.big (K:=fun v' X C=>X=u/\PH.le m C/\∃ g,v'=zG g es.length es.length/\Af m C (zG g es.length es.length) e sz es) h mV (fun I op hv=>?_) (.inl fun v X C F=>F.2.1) (fun I o E w Q=>?_) (fun v' X C a2 F=>?_)
 ·obtain⟨t,qs,rfl,_⟩:=En hv;rfl
 ·obtain⟨t,qs,Y,e2,hi⟩:=En E;obtain⟨a1,a4,a0,pos,after,J⟩:=o;simp only at Y;subst Y;obtain⟨hu,i,R,T,rfl,rfl⟩:=D4 hi;obtain⟨g1,g2,Z,g4⟩:=Q.newM (cs:=(A2 es).toArray) (t:=e) (by simpa using Fu H);have L:=Ba H;have V:es.length*i.size≠0:=by have:=A51 U W;omega
  have j:=Sn es 0 ((Array.range (es.length*i.size)).map (z.cells[· % z.cells.size]!)) H mV;have e0:((Array.range (es.length*i.size)).map (z.cells[· % z.cells.size]!)).toList.drop (es.length*i.size) = []:=by
   apply A9o;simp
  simp only[A58,A53,A3q,A2w,e0,A1x]at j;refine B8 (w':=w.alloc (.cells (A2 es).toArray e (0,0))) (v:=.slice (some ⟨w.heap.size,0,none⟩) es.length es.length) ?_ ⟨u,_,g1,g2,rfl,Jw _ Z,_,rfl,H,.inr ⟨w.heap.size,es.length,[],Z,by rw[A1x],rfl,A08 _,by rw[A1x,L],mV⟩⟩;simp only[execOp,e2];simp[Instr.buildSlice,run_underlying hu,sizeOf,typeInfo,zeroValue,R,T,V,j,newRow,show ¬ 16777216<es.length*i.size by omega]
 obtain⟨rfl,_,g,rfl,F⟩:=F;exact k g C F
end rules
end
section
variable [Cl] [Co] [Pu]
section rules
variable {P:Program} [A6 P] {fn:Func} {Post:Ce} {st:List KI×S} {u m:PH}
def Aei {e:Operand->Value}{o:Op}{t:TypeId}{x:Value}{f:Nat}(h:Bc P e o=.fieldA t x f):∃ X,o=.fieldAddr t X f/\e X=x:=by
 cases o<;>simp only[Bc]at h<;>try cases h
 any_goals ((repeat' split at h)<;>cases h;done)
 exact⟨_,rfl,rfl⟩
def G.fieldA (t:TypeId)(b off f F:Nat)(h:Aj P (adv P st)=.fieldA t (.pointer (some ⟨b,off,none⟩)) f)(j:Nw P t f=some F)(k:G P fn Post (nx (adv P st) (.pointer (some ⟨b,off+F,none⟩))) u m):G P fn Post st u m:=by
 refine G.ask h mV (fun K o C w _=>?_) k;obtain⟨X,e,J⟩:=Aei C;obtain⟨I,L,H,pos,after,E⟩:=o;simp only at e;subst e;unfold Nw at j;split at j
 ·rename_i fs hfs;split at j
  ·rename_i fd hfd;split at j
   ·rename_i n hn;simp only[A1f]at j;subst j;simp[execOp,Instr.fieldAt,run_underlying hfs,hfd,Instr.sureAddr,J,fieldPlace,Bf hn,Ed]
   cases j
  cases j
 cases j
def G.remZ (x y z:Int)(h:Aj P (adv P st)=.bin .rem (zI x) (zI y))(e:0<y)(E:y<=9223372036854775807)(j:x.tmod y=z)
 (k:G P fn Post (nx (adv P st) (zI z)) u m):G P fn Post st u m:=by
 refine G.bin _ h C0 (fun t w=>?_) k;have C:¬ y=0:=oV
 have F:-y<z/\z<y:=by
  rw[<-j];have a1:=Baj x e;have a2:=Bak x e;exact⟨a2,a1⟩
 simp[binOp,Op.intDiv,C,j]
end rules
end
section
variable [Cl] [Pu] [Co]
variable {P:Program} [A6 P] {fn:Func} {Post:Ce} {st:List KI×S} {u m:PH}
def G.f (t:TypeId)(b off f fo:Nat)(k:G P fn Post (nx (adv P st) (.pointer (some ⟨b,off+fo,none⟩))) u m)(h:Aj P (adv P st)=.fieldA t (.pointer (some ⟨b,off,none⟩)) f:=by kernel_rfl)(hf:Nw P t f=some fo:=by kernel_rfl):G P fn Post st u m:=G.fieldA t b off f fo h hf k
end
section
variable {k:Nat}{m0:PH}
def Ari (m:PH):m.or PH.mt=m:=by
 funext g;unfold PH.or;split
 ·rename_i o e;rw[e]
 rename_i e;rw[e];rfl
def Ajy (m0 m:PH){g:Nat}(o:Obj)(h:m0 g=none):m0.or (m.upd g o)=(m0.or m).upd g o:=by
 funext k
 by_cases e:k=g
 ·subst e;rw[PH.or_r h,Ab,Ab]
 rw[Ad _ _ e];unfold PH.or;split
 ·rfl
 rw[Ad _ _ e]
def Bag.or {l':List Arr}{j:PH}(C:Bag j l'):∀ {l:List Arr} {m:PH},Bag m l->(∀ g,m g≠none->j g=none)->Bag (j.or m) (l++l')
 |[],m,h,hd=>by
  exact Bag.or_junk C hd
 |x::l,m,⟨m0,F,hl⟩,hd=>by
  obtain⟨J,F⟩:=F;rcases F with ⟨t,H,rfl⟩|⟨g,cap,rest,t,rfl,H,K,L,Q⟩
  ·exact⟨_,⟨J,.inl ⟨t,H,rfl⟩⟩,Bag.or C hl hd⟩
  have I:j g=none:=hd g (by rw[Ab];simp);refine⟨j.or m0,⟨J,.inr ⟨g,cap,rest,by rw[PH.or_r I];exact t,Ajy _ _ _ I,H,K,L,Q⟩⟩,Bag.or C hl (fun k E=>hd k ?_)⟩;by_cases e:k=g
  ·subst e;rw[t]at E;exact absurd rfl E
  rw[Ad _ _ e];exact E
where
 Bag.or_junk {l':List Arr} {m' m:PH} (h':Bag m' l') (hd:∀ g,m g≠none->m' g=none):Bag (m'.or m) (l'):=by
  induction l' generalizing m' with
  |nil=>trivial
  |cons x l ih =>
   obtain⟨m0,⟨ox,hx⟩,hl⟩:=h';rcases hx with ⟨x1,x2,rfl⟩|⟨g,cap,rest,x1,rfl,x2,x3,x4,x5⟩
   ·exact⟨_,⟨ox,.inl ⟨x1,x2,rfl⟩⟩,ih hl hd⟩
   ·have hg:m g=none:=by
     cases e:m g with
     |none=>rfl
     |some o=>have:=hd g (by rw[e];simp);rw[Ab]at this;cases this
    refine⟨m0.or m,⟨ox,.inr ⟨g,cap,rest,by rw[PH.or_r x1];exact hg,?_,x2,x3,x4,x5⟩⟩,ih hl (fun k hk=>?_)⟩
    ·funext k
     by_cases e:k=g
     ·subst e;rw[Ab,PH.or_l (Ab _ _ _)]
     ·rw[Ad _ _ e];unfold PH.or;rw[Ad _ _ e]
    ·have:=hd k hk;by_cases e:k=g
     ·subst e;rw[Ab]at this;cases this
     ·rw[Ad _ _ e]at this;exact this
def Af.list {m0 m u:PH}{v:Value}{t:TypeId}{sz:Nat}{es:zV}(h:Af m0 m v t sz es)(hl:PH.le m u):Ac u v sz es:=by
 obtain⟨ho,h⟩:=h;rcases h with ⟨rfl,rfl,_⟩|⟨g,cap,rest,_,rfl,rfl,hcap,hlen,_⟩
 ·exact Ac.nil _ _ _ _
 refine⟨_,_,rfl,hcap,fun j e hj=>⟨g,0,rfl,fun i x hx=>⟨_,_,_,hl _ _ (Ab _ _ _),?_⟩⟩⟩;rw[A3j,A2w];have:=Ju ho hj hx;rw[A1r (by obtain⟨h,_⟩:=A05.1 this;exact h)];exact this
def Bag.list {l:List Arr}{m u:PH}(h:Bag m l)(hl:PH.le m u)(i:Nat){x:Arr}(hi:l[i]?=some x):Ac u x.v x.sz x.es:=by
 obtain⟨m0,hx,_⟩:=h.focus i hi;exact Af.list hx hl
section rules
variable [Cl] [Co] [Pu] {P:Program} [A6 P] {fn:Func} {Post:Ce} {st:List KI×S} {u m:PH}
def G.callA (f:Nat)(args:zV){mf mc:PH}{R:Value->PH->PH->Prop}(h:Aj P (adv P st)=.call f args)(H:Vl (adv P st)=true)(hc:∀ args w,(callFunc f args).run P w=.ok (.enter f args) w)(hm:m=mf.or mc)(F:Hp mf mc)(c:Ag P f args u mc R)
 (k:∀ v t j,PH.le u t->R v t j->Hp mf j->G P fn Post (nx (adv P st) v) t (mf.or j)):G P fn Post st u m:=by
 subst hm;refine G.bigN (K:=fun v t T=>∃ j,T=mf.or j/\R v t j/\Hp mf j) h mV H Dv (fun X o E w C=>?_) (fun v t T Y Z=>?_)
 ·have J:Bv u mc w:=C.less (fun g o I=>by
   cases hx:mf g with
   |some o'=>have:=(F g).resolve_left (by rw[hx];simp);rw[this]at I;cases I
   |none=>rw[PH.or_r hx];exact I)
  refine Hq E hc w _ (Calls.mono (c w J) fun e w' he=>?_);obtain⟨v,t,j,U,V,Q,W⟩:=he;obtain⟨g1,g2⟩:=C.frameM F V Q;refine⟨v,U,t,mf.or j,g1,g2,j,rfl,W,fun g=>?_⟩;cases hx:mf g with
  |none=>exact .inl rfl
  |some o =>
   right;have L:=Aw (C.pm g o (PH.or_l hx));exact Q.ms g L ((F g).resolve_left (by rw[hx];simp))
 obtain⟨j,rfl,hR,hA⟩:=Z;exact k v t j Y hR hA
def G.callP (f:Nat)(args:zV){mf mc:PH}{R:Value->PH->PH->Prop}(h:Aj P (adv P st)=.call f args)(L:Pu.b=true)(hc:∀ args w,(callFunc f args).run P w=.ok (.enter f args) w)(hm:m=mf.or mc)(F:Hp mf mc)(c:Ag P f args u mc R)
 (k:∀ v t j,PH.le u t->R v t j->Hp mf j->G P fn Post (nx (adv P st) v) t (mf.or j)):G P fn Post st u m:=by
 subst hm;refine G.bigP (K:=fun v t T=>∃ j,T=mf.or j/\R v t j/\Hp mf j) h mV L Dv (fun X o E w C=>?_) (fun v t T Y Z=>?_)
 ·have I:Bv u mc w:=C.less (fun g o H=>by
   cases hx:mf g with
   |some o'=>have:=(F g).resolve_left (by rw[hx];simp);rw[this]at H;cases H
   |none=>rw[PH.or_r hx];exact H)
  refine Hq E hc w _ (Calls.mono (c w I) fun e w' he=>?_);obtain⟨v,t,j,U,V,Q,W⟩:=he;obtain⟨g1,g2⟩:=C.frameM F V Q;refine⟨v,U,t,mf.or j,g1,g2,j,rfl,W,fun g=>?_⟩;cases hx:mf g with
  |none=>exact .inl rfl
  |some o =>
   right;have J:=Aw (C.pm g o (PH.or_l hx));exact Q.ms g J ((F g).resolve_left (by rw[hx];simp))
 obtain⟨j,rfl,hR,hA⟩:=Z;exact k v t j Y hR hA
def G.giveP {ma sm:PH}(h:F2 (ctl P 100 st).1=true)(I:m=ma.or sm)(Z:Hp ma sm)(h0:∀ g,Post.m0 g=none\/sm g≠none)(k:∀ Y,PH.le u Y->PH.le ma Y->G P fn Post (ctl P 100 st) Y sm):G P fn Post st u m:=by
 subst I;refine⟨L3 100 st ?_⟩;rw[Sym.ofNo h];intro c ρ a w K F;have R:∀ g o,ma g=some o->u g=none:=fun g o t=>(F.gd.ap g).resolve_right (by rw[PH.or_l t];simp);have L:∀ g o,sm g=some o->ma g=none:=fun g o t=>(Z g).resolve_right (by rw[t];simp);have J:∀ g o,ma g=some o->c.w0.heap.size<=g:=by
  intro g o t;rcases A2e g c.w0.heap.size with V|T
  ·have W:c.m0 g=none:=by
    rw[K];rcases h0 g with e|e
    ·exact e
    cases hs:sm g with
    |none=>exact absurd hs e
    |some o'=>have:=L g o' hs;rw[this]at t;cases t
   have:=F.gr.ms g V W;rw[PH.or_l t]at this;cases this
  exact T
 have U:PH.le u (ma.or u):=fun g o t=>by
  cases C:ma g with
  |none=>rw[PH.or_r C];exact t
  |some o'=>have:=R g o' C;rw[this]at t;cases t
 have hk:=(k (ma.or u) U (fun g o t=>PH.or_l t)).out;rw[Sym.ofNo h]at hk;refine hk c ρ a w K ⟨F.sz,F.tm,F.df.of fun r e _ hu I=>(by
  have H:ma r=none:=(by
   cases C:ma r with
   |none=>rfl
   |some o=>rw[PH.or_l C]at I;cases I)
  rw[PH.or_r H]at I;exact⟨e,by rw[PH.or_r H];exact hu,I⟩),fun X b hb=>?_,F.inj,F.lv,⟨fun E o t=>?_,fun E o t=>?_,fun E=>?_,fun E cs t' fr j z t hj=>?_⟩,⟨F.gr.sz,F.gr.old,fun E t=>?_,fun E t I=>?_,F.gr.io,F.gr.dr⟩⟩
 ·obtain⟨e1,e2,e3,Q⟩:=F.box X b hb;have H:ma (ρ X)=none:=by
   cases C:ma (ρ X) with
   |none=>rfl
   |some o=>rw[PH.or_l C]at Q;cases Q
  rw[PH.or_r H]at Q;exact⟨e1,e2,by rw[PH.or_r H];exact e3,Q⟩
 ·cases C:ma E with
  |some o'=>rw[PH.or_l C]at t;cases t;exact F.gd.pm E _ (PH.or_l C)
  |none=>rw[PH.or_r C]at t;exact F.gd.pu E o t
 ·exact F.gd.pm E o (by rw[PH.or_r (L E o t)];exact t)
 ·cases C:ma E with
  |some o'=>right;exact (Z E).resolve_left (by rw[C];simp)
  |none =>
   rw[PH.or_r C];have:=F.gd.ap E;rw[PH.or_r C]at this;exact this
 ·cases C:ma E with
  |some o' =>
   rw[PH.or_l C,<-t];exact (F.gd.pm E _ (PH.or_l C)).symm
  |none=>rw[PH.or_r C];exact F.gd.cl E cs t' fr j z t hj
 ·have C:ma E=none:=by
   cases C:ma E with
   |none=>rfl
   |some o=>have:=J E o C;omega
  rw[PH.or_r C];exact F.gr.us E t
 have:=F.gr.ms E t I;cases C:ma E with
 |some o=>have:=J E o C;omega
 |none=>rw[PH.or_r C]at this;exact this
end rules
structure Src where
 g:Nat
 a:zP
 n:Nat
 c:Nat
def Src.ptr (s:Src):Value:=.pointer (some ⟨s.g,0,none⟩)
def Src.el (s:Src)(k:Nat):Value:=.agg #[.slice s.a s.n s.c,zI k]
def Src.M (s:Src)(k:Nat):PH:=PH.mt.upd s.g (.cells #[.slice s.a s.n s.c,zI k] 102 (0,0))
def Src.arr (s:Src)(k:Nat):Arr:=⟨.slice (some ⟨s.g,0,none⟩) 1 1,102,2,[s.el k]⟩
def Src.el_ok (s:Src)(k:Nat):A9 2 [s.el k]:=by
 intro x e;simp at e;subst e;exact⟨rfl,fun y h=>by simp[Src.el,Value.cells]at h;rcases h with rfl|rfl<;>rfl⟩
def Src.at {s:Src}(h:m0 s.g=none):(s.arr k).At m0 (m0.or (s.M k)):=by
 refine⟨s.el_ok k,.inr ⟨s.g,1,[],h,?_,rfl,A08 _,rfl,mV⟩⟩;unfold Src.M;rw[Ajy _ _ _ h,Ari];rfl
def Src.split {s:Src}{m0 m:PH}(h:(s.arr k).At m0 m):m=m0.or (s.M k)/\m0 s.g=none:=by
 obtain⟨_,h⟩:=h;rcases h with ⟨h,_,_⟩|⟨g,cap,rest,e,rfl,j,E,t,F⟩
 ·simp[Src.arr]at h
 simp only[Src.arr,Value.slice.injEq,A1f,Addr.mk.injEq,and_true]at j;obtain⟨rfl,_,rfl⟩:=j;have C:rest = []:=by
  simp[Src.arr,A2,Src.el,Value.cells]at t;exact t
 subst C;refine⟨?_,e⟩;unfold Src.M;rw[Ajy _ _ _ e,Ari];rfl
def Src.apart {s:Src}(h:m0 s.g=none):Hp m0 (s.M k):=fun g=>by
 by_cases e:g=s.g
 ·subst e;exact .inl h
 right;unfold Src.M;rw[Ad _ _ e];rfl
structure J0 (u:PH)(s:Src)(ts:List Int):Prop where
 list:Ac u (.slice s.a s.n s.c) 1 (Fc ts)
 n:s.n=ts.length
 le:ts.length<=600
 lo:∀ t∈ts,-9223372036854775808<=t
 hi:∀ t∈ts,t<=9223372036854775807
def J0.mono {u e:PH}{s:Src}{ts:List Int}(h:J0 u s ts)(j:PH.le u e):J0 e s ts:=⟨h.list.mono j,h.n,h.le,h.lo,h.hi⟩
def Src.cell0 (s:Src)(k:Nat):ElP (s.M k) s.g (0+0) (.slice s.a s.n s.c):=fun i y e=>by
 match i,e with
 |0,e=>simp[Value.cells]at e;subst e;exact⟨_,_,_,Ab _ _ _,rfl⟩
def Src.cell1 (s:Src)(k:Nat):ElP (s.M k) s.g (0+1) (zI k):=fun i y e=>by
 match i,e with
 |0,e=>simp[Value.cells]at e;subst e;exact⟨_,_,_,Ab _ _ _,rfl⟩
end
section
variable [Cl] [Pu] [Co]
variable {P:Program} [A6 P] {fn:Func} {Post:Ce} {st:List KI×S} {u m:PH}
def G.A {f:Nat}{args:List Value}{R:Value->PH->PH->Prop}(hc:∀ args w,(callFunc f args).run P w=.ok (.enter f args) w)(c:Ag P f args u m R)(k:∀ v u' mc',PH.le u u'->R v u' mc'->Hp PH.mt mc'->G P fn Post (nx (adv P st) v) u' (PH.mt.or mc'))(h:Aj P (adv P st)=.call f args:=by kernel_rfl)(hdr:Vl (adv P st)=true:=by kernel_rfl):G P fn Post st u m:=G.callA f args h hdr hc (By _).symm (Ef _) c k
def G.D {f:Nat}{args:List Value}{mf mc:PH}{R:Value->PH->PH->Prop}(hc:∀ args w,(callFunc f args).run P w=.ok (.enter f args) w)(hd:Hp mf mc)(c:Ag P f args u mc R)(k:∀ v u' mc',PH.le u u'->R v u' mc'->Hp mf mc'->G P fn Post (nx (adv P st) v) u' (mf.or mc'))(h:Aj P (adv P st)=.call f args:=by kernel_rfl)(hdr:Vl (adv P st)=true:=by kernel_rfl):G P fn Post st u (mf.or mc):=G.callA f args h hdr hc rfl hd c k
end
section
open Go.MapKept
variable {et t:TypeId}{g:Nat}{o:Obj}{w:World}
structure Zk (P:Program)(kt:TypeId){κ:Type}[DecidableEq κ](enc:κ->Value):Prop where
 eq:∀ a b w,(Op.equal kt (enc a) (enc b)).run P w=.ok (decide (a=b)) w
 now:∃ d,P.underlying kt=some d/\((∀ a b,Instr.sameNow d (enc a) (enc b)=none)\/(∀ a b,Instr.sameNow d (enc a) (enc b)=some (decide (a=b))))
 chk:∀ e a w,(Instr.checkKey e 10000 kt (enc a)).run P w=.ok () w
 bits:∀ a,Instr.sameBits 10000 (enc a) (enc a)=true
 inj:∀ a b,enc a=enc b->a=b
def Hu {κ:Type}(enc:κ->Value)(o:Obj)(l:List (κ×Value)):Prop :=
 ∃ es clock,o=.map es clock/\es.toList.map (fun e=>(e.key,e.val))=l.map (fun p=>(enc p.1,p.2))/\Stamped es clock
def Ik {κ:Type}[DecidableEq κ](a:κ):List (κ×Value)->Option Value
 |[]=>none
 |(b,v)::l=>if a=b then some v else Ik a l
def Lr {κ:Type}[DecidableEq κ](a:κ)(x:Value):List (κ×Value)->List (κ×Value)
 |[]=>[(a,x)]
 |(b,v)::l=>if a=b then (b,x)::l else (b,v)::Lr a x l
def Awn {κ:Type}[DecidableEq κ](a:κ):List (κ×Value)->List (κ×Value)
 |[]=>[]
 |(b,v)::l=>if a=b then l else (b,v)::Awn a l
def Iw {κ:Type}[DecidableEq κ](a:κ):List (κ×Value)->Nat->Option (Nat×Value)
 |[],_=>none
 |(b,v)::l,i=>if a=b then some (i,v) else Iw a l (i+1)
def Alm (z:Value)(r:Option Value)(ok:Bool):Value:=match r with|some v=>(if ok then .tuple #[v,.bool true] else v)|none=>(if ok then .tuple #[z,.bool false] else z)
def M4 {α β:Type}{f:α->β}{l:List α}(h:(l.map f).Nodup):l.Nodup:=(List.pairwise_map.1 h).imp fun h e=>h (by rw[e])
section
variable {κ:Type} [DecidableEq κ] {enc:κ->Value}
def Aah (a:κ):∀ (l:List (κ×Value)) (i:Nat),(Iw a l i).map (·.2)=Ik a l
 |[],_=>rfl
 |(b,v)::l,i=>by
  unfold Iw Ik;split
  ·rfl
  exact Aah a l (i+1)
def Xc {a:κ}:∀ {l:List (κ×Value)} {i:Nat},Iw a l i=none->a∉l.map (·.1)
 |[],_,_=>mV
 |(b,v)::l,i,h=>by
  unfold Iw at h;split at h
  ·cases h
  rename_i hne;simp only[A2u,A1g,not_or];exact⟨hne,Xc h⟩
def Yy {a:κ}:∀ {l:List (κ×Value)} {i j:Nat} {v:Value},Iw a l i=some (j,v)->i<=j/\l[j-i]?=some (a,v)/\(∀ x,Lr a x l=l.set (j-i) (a,x))/\Awn a l=l.eraseIdx (j-i)
 |[],_,_,_,h=>by cases h
 |(b,w)::l,i,j,v,h=>by
  unfold Iw at h;split at h
  ·rename_i e;simp only[A1f,A2i]at h;obtain⟨rfl,rfl⟩:=h;subst e;exact⟨A08 _,mV,fun x=>by simp[Lr],by simp[Awn]⟩
  rename_i hne;obtain⟨E,m,u,C⟩:=Yy h;have e:j-i=(j-(i+1))+1:=oV;refine⟨oV,by rw[e,A7r];exact m,fun x=>?_,?_⟩
  ·rw[e,A2j,<-u x];simp[Lr,hne]
  rw[e,List.eraseIdx_cons_succ,<-C];simp[Awn,hne]
def Agn {a:κ}:∀ {l:List (κ×Value)} (x:Value),a∉l.map (·.1)->Lr a x l=l++[(a,x)]
 |[],_,_=>rfl
 |(b,v)::l,x,h=>by
  simp only[A2u,A1g,not_or]at h;unfold Lr;rw[if_neg h.1,Agn x h.2];rfl
def M8 {a:κ}:∀ {l:List (κ×Value)},Ik a l=none↔a∉l.map (·.1)
 |[]=>by simp[Ik]
 |(b,v)::l=>by
  unfold Ik;split
  ·rename_i e;simp[e]
  rename_i hne;rw[M8];simp[hne]
variable {P:Program} {kt:TypeId}
def Oj (K:Zk P kt enc)(a:κ)(w:World):∀ (es:List MapEntry) (l:List (κ×Value)) (i:Nat),es.map (fun e=>(e.key,e.val))=l.map (fun p=>(enc p.1,p.2))->(Instr.findAsking kt (enc a) es i).run P w=.ok (Iw a l i) w
 |[],[],i,_=>by simp[Instr.findAsking,Iw]
 |[],_::_,_,h=>by simp at h
 |_::_,[],_,h=>by simp at h
 |e::es,(b,v)::l,i,h=>by
  simp only[A2u,A3g,A2i]at h;obtain⟨⟨m,u⟩,C⟩:=h;unfold Instr.findAsking;simp only[Sem.run_bind,m,K.eq,Result.andThen_ok];unfold Iw;by_cases j:a=b
  ·simp[j,u]
  simp only[decide_eq_false j,A4z,if_false,if_neg j];exact Oj K a w es l (i+1) C
def Xp {d:TypeDesc}(m:∀ a b,Instr.sameNow d (enc a) (enc b)=some (decide (a=b)))(a:κ):∀ (es:List MapEntry) (l:List (κ×Value)) (i:Nat),es.map (fun e=>(e.key,e.val))=l.map (fun p=>(enc p.1,p.2))->Instr.findNow d (enc a) es i=some (Iw a l i)
 |[],[],i,_=>by simp[Instr.findNow,Iw]
 |[],_::_,_,h=>by simp at h
 |_::_,[],_,h=>by simp at h
 |e::es,(b,v)::l,i,h=>by
  simp only[A2u,A3g,A2i]at h;obtain⟨⟨u,C⟩,E⟩:=h;unfold Instr.findNow Iw;rw[u,m];by_cases j:a=b
  ·simp[j,C]
  simp only[decide_eq_false j,if_neg j];exact Xp m a es l (i+1) E
def U8 (K:Zk P kt enc)(a:κ)(w:World){es:List MapEntry}{l:List (κ×Value)}(h:es.map (fun e=>(e.key,e.val))=l.map (fun p=>(enc p.1,p.2))):(Instr.findKey kt (enc a) es).run P w=.ok (Iw a l 0) w:=by
 obtain⟨d,m,j⟩:=K.now;unfold Instr.findKey;simp only[Sem.run_bind,run_underlying m,Result.andThen_ok];rcases j with j|j
 case inr=>rw[Xp j a es l 0 h];rfl
 cases es with
 |nil =>
  cases l with
  |nil=>simp[Instr.findNow,Iw]
  |cons=>simp at h
 |cons e es =>
  have u:Instr.findNow d (enc a) (e::es) 0=none:=by
   cases l with
   |nil=>simp at h
   |cons p l =>
    simp only[A2u,A3g,A2i]at h;unfold Instr.findNow;rw[h.1.1,j]
  rw[u];exact Oj K a w _ _ _ h
def Hu.empty:Hu enc (.map #[] 0) []:=⟨#[],0,rfl,mV,stamped_empty 0⟩
def Hu.nodup {l:List (κ×Value)}(h:Hu enc o l):(l.map (·.1)).Nodup:=by
 obtain⟨es,e,rfl,u,C⟩:=h;have m:es.toList.map (·.key)=l.map (fun p=>enc p.1):=by
  have:=congrArg (List.map (·.1)) u;simpa[Function.comp_def] using this
 have j:=C.2.2;rw[m]at j;have:l.map (fun p=>enc p.1)=(l.map (·.1)).map enc:=by simp[Function.comp_def]
 rw[this]at j;exact M4 j
def Ahy (K:Zk P kt enc)(C:P.underlying t=some (.map kt et)){z:Value}(E:∀ w,(zeroValue et).run P w=.ok z w){l:List (κ×Value)}(m:w.heap[g]?=some o)(u:Hu enc o l)(a:κ)(ok:Bool) :
 (Instr.lookup t (.map (some g)) (enc a) ok).run P w=.ok (Alm z (Ik a l) ok) w:=by
 obtain⟨es,e,rfl,h,F⟩:=u;have j:=U8 K a w h;rw[<-Aah a l 0];simp only[Instr.lookup,Sem.run_bind,run_underlying C,Result.andThen_ok,MapKept.run_getObj_map m,K.chk,Sem.run_pure,j];cases Iw a l 0 with
 |none=>simp only[Alm,Option.map_none,Sem.run_bind,E,Result.andThen_ok,Sem.run_pure]
 |some p=>simp only[Alm,A4c,Sem.run_bind,Sem.run_pure,Result.andThen_ok]
def Aij (K:Zk P kt enc)(ht:P.underlying t=some (.map kt et)){l:List (κ×Value)}(L:w.heap[g]?=some o)(ho:Hu enc o l)(a:κ)(x:Value) :
 ∃ o',Hu enc o' (Lr a x l)/\(Instr.mapUpdate t (.map (some g)) (enc a) x).run P w=.ok () { w with heap:=w.heap.setIfInBounds g o' }:=by
 obtain⟨es,m,rfl,C,Z⟩:=ho;have J:=U8 K a w C;have X:es.toList.length=l.length:=by simpa using congrArg List.length C
 cases hfk:Iw a l 0 with
 |none =>
  rw[hfk]at J;have Y:=Xc hfk;refine⟨.map (es.push { key:=enc a,val:=x,born:=m }) (m+1),⟨_,_,rfl,?_,stamped_push Z (fun e hm W=>?_)⟩,?_⟩
  ·rw[Agn x Y];simp only[Array.toList_push,A1i,C,A2u,A7m]
  ·obtain⟨j,hj,rfl⟩:=A3d.1 hm;have:=congrArg (fun t=>t[j]?) C;simp only[A1a,A01 hj,A4c]at this;rw[A01 oV]at this;simp only[A4c,A1f,A2i]at this;rw[this.1]at W;exact Y (A1b.2 ⟨_,A09 oV,K.inj _ _ W⟩)
  simp only[Instr.mapUpdate,Sem.run_bind,run_underlying ht,Result.andThen_ok,MapKept.run_getObj_map L,K.chk,J];exact MapKept.run_setObj_map _ L
 |some p =>
  obtain⟨j,v⟩:=p;rw[hfk]at J;obtain⟨_,Q,V,_⟩:=Yy hfk;rw[A6t]at Q V;have T:j<l.length:=(A05.1 Q).1;have R:j<es.toList.length:=oV;obtain⟨I,E⟩:∃ I,es.toList[j]?=some I:=⟨_,A01 R⟩;have F:I.key=enc a:=by
   have:=congrArg (fun t=>t[j]?) C;simp only[A1a,E,A4c,Q,A1f,A2i]at this;exact this.1
  have u:es[j]?=some I:=by rw[<-A6u];exact E
  refine⟨.map (es.modify j fun e=>{ e with key:=enc a,val:=x }) m,⟨_,_,rfl,?_,stamped_modify Z j _ (fun _ _=>rfl) (fun e _ h=>?_)⟩,?_⟩
  ·rw[V x,A2g];apply A4g;intro i;simp only[A1a,A6u,A8c,A1z];have hi:=congrArg (fun t=>t[i]?) C;simp only[A1a,A6u]at hi;by_cases e:j=i
   ·subst e;rw[if_pos rfl,if_pos rfl,u,if_pos (by simpa using T)];rfl
   rw[if_neg e,if_neg e];exact hi
  ·rw[u]at h;cases h;exact F.symm
  have H:((es[j]?).map (·.key)).getD (enc a)=enc a:=by rw[u];simp[F]
  simp only[Instr.mapUpdate,Sem.run_bind,run_underlying ht,Result.andThen_ok,MapKept.run_getObj_map L,K.chk,J,H];have U:(Instr.keyThatStays (enc a) (enc a)).run P w=.ok (enc a) w:=by unfold Instr.keyThatStays;rw[if_pos (K.bits a)];rfl
  rw[U];simp only[Result.andThen_ok];exact MapKept.run_setObj_map _ L
end
end
section
variable {D:List MapEntry}{clock g:Nat}{env:Operand->Value}{es:Array MapEntry}{o o':Obj}
variable [Cl]
open Go.MapKept
inductive Pt where
 |other
 |mk
 |look (t:Option TypeDesc) (x k:Value) (ok:Bool)
 |put (t:Option TypeDesc) (x k v:Value)
 |range (t:Option TypeDesc) (x:Value)
 |next (it:Value)
 |entry (it:Value)
def Nm (P:Program)(env:Operand->Value):Op->Pt
 |.makeMap _ none=>.mk
 |.lookup t x i ok=>.look (P.underlying t) (env x) (env i) ok
 |.mapUpdate t x k v=>.put (P.underlying t) (env x) (env k) (env v)
 |.insert t x k v=>.put (P.underlying t) (env x) (env k) (env v)
 |.range t x=>.range (P.underlying t) (env x)
 |.next it false=>.next (env it)
 |.entry it=>.entry (env it)
 |_=>.other
def Ni (P:Program)(st:List KI×S):Pt :=
 match st.1 with
 |.reg _ ops _ (i::_)::_=>match ops[i]? with
  |some o=>match Fb st.2 o&&(Kl st.2 o.op&&Ix o.op) with
   |true=>match gv st.2 ops o with
    |some true=>Nm P (C2 st.2) o.op
    |_=>.other
   |false=>.other
  |none=>.other
 |_=>.other
def Q9:Obj->Bool
 |.cells ..=>false
 |_=>true
section good
variable {u m:PH} {w:World}
def Ta (w:World)(g:Nat)(o:Obj):World:={ w with heap:=w.heap.setIfInBounds g o }
def Aay (h:w.heap[g]?=some o):(Ta w g o').heap[g]?=some o':=by
 show (w.heap.setIfInBounds g o')[g]?=_;rw[A7x];simp[Aw h]
def V0 {g k:Nat}(h:k≠g):(Ta w g o').heap[k]?=w.heap[k]?:=by
 show (w.heap.setIfInBounds g o')[k]?=_;rw[A2m (fun e=>h e.symm)]
def Amy (g:Nat)(o':Obj):(Ta w g o').heap.size=w.heap.size:=by show (w.heap.setIfInBounds g o').size=_;simp
theorem Bv.setO (h:Bv u m w)(hg:m g=some o)(hn:Q9 o'=true):Bv u (m.upd g o') (Ta w g o')/\B0 u m w u (m.upd g o') (Ta w g o'):=by
 have hb:=h.pm g _ hg;have hug:u g=none:=by
  rcases h.ap g with e|e
  ·exact e
  ·grind
 refine⟨⟨fun k o hk=>?_,fun k o hk=>?_,fun k=>?_,fun k cs1 t1 fr1 j z hk hj=>?_⟩,⟨by rw[Amy];exact A08 _,fun k hk hm=>V0 (fun e=>by rw[e,hg]at hm;cases hm),fun _ _=>rfl,fun k hk hm=>by rw[Ad _ _ (fun e=>by rw[e,hg]at hm;cases hm)];exact hm,⟨rfl,rfl⟩,fun _=>⟨rfl,A08 _⟩⟩⟩
 ·rw[V0 (fun e=>by rw[e,hug]at hk;cases hk)];exact h.pu k o hk
 ·by_cases e:k=g
  ·subst e;rw[Ab]at hk;rw[Aay hb];exact hk
  ·rw[Ad _ _ e]at hk;rw[V0 e];exact h.pm k o hk
 ·by_cases e:k=g
  ·grind
  ·rw[Ad _ _ e];exact h.ap k
 ·by_cases e:k=g
  ·subst e;rw[Aay hb]at hk;simp only[A1f]at hk;subst hk;cases hn
  ·rw[V0 e]at hk;exact h.cl k cs1 t1 fr1 j z hk hj
theorem Bv.newO (h:Bv u m w)(I:Q9 o=true):Bv u (m.upd w.heap.size o) (w.alloc o)/\B0 u m w u (m.upd w.heap.size o) (w.alloc o)/\m w.heap.size=none/\u w.heap.size=none:=by
 have F:m w.heap.size=none:=h.pm.none (A08 _);have J:u w.heap.size=none:=h.pu.none (A08 _);refine⟨⟨fun g o' C=>?_,fun g o' C=>?_,fun g=>?_,fun g cs t fr j z C H=>?_⟩,⟨by rw[B6];omega,fun g C _=>Aq _ _ C,fun _ _=>rfl,fun g C F=>by rw[Ad _ _ oV];exact F,⟨rfl,rfl⟩,fun _=>⟨rfl,A08 _⟩⟩,F,J⟩
 ·rw[Aq _ _ (h.pu.lt C)];exact h.pu g o' C
 ·by_cases e:g=w.heap.size
  ·subst e;rw[Ab]at C;rw[Cn];exact C
  rw[Ad _ _ e]at C;rw[Aq _ _ (h.pm.lt C)];exact h.pm g o' C
 ·by_cases e:g=w.heap.size
  ·grind
  rw[Ad _ _ e];exact h.ap g
 by_cases e:g=w.heap.size
 ·subst e;rw[Cn]at C;simp only[A1f]at C;subst C;cases I
 have E:=Aw C;rw[B6]at E;rw[Aq _ _ oV]at C;exact h.cl g cs t fr j z C H
def Bv.drewG (h:Bv u m w):B0 u m w u m w.drew:=⟨A08 _,fun _ _ _=>rfl,fun _ _=>rfl,fun _ _ h=>h,⟨rfl,rfl⟩,fun _=>⟨rfl,Nat.le_succ _⟩⟩
end good
section rules
variable {P:Program} [A6 P] {fn:Func} {Post:Ce} {st:List KI×S} {u m:PH}
theorem W4 {V:Pt}(h:Ni P st=V)(C:V≠.other):∃ t e j i l k s o,st=(.reg t e j (i::l)::k,s)/\e[i]?=some o/\gv s e o=some true/\Fb s o=true/\Kl s o.op=true/\Ix o.op=true/\Nm P (C2 s) o.op=V /\
 ∀ v,nx st v=(.reg t e j l::k,s.put o.dst (.v v)):=by
 obtain⟨E,s⟩:=st;unfold Ni at h;simp only at h;split at h
 ·rename_i t e j i l k;split at h
  ·rename_i o ho;split at h
   ·rename_i hb;simp only[A1m]at hb;split at h
    ·rename_i hg;exact⟨t,e,j,i,l,k,s,o,rfl,ho,hg,hb.1,hb.2.1,hb.2.2,h,fun v=>by simp[nx,ho]⟩
    grind
   grind
  grind
 grind
def P5:Pt->Bool
 |.look ..=>true
 |_=>false
def Ajd {o:Op}{V:Pt}(h:Nm P env o=V)(j:V≠.other)(e:P5 V=false):Fa o=false:=by
 unfold Nm at h;split at h<;>first|rfl|exact absurd h.symm j|(rw[<-h]at e;cases e)
theorem G.bigX {V:Pt}{K:Value->PH->PH->Prop}(h:Ni P (adv P st)=V)(F:V≠.other/\P5 V=false)(E:(∀ v t j,K v t j->PH.le m j)\/Vl (adv P st)=true)
 (U:∀ env (o:Oper),Nm P env o.op=V->∀ w,Bv u m w->Eg P env o w fun v w'=>∃ t j,Bv t j w'/\B0 u m w t j w'/\K v t j)
 (k:∀ v t j,PH.le u t->K v t j->G P fn Post (nx (adv P st) v) t j):G P fn Post st u m:=by
 refine G.stp ?_;obtain⟨id,Y,Z,i,l,kk,s,o,e,J,T,R,X,W,C,I⟩:=W4 h F.1;rw[e]at E⊢;refine⟨?_⟩;refine Ob.big (K:=K) J T R X W (Ajd C F.1 F.2) (fun v t j hK=>?_) (fun w H=>U _ o C w H) (fun v t j L Q=>?_)
 ·rcases E with E|E
  ·grind
  exact .inr (Abl J E)
 have:=(k v t j L Q).out;rw[I]at this;exact this
def Ame {o:Oper}{w w':World}{K:Value->World->Prop}(h:(execOp env o).run P w=.ok .skip w')(e:K undef w'):Eg P env o w K:=by
 unfold Eg;rw[h];exact e
theorem G.mapMk (h:Ni P (adv P st)=.mk)(k:∀ g,m g=none->u g=none->G P fn Post (nx (adv P st) (.map (some g))) u (m.upd g (.map #[] 0))):G P fn Post st u m:=by
 refine G.bigX (K:=fun v E j=>E=u/\PH.le m j/\∃ g,m g=none/\u g=none/\v=.map (some g)/\j=m.upd g (.map #[] 0)) h (by simp[P5]) (.inl fun v E j H=>H.2.1) (fun env o e w C=>?_) (fun T E j Q H=>?_)
 ·obtain⟨J,R,I,pos,after,t⟩:=o;simp only at e;unfold Nm at e;split at e<;>try (cases e;done)
  obtain⟨g1,g2,F,L⟩:=C.newO (o:=.map #[] 0) rfl;refine B8 (w':=w.alloc (.map #[] 0)) (v:=.map (some w.heap.size)) ?_ ⟨u,_,g1,g2,rfl,Jw _ F,w.heap.size,F,L,rfl,rfl⟩;simp[execOp,Instr.makeMap]
 grind
def Z0 (P:Program)(t:TypeId):Option Value:=match P.info? t with|some i=>i.zero|none=>none
def Abk {t:TypeId}{z:Value}(h:Z0 P t=some z)(w:World):(zeroValue t).run P w=.ok z w:=by
 unfold Z0 at h;split at h
 ·rename_i i hi;simp[zeroValue,typeInfo,hi,h]
 cases h
variable {κ:Type} [DecidableEq κ] {enc:κ->Value} {kt et:TypeId}
def G.mapGet (K:Zk P kt enc)(z:Value)(g:Nat)(o:Obj)(l:List (κ×Value))(a:κ)(ok:Bool)(h:Ni P (adv P st)=.look (some (.map kt et)) (.map (some g)) (enc a) ok)(hz:Z0 P et=some z)(V:u g=some o\/m g=some o)(W:Hu enc o l)
 (k:G P fn Post (nx (adv P st) (Alm z (Ik a l) ok)) u m):G P fn Post st u m:=by
 refine G.stp ?_;obtain⟨id,a1,dr,i,l',kk,s,o',e,I,F,U,Z,Y,j,H⟩:=W4 h mV;have k:=k.out;rw[H]at k;rw[e];have E:Fr o'.op=false:=by
  unfold Nm at j;split at j<;>first|(cases j;done)|(rename_i e;rw[e];rfl)
 refine⟨Ob.ask I F U Z Y E (fun w hp=>?_) k⟩;obtain⟨L,a0,J,pos,after,C⟩:=o';simp only at j hp;unfold Nm at j;split at j<;>try (cases j;done)
 rename_i t x i ok';simp only[Pt.look.injEq]at j;obtain⟨Q,R,T,rfl⟩:=j;obtain⟨pu,pm⟩:=hp (.inl rfl);have hw:w.heap[g]?=some o:=V.elim (pu g o) (pm (.inl rfl) g o);have X:=Ahy K Q (fun w=>Abk hz w) hw W a ok';simp only[execOp,R,T];simp[X]
def G.mapHas (K:Zk P kt enc)(z:Value)(g:Nat)(o:Obj)(l:List (κ×Value))(a:κ)(x:Value)(h:Ni P (adv P st)=.look (some (.map kt et)) (.map (some g)) (enc a) true)(C:Z0 P et=some z)(e:u g=some o\/m g=some o)(j:Hu enc o l)(t:Ik a l=some x)
 (k:G P fn Post (nx (adv P st) (.tuple #[x,zT])) u m):G P fn Post st u m :=
 G.mapGet K z g o l a true h C e j (by rw[t];exact k)
def G.mapNot (K:Zk P kt enc)(z:Value)(g:Nat)(o:Obj)(l:List (κ×Value))(a:κ)(h:Ni P (adv P st)=.look (some (.map kt et)) (.map (some g)) (enc a) true)(C:Z0 P et=some z)(e:u g=some o\/m g=some o)(j:Hu enc o l)(t:Ik a l=none)
 (k:G P fn Post (nx (adv P st) (.tuple #[z,zL])) u m):G P fn Post st u m :=
 G.mapGet K z g o l a true h C e j (by rw[t];exact k)
theorem G.mapPut (K:Zk P kt enc)(g:Nat)(o:Obj)(l:List (κ×Value))(a:κ)(x:Value)(h:Ni P (adv P st)=.put (some (.map kt et)) (.map (some g)) (enc a) x)(Q:Vl (adv P st)=true)(V:m g=some o)(ho:Hu enc o l)
 (k:∀ o',Hu enc o' (Lr a x l)->G P fn Post (nx (adv P st) undef) u (m.upd g o')):G P fn Post st u m:=by
 refine G.bigX (K:=fun v F E=>F=u/\v=undef/\∃ o',Hu enc o' (Lr a x l)/\E=m.upd g o') h (by simp[P5]) (.inr Q) (fun env o' e w H=>?_) (fun v' F E a0 hk=>?_)
 ·obtain⟨L,C,J,pos,after,j⟩:=o';have key:∀ t X A Y,P.underlying t=some (.map kt et)->env X=.map (some g)->env A=enc a->env Y=x->(C=.mapUpdate t X A Y\/C=.insert t X A Y)->Eg P env ⟨L,C,J,pos,after,j⟩ w fun v w'=>∃ F E,Bv F E w'/\B0 u m w F E w'/\F=u/\v=undef/\∃ o',Hu enc o' (Lr a x l)/\E=m.upd g o':=by
   intro t X A Y Z R T U he;have hw:w.heap[g]?=some o:=H.pm g o V;obtain⟨o',I,W⟩:=Aij K Z hw ho a x;have hn:Q9 o'=true:=by obtain⟨es,c,rfl,_⟩:=I;rfl
   obtain⟨g1,g2⟩:=H.setO V hn;refine Ame (w':=Ta w g o') ?_ ⟨u,_,g1,g2,rfl,rfl,o',I,rfl⟩;rcases he with rfl|rfl
   ·simp only[execOp,R,T,U];simp[W,Ta]
   simp only[execOp,R,T,U];simp[W,Ta]
  unfold Nm at e;split at e<;>try (cases e;done)
  ·grind
  grind
 grind
def Ar (D:List MapEntry):Array Nat:=(D.map (·.born)).toArray
structure Vo (es:Array MapEntry)(D:List MapEntry):Prop where
 sub:∀ e∈D,e∈es.toList
 nod:(D.map (·.born)).Nodup
def Vo.nil (es:Array MapEntry):Vo es []:=⟨mV,mV⟩
theorem G.mapRange (g:Nat)(es:Array MapEntry)(clock:Nat)(kt et:TypeId)(h:Ni P (adv P st)=.range (some (.map kt et)) (.map (some g)))(T:u g=some (.map es clock)\/m g=some (.map es clock))
 (k:∀ i,m i=none->u i=none->G P fn Post (nx (adv P st) (.pointer (zA i))) u (m.upd i (.mapIter (some g) clock (Ar []) clock))):G P fn Post st u m:=by
 refine G.bigX (K:=fun v E t=>E=u/\PH.le m t/\∃ i,m i=none/\u i=none/\v=.pointer (zA i)/\t=m.upd i (.mapIter (some g) clock (Ar []) clock)) h (by simp[P5]) (.inl fun v E t H=>H.2.1) (fun env o e w j=>?_) (fun Y E t U H=>?_)
 ·obtain⟨J,X,I,pos,after,C⟩:=o;simp only at e;unfold Nm at e;split at e<;>try (cases e;done)
  simp only[Pt.range.injEq]at e;obtain⟨Q,R⟩:=e;have W:w.heap[g]?=some (.map es clock):=T.elim (j.pu g _) (j.pm g _);obtain⟨g1,g2,F,L⟩:=j.newO (o:=.mapIter (some g) clock (Ar []) clock) rfl;have V:=run_range_map (P:=P) w _ kt et g es clock Q W;refine B8 (w':=w.alloc (.mapIter (some g) clock (Ar []) clock)) (v:=.pointer (some ⟨w.heap.size,0,none⟩)) ?_ ⟨u,_,g1,g2,rfl,Jw _ F,w.heap.size,F,L,rfl,rfl⟩;simp only[execOp,R];simp[V,Ar]
 grind
def Ad8 (n:Nat)(t:0<n)(w:World):∃ j e,j<n/\(e=w\/e=w.drew)/\(choose (.mapNext n)).run P w=.ok j e:=by
 by_cases h:n<=1
 ·exact⟨0,w,t,.inl rfl,by simp[Question.forced,h]⟩
 exact⟨_,w.drew,A29 _ t,.inr rfl,by
  simp only[choose,Sem.run,Question.forced,decide_eq_true_eq,h,if_false,Question.cut];rfl⟩
theorem Amu {w:World}{E g:Nat}(T:TypeId)(hi:w.heap[E]?=some (.mapIter (some g) clock (Ar D) clock))(X:w.heap[g]?=some (.map es clock))(R:Stamped es clock) :
 ((leftOf es (Ar D)).size=0/\(Instr.next (.pointer (zA E)) false T).run P w=.ok (.tuple #[zL]) w) \/
 ∃ e∈(leftOf es (Ar D)).toList,∃ t,(t=w\/t=w.drew)/\(Instr.next (.pointer (zA E)) false T).run P w=.ok (.tuple #[zT,e.key,e.val]) (Ta t E (.mapIter (some g) clock (Ar (D++[e])) clock)):=by
 have C:∀ e:MapEntry,(Ar D).push e.born=Ar (D++[e]):=fun e=>by simp[Ar]
 simp only[Instr.next,getObj,Sem.run_bind,Sem.run,hi,X,Result.andThen,next_test_false (Ar D) es clock clock R.1 (A08 _),A4z,if_false];have h:∀ x∈(leftOf es (Ar D)).toList,x.born<clock:=fun x Q=>R.1 x (mem_left Q).1;have W:es.filter (fun e=>!(Ar D).contains e.born)=leftOf es (Ar D):=rfl;simp only[W];generalize leftOf es (Ar D)=L at h⊢;have U:L.filter (fun x=>decide (x.born<clock))=L:=Array.filter_eq_self.2 (fun x Q=>by simpa using h x (by simpa using Q));have V:L.filter (fun x=>decide (x.born≥clock)) = #[]:=by simp_all
 simp only[U,V,Array.append_empty];by_cases h0:L.size=0
 ·have:L = #[]:=A4s h0;subst this;simp[Question.forced]
 right;have K:L.isEmpty=false:=by grind
 simp only[K,A4z,if_false,Array.empty_append,Array.size_map];obtain⟨j,t,Y,F,H⟩:=Ad8 (P:=P) L.size oV w;refine⟨L[j],mV,t,F,?_⟩;have J:t.heap[E]?=some (.mapIter (some g) clock (Ar D) clock):=by rcases F with rfl|rfl<;>exact hi
 have I:∀ o':Obj,(setObj E o').run P t=.ok () (Ta t E o'):=fun o'=>by
  simp only[setObj,Sem.run,J,Ta]
 simp only[H,Array.getElem?_map,A2v Y,A4c,Sem.run_bind,I,C];rfl
def Pl (D:List MapEntry)(b:Nat):(Ar D).contains b=true↔b∈D.map (·.born):=by
 unfold Ar;simp
def Aoo (I:Stamped es clock)(t:Vo es D)(h:(leftOf es (Ar D)).size=0):D.Perm es.toList:=by
 have H:es.toList.Nodup:=M4 I.2.1;have E:D.Nodup:=M4 t.nod;refine (List.perm_ext_iff_of_nodup E H).2 fun e=>⟨t.sub e,fun K=>?_⟩;have F:leftOf es (Ar D) = #[]:=A4s h;have C:(Ar D).contains e.born=true:=by
  cases C:(Ar D).contains e.born with
  |true=>rfl
  |false =>
   have:e∈leftOf es (Ar D):=Array.mem_filter.2 ⟨by simpa using K,by rw[C];rfl⟩;rw[F]at this;simp at this
 obtain⟨d,J,R⟩:=A1b.1 ((Pl D _).1 C);have L:=find_born e es.toList I.2.1 K;have j:=find_born d es.toList I.2.1 (t.sub d J);rw[R]at j;rw[L]at j;have Q:=A28 j;rw[Q];exact J
def Vo.snoc (h:Vo es D){e:MapEntry}(H:e∈(leftOf es (Ar D)).toList):Vo es (D++[e]):=by
 obtain⟨E,t⟩:=mem_left H;refine⟨fun x j=>?_,?_⟩
 ·simp only[A1h,A12]at j;rcases j with j|rfl
  ·exact h.sub x j
  exact E
 simp only[A1i,A2u,A7m];refine A4p.2 ⟨h.nod,mV,fun a F b C=>?_⟩;simp only[A12]at C;subst C;rintro rfl;rw[(Pl D _).2 F]at t;cases t
theorem G.mapNext (C g:Nat)(es:Array MapEntry)(clock:Nat)(D:List MapEntry)(h:Ni P (adv P st)=.next (.pointer (zA C)))(L:Vl (adv P st)=true)(hi:m C=some (.mapIter (some g) clock (Ar D) clock))(hg:u g=some (.map es clock)\/m g=some (.map es clock))(X:Stamped es clock)(V:Vo es D)
 (k0:D.Perm es.toList->G P fn Post (nx (adv P st) (.tuple #[zL])) u m)
 (k1:∀ e,e∈es.toList->Vo es (D++[e])->G P fn Post (nx (adv P st) (.tuple #[zT,e.key,e.val])) u (m.upd C (.mapIter (some g) clock (Ar (D++[e])) clock))):G P fn Post st u m:=by
 refine G.bigX (K:=fun v Y T=>Y=u/\((T=m/\v=.tuple #[zL]/\D.Perm es.toList)\/∃ e,e∈es.toList/\Vo es (D++[e])/\v=.tuple #[zT,e.key,e.val]/\T=m.upd C (.mapIter (some g) clock (Ar (D++[e])) clock))) h (by simp[P5]) (.inr L) (fun env o j w t=>?_) (fun v' Y T a0 hk=>?_)
 ·obtain⟨Z,a1,I,pos,after,J⟩:=o;simp only at j;unfold Nm at j;split at j<;>try (cases j;done)
  simp only[Pt.next.injEq]at j;have hw:w.heap[g]?=some (.map es clock):=hg.elim (t.pu g _) (t.pm g _);have R:=t.pm C _ hi;rcases Amu (P:=P) I R hw X with ⟨h0,Q⟩|⟨e,W,U,H,Q⟩
  ·refine B8 (w':=w) (v:=.tuple #[zL]) ?_ ⟨u,m,t,B0.refl _ _ _,rfl,.inl ⟨rfl,rfl,Aoo X V h0⟩⟩;simp only[execOp,j];simp[Q]
  have E:Bv u m U:=by rcases H with rfl|rfl;exact t;exact t.drew'
  have F:B0 u m w u m U:=by rcases H with rfl|rfl;exact B0.refl _ _ _;exact t.drewG
  obtain⟨g1,g2⟩:=E.setO (o':=.mapIter (some g) clock (Ar (D++[e])) clock) hi rfl;refine B8 (w':=Ta U C (.mapIter (some g) clock (Ar (D++[e])) clock)) (v:=.tuple #[zT,e.key,e.val]) ?_ ⟨u,_,g1,F.trans g2,rfl,.inr ⟨e,(mem_left W).1,V.snoc W,rfl,rfl⟩⟩;simp only[execOp,j];simp[Q]
 grind
theorem G.mapEntry (C g:Nat)(es:Array MapEntry)(clock:Nat)(D:List MapEntry)(e:MapEntry)(h:Ni P (adv P st)=.entry (.pointer (zA C)))(hi:m C=some (.mapIter (some g) clock (Ar (D++[e])) clock))(V:u g=some (.map es clock)\/m g=some (.map es clock))(Y:Stamped es clock)(T:e∈es.toList)
 (k:G P fn Post (nx (adv P st) (.tuple #[e.key,e.val])) u m):G P fn Post st u m:=by
 refine G.bigX (K:=fun v I H=>I=u/\H=m/\v=.tuple #[e.key,e.val]) h (by simp[P5]) (.inl fun v I H J=>by rw[J.2.1];exact PH.le_refl _) (fun env o j w t=>?_) (fun v' I H W J=>?_)
 ·obtain⟨Q,a0,L,pos,after,E⟩:=o;simp only at j;unfold Nm at j;split at j<;>try (cases j;done)
  simp only[Pt.entry.injEq]at j;have Z:w.heap[g]?=some (.map es clock):=V.elim (t.pu g _) (t.pm g _);have F:=t.pm C _ hi;have R:(Ar (D++[e])).back?=some e.born:=by simp[Ar]
  have U:es.find? (fun x=>x.born==e.born)=some e:=by rw[<-Array.find?_toList];exact find_born e es.toList Y.2.1 T
  have X:(Instr.entry (.pointer (zA C))).run P w=.ok (.tuple #[e.key,e.val]) w:=by
   simp only[Instr.entry,getObj,Sem.run_bind,Sem.run,F,Z,Result.andThen,R,bne_self_eq_false,U];rfl
  refine B8 (w':=w) ?_ ⟨u,m,t,B0.refl _ _ _,rfl,rfl,rfl⟩;simp only[execOp,j];simp[X]
 grind
end rules
end
section
variable {g:Nat}
variable [Cl]
def Pj (g:Nat)(o:Obj):PH:=PH.mt.upd g o
def PH.del (m:PH)(g:Nat):PH:=fun h=>if h=g then none else m h
def Ck (g:Nat)(o:Obj):Pj g o g=some o:=Ab _ _ _
def Mz {g h:Nat}(o:Obj)(e:h≠g):Pj g o h=none:=by unfold Pj;rw[Ad _ _ e];rfl
def Aoe {m:PH}{o:Obj}(h:m g=some o):m=(m.del g).or (Pj g o)/\Hp (m.del g) (Pj g o):=by
 constructor
 ·funext k
  by_cases e:k=g
  ·subst e;rw[PH.or_r (by simp[PH.del]),Ck,h]
  cases hk:m k with
  |none=>rw[PH.or_r (by simp[PH.del,e,hk]),Mz o e]
  |some p=>rw[PH.or_l (o:=p) (by simp[PH.del,e,hk])]
 intro k;by_cases e:k=g
 ·left;simp[PH.del,e]
 right;exact Mz o e
def Arv {m:PH}{o:Obj}:(m.del g).or (Pj g o)=m.upd g o:=by
 funext k
 by_cases e:k=g
 ·subst e;rw[PH.or_r (by simp[PH.del]),Ck,Ab]
 rw[Ad _ _ e];cases hk:m k with
 |none=>rw[PH.or_r (by simp[PH.del,e,hk]),Mz o e]
 |some p=>rw[PH.or_l (o:=p) (by simp[PH.del,e,hk])]
section
variable {P:Program} [A6 P] {fn:Func} {Post:Ce} {st:List KI×S} {u m:PH}
def G.callG (f:Nat)(args:zV){g:Nat}{o:Obj}{R:Value->PH->Obj->Prop}(h:Aj P (adv P st)=.call f args)(j:Vl (adv P st)=true)(H:∀ args w,(callFunc f args).run P w=.ok (.enter f args) w)(I:m g=some o)
 (c:Ag P f args u (Pj g o) (fun v e t=>∃ o',t=Pj g o'/\R v e o')) (k:∀ v e o',PH.le u e->R v e o'->G P fn Post (nx (adv P st) v) e (m.upd g o')):G P fn Post st u m:=by
 obtain⟨C,E⟩:=Aoe I;refine G.callA f args h j H C E c ?_;rintro v e t J ⟨o',rfl,F⟩ _;rw[Arv];exact k v e o' J F
def Ag.giveAll {f:FuncId}{args:zV}{R:Value->PH->PH->Prop}(c:Ag P f args u PH.mt R):Fn0 P f args u (fun v C=>∃ L K,PH.le L C/\PH.le K C/\R v L K):=by
 intro w V;refine Calls.mono (c w V) fun e w' U=>?_;obtain⟨v,C,I,Q,J,E,T⟩:=U;have H:PH.le C (I.or C):=fun g o h=>by
  cases hx:I g with
  |none=>rw[PH.or_r hx];exact h
  |some p=>have:=(J.ap g).resolve_right (by rw[hx];simp);rw[this]at h;cases h
 refine⟨v,I.or C,PH.mt,Q,⟨fun g o h=>?_,Fj.mt _,fun g=>.inr rfl,fun g cs t fr j z h W=>?_⟩,⟨E.sz,E.old,fun g F=>?_,fun _ _ _=>rfl,E.io,E.dr⟩,rfl,C,I,H,fun g o h=>PH.or_l h,T⟩
 ·cases hx:I g with
  |none=>rw[PH.or_r hx]at h;exact J.pu g o h
  |some p=>rw[PH.or_l hx]at h;cases h;exact J.pm g _ hx
 ·exact H g _ (J.cl g cs t fr j z h W)
 rw[PH.or_r (E.ms g F rfl)];exact E.us g F
end
abbrev SlI:Type:=zP×Nat×Nat
section
variable {κ:Type} [DecidableEq κ] {enc:κ->Value} {R:PH->Value->Rat->Prop} {nz:Bool} {u:PH} {o:Obj} {f:κ->Rat} {N s:Nat}
def O4 {a:κ}:∀ {l:List (κ×Value)} {v:Value},Ik a l=some v->(a,v)∈l
 |(b,w)::l,v,h=>by
  unfold Ik at h;split at h
  ·rename_i e;cases h;rw[e];simp
  exact A2f _ (O4 h)
def Abv {a:κ}:∀ {l:List (κ×Value)} {v:Value},(l.map (·.1)).Nodup->(a,v)∈l->Ik a l=some v
 |(b,w)::l,v,hn,h=>by
  simp only[A2u,A4j]at hn;unfold Ik;rcases A1g.1 h with e|e
  ·cases e;rw[if_pos rfl]
  have:a≠b:=fun j=>hn.1 (by rw[<-j];exact A1b.2 ⟨_,e,rfl⟩);rw[if_neg this];exact Abv hn.2 e
def Ae0 {a:κ}{x:Value}:∀ {l:List (κ×Value)} {p:κ×Value},(l.map (·.1)).Nodup->p∈Lr a x l->p=(a,x)\/(p∈l/\p.1≠a)
 |[],p,_,h=>by simp[Lr]at h;exact .inl h
 |(b,w)::l,p,hn,h=>by
  simp only[A2u,A4j]at hn;unfold Lr at h;split at h
  ·rename_i e;subst e;rcases A1g.1 h with h|h
   ·exact .inl h
   refine .inr ⟨A2f _ h,fun j=>hn.1 ?_⟩;rw[<-j];exact A1b.2 ⟨p,h,rfl⟩
  rename_i e;rcases A1g.1 h with h|h
  ·subst h;exact .inr ⟨mV,fun j=>e j.symm⟩
  rcases Ae0 hn.2 h with h|⟨h,t⟩
  ·exact .inl h
  exact .inr ⟨A2f _ h,t⟩
def Aaq {a:κ}{x:Value}{k:κ}:∀ {l:List (κ×Value)},k∈(Lr a x l).map (·.1)↔k=a\/k∈l.map (·.1)
 |[]=>by simp[Lr]
 |(b,w)::l=>by
  unfold Lr;split
  ·rename_i e;subst e;simp
  simp only[A2u,A1g,Aaq (l:=l)];constructor
  ·rintro (h|h|h)
   ·exact .inr (.inl h)
   ·exact .inl h
   exact .inr (.inr h)
  rintro (h|h|h)
  ·exact .inr (.inl h)
  ·exact .inl h
  exact .inr (.inr h)
def U1 {a:κ}{x:Value}:∀ {l:List (κ×Value)},(Lr a x l).length<=l.length+1
 |[]=>by simp[Lr]
 |(b,w)::l=>by
  unfold Lr;split
  ·simp
  have:=U1 (a:=a) (x:=x) (l:=l);simp;omega
def Nh (f:κ->Rat)(a:κ)(q:Rat):κ->Rat:=fun k=>if k=a then q else f k
end
end
section
variable [Cl]
open Go.MapKept
def Tt {α β:Type}(f:α->β):∀ {l:List α} {x y:α},(l.map f).Nodup->x∈l->y∈l->f x=f y->x=y
 |[],_,_,_,h,_,_=>by simp at h
 |a::l,x,y,hn,t,j,e=>by
  simp only[A2u,A4j]at hn;rcases A1g.1 t with E|t
  ·subst E;rcases A1g.1 j with C|j
   ·exact C.symm
   exact absurd (A1b.2 ⟨y,j,e.symm⟩) hn.1
  rcases A1g.1 j with C|j
  ·rw[C]at e;exact absurd (A1b.2 ⟨x,t,e⟩) hn.1
  exact Tt f hn.2 t j e
theorem Ym {α β:Type}(f:α->β):∀ {L l:List α},(L.map f).Nodup->(∀ p∈L,p∈l)->L.length<=l.length
 |[],_,_,_=>A1t _
 |a::L,l,hn,hs=>by
  simp only[A2u,A4j]at hn;obtain⟨s,t,rfl⟩:=A6k (hs a mV);have:=Ym f (L:=L) (l:=s++t) hn.2 (fun p hp=>by
   have h1:=hs p (by simp[hp]);have hne:p≠a:=fun e=>hn.1 (by rw[<-e];exact A1b.2 ⟨p,hp,rfl⟩);simp only[A1h,A1g]at h1⊢;rcases h1 with h|h|h
   ·exact .inl h
   ·exact absurd h hne
   ·exact .inr h)
  simp only[A1d,A3f]at this⊢;omega
section
variable {κ:Type} [DecidableEq κ] {enc:κ->Value}
structure Gj (enc:κ->Value)(es:Array MapEntry)(l:List (κ×Value))(D:List MapEntry)(L:List (κ×Value)):Prop where
 it:Vo es D
 kv:D.map (fun e=>(e.key,e.val))=L.map (fun p=>(enc p.1,p.2))
 sub:∀ p∈L,p∈l
 nod:(L.map (·.1)).Nodup
def Gj.nil (es:Array MapEntry)(l:List (κ×Value)):Gj enc es l [] []:=⟨Vo.nil es,rfl,mV,mV⟩
def Gj.snoc (I:∀ a b,enc a=enc b->a=b){es:Array MapEntry}{l:List (κ×Value)}{D:List MapEntry}{L:List (κ×Value)}(V:es.toList.map (fun e=>(e.key,e.val))=l.map (fun p=>(enc p.1,p.2)))(W:(l.map (·.1)).Nodup)
 (h:Gj enc es l D L) {e:MapEntry} (U:e∈es.toList) (hi:Vo es (D++[e])):∃ p,p∈l/\e.key=enc p.1/\e.val=p.2/\p.1∉L.map (·.1)/\Gj enc es l (D++[e]) (L++[p]):=by
 have Y:(e.key,e.val)∈l.map (fun p=>(enc p.1,p.2)):=by rw[<-V];exact A1b.2 ⟨e,U,rfl⟩
 obtain⟨p,hp,j⟩:=A1b.1 Y;simp only[A2i]at j;have J:(es.toList.map (·.key)).Nodup:=by
  have X:es.toList.map (·.key)=(l.map (·.1)).map enc:=by
   have:=congrArg (List.map (·.1)) V;simpa[Function.comp_def] using this
  rw[X];exact List.pairwise_map.2 (W.imp fun K t=>K (I _ _ t))
 have E:p.1∉L.map (·.1):=by
  intro hm;obtain⟨q,C,R⟩:=A1b.1 hm;have Q:q=p:=Tt (·.1) W (h.sub q C) hp R;subst Q;have Z:(enc q.1,q.2)∈D.map (fun e=>(e.key,e.val)):=by rw[h.kv];exact A1b.2 ⟨q,C,rfl⟩
  obtain⟨t,F,H⟩:=A1b.1 Z;simp only[A2i]at H;have:t=e:=Tt (·.key) J (h.it.sub t F) U (H.1.trans j.1);subst this;have:=hi.nod;rw[A1i,A4p]at this;exact this.2.2 t.born (A1b.2 ⟨t,F,rfl⟩) t.born mV rfl
 refine⟨p,hp,j.1.symm,j.2.symm,E,hi,?_,fun q C=>?_,?_⟩
 ·rw[A1i,A1i,h.kv];simp[j.1,j.2]
 ·rcases A1h.1 C with C|C
  ·exact h.sub q C
  simp at C;subst C;exact hp
 rw[A1i,A4p];exact⟨h.nod,mV,fun a ha b T t=>E (by simp at T;rw[<-T,<-t];exact ha)⟩
def Gj.all (C:∀ a b,enc a=enc b->a=b){es:Array MapEntry}{l:List (κ×Value)}{D:List MapEntry}{L:List (κ×Value)}(J:es.toList.map (fun e=>(e.key,e.val))=l.map (fun p=>(enc p.1,p.2)))
 (h:Gj enc es l D L) (hp:D.Perm es.toList):∀ p∈l,p∈L:=by
 intro p E;have F:(enc p.1,p.2)∈es.toList.map (fun e=>(e.key,e.val)):=by rw[J];exact A1b.2 ⟨p,E,rfl⟩
 obtain⟨e,I,j⟩:=A1b.1 F;have H:(e.key,e.val)∈L.map (fun p=>(enc p.1,p.2)):=by rw[<-h.kv];exact A1b.2 ⟨e,hp.mem_iff.2 I,rfl⟩
 obtain⟨q,K,t⟩:=A1b.1 H;simp only[A2i]at t j;have:q=p:=A6z (C _ _ (t.1.trans j.1)) (t.2.trans j.2);subst this;exact K
def Gj.len {es:Array MapEntry}{l:List (κ×Value)}{D:List MapEntry}{L:List (κ×Value)}(h:Gj enc es l D L):L.length<=l.length:=Ym (·.1) h.nod h.sub
end
section rules
variable {P:Program} [A6 P] {fn:Func} {Post:Ce} {st:List KI×S} {u m:PH}
variable {κ:Type} [DecidableEq κ] {enc:κ->Value}
def G.mapNextL (t:∀ a b,enc a=enc b->a=b)(C g:Nat)(es:Array MapEntry)(j:Nat)(l:List (κ×Value))(D:List MapEntry)(L:List (κ×Value))(h:Ni P (adv P st)=.next (.pointer (zA C)))(F:Vl (adv P st)=true)
 (hi:m C=some (.mapIter (some g) j (Ar D) j)) (V:u g=some (.map es j)\/m g=some (.map es j)) (X:Stamped es j) (Q:es.toList.map (fun e=>(e.key,e.val))=l.map (fun p=>(enc p.1,p.2))) (W:(l.map (·.1)).Nodup) (E:Gj enc es l D L)
 (Y:(∀ p∈l,p∈L)->G P fn Post (nx (adv P st) (.tuple #[zL])) u m)
 (Z:∀ p e,p∈l->p.1∉L.map (·.1)->e∈es.toList->e.key=enc p.1->e.val=p.2->Gj enc es l (D++[e]) (L++[p])->G P fn Post (nx (adv P st) (.tuple #[zT,enc p.1,p.2])) u (m.upd C (.mapIter (some g) j (Ar (D++[e])) j))):G P fn Post st u m:=by
 refine G.mapNext C g es j D h F hi V X E.it (fun hp=>Y (E.all t Q hp)) (fun e K H=>?_);obtain⟨p,R,I,J,T,U⟩:=E.snoc t Q W K H;rw[I,J];exact Z p e R T K I J U
end rules
end
section
abbrev Par:=Int×zB
def Ud:∀ a:zB,Op.bytesLess a a=false
 |[]=>rfl
 |x::a=>by unfold Op.bytesLess;rw[Ud a];simp
def Se:∀ {a b c:zB},Op.bytesLess a b=true->Op.bytesLess b c=true->Op.bytesLess a c=true
 |_,[],_,h,_=>by simp[Op.bytesLess]at h
 |_,_::_,[],_,k=>by simp[Op.bytesLess]at k
 |[],_::_,_::_,_,_=>rfl
 |x::a,y::b,z::c,h,k=>by
  unfold Op.bytesLess at h k⊢;simp only[A4b,decide_eq_true_eq,A1m,beq_iff_eq]at h k⊢;rcases h with h|⟨rfl,h⟩
  ·rcases k with k|⟨rfl,k⟩
   ·exact .inl (UInt8.lt_trans h k)
   exact .inl h
  rcases k with k|⟨rfl,k⟩
  ·exact .inl k
  exact .inr ⟨rfl,Se h k⟩
def Ab1:∀ {a b:zB},Op.bytesLess a b=false->Op.bytesLess b a=false->a=b
 |[],[],_,_=>rfl
 |[],_::_,h,_=>by simp[Op.bytesLess]at h
 |_::_,[],_,k=>by simp[Op.bytesLess]at k
 |x::a,y::b,h,k=>by
  unfold Op.bytesLess at h k;simp only[Bool.or_eq_false_iff,decide_eq_false_iff_not,A8b,beq_eq_false_iff_ne]at h k;have j:x=y:=by
   rcases A5u x.toNat y.toNat with e|e|e
   ·exact absurd (A9v.2 e) h.1
   ·exact A8p.1 e
   exact absurd (A9v.2 e) k.1
  subst j;have m:=h.2.resolve_left (fun e=>e rfl);have t:=k.2.resolve_left (fun e=>e rfl);rw[Ab1 m t]
def Vj (a b:zB):Int:=if Op.bytesLess a b then -1 else if a=b then 0 else 1
def Q1 (x y:Int):Int:=if x<y then -1 else if y<x then 1 else 0
def Bk (a b:Par):Int:=if Q1 a.1 b.1≠0 then Q1 a.1 b.1 else Vj a.2 b.2
def Oc (a b:Par×Par):Int:=if Bk a.1 b.1≠0 then Bk a.1 b.1 else Bk a.2 b.2
structure Ord {κ:Type}(c:κ->κ->Int):Prop where
 refl:∀ a,c a a=0
 eq:∀ a b,c a b=0->a=b
 sym:∀ a b,c a b<0↔0<c b a
 trans:∀ a b d,c a b<0->c b d<0->c a d<0
def A0y:Ord Vj:=by
 refine⟨fun a=>by simp[Vj,Ud],fun a b h=>?_,fun a b=>?_,fun a b d h k=>?_⟩
 ·unfold Vj at h;split at h
  ·cases h
  split at h
  ·assumption
  cases h
 ·unfold Vj;by_cases h:Op.bytesLess a b=true
  ·rw[if_pos h];have j:¬ (Op.bytesLess b a=true):=fun k=>by have:=Se h k;rw[Ud]at this;cases this
   have t:¬ (b=a):=fun e=>by rw[e,Ud]at h;cases h
   rw[if_neg j,if_neg t];omega
  rw[if_neg h];constructor
  ·intro k;split at k<;>omega
  intro k;by_cases j:Op.bytesLess b a=true
  ·rw[if_pos j]at k;omega
  rw[if_neg j]at k;have:=Ab1 (Bool.eq_false_iff.2 j) (Bool.eq_false_iff.2 h);rw[if_pos this]at k;omega
 have m:Op.bytesLess a b=true:=by
  unfold Vj at h;split at h
  ·assumption
  split at h<;>omega
 have u:Op.bytesLess b d=true:=by
  unfold Vj at k;split at k
  ·assumption
  split at k<;>omega
 unfold Vj;rw[if_pos (Se m u)];omega
def A0o:Ord Q1:=by
 refine⟨fun a=>by simp[Q1],fun a b h=>?_,fun a b=>?_,fun a b d h k=>?_⟩;all_goals unfold Q1 at *
 ·split at h<;>(try split at h)<;>omega
 ·split<;>split<;>(try split)<;>omega
 split at h<;>split at k<;>(try split at h)<;>(try split at k)<;>split<;>(try split)<;>omega
def Ord.lex {α β:Type}{c:α->α->Int}{d:β->β->Int}(h:Ord c)(k:Ord d):Ord (fun (a b:α×β)=>if c a.1 b.1≠0 then c a.1 b.1 else d a.2 b.2):=by
 refine⟨fun a=>by simp[h.refl,k.refl],fun a b e=>?_,fun a b=>?_,fun a b x e f=>?_⟩
 ·by_cases h0:c a.1 b.1=0
  ·simp only[h0,ne_eq,not_true,if_false]at e;exact A6z (h.eq _ _ h0) (k.eq _ _ e)
  simp only[h0,ne_eq,not_false_eq_true,if_true]at e
 ·have E:=h.sym a.1 b.1;have H:=h.sym b.1 a.1;by_cases h0:c a.1 b.1=0
  ·have e:=h.eq _ _ h0;have t:c b.1 a.1=0:=by rw[<-e];exact h.refl _
   simp only[h0,t,ne_eq,not_true,if_false];exact k.sym _ _
  have t:c b.1 a.1≠0:=fun F=>h0 (by rw[h.eq _ _ F];exact h.refl _);simp only[h0,t,ne_eq,not_false_eq_true,if_true];exact E
 have g:∀ y z:α×β,(if c y.1 z.1≠0 then c y.1 z.1 else d y.2 z.2)<0↔(c y.1 z.1<0\/(y.1=z.1/\d y.2 z.2<0)):=fun y z=>by
  by_cases h0:c y.1 z.1=0
  ·have e:=h.eq _ _ h0;simp only[h0,ne_eq,not_true,if_false];constructor
   ·intro j;exact .inr ⟨e,j⟩
   rintro (j|⟨_,j⟩)
   ·omega
   exact j
  simp only[h0,ne_eq,not_false_eq_true,if_true];constructor
  ·intro j;exact .inl j
  rintro (j|⟨m,_⟩)
  ·exact j
  exact absurd (by rw[m];exact h.refl _) h0
 have m:=(g a b).1 e;have f':=(g b x).1 f;refine (g a x).2 ?_;rcases m with m|⟨u,C⟩
 ·rcases f' with f'|⟨f1,f2⟩
  ·exact .inl (h.trans _ _ _ m f')
  rw[<-f1];exact .inl m
 rcases f' with f'|⟨f1,f2⟩
 ·rw[u];exact .inl f'
 exact .inr ⟨u.trans f1,k.trans _ _ _ C f2⟩
def Et:Ord Bk:=Ord.lex A0o A0y
def A0t:Ord Oc:=Ord.lex Et Et
section
variable {κ:Type} {c:κ->κ->Int}
def Hb (c:κ->κ->Int)(l:List κ):Prop:=l.Pairwise fun a b=>c a b<0
def Ord.irr (h:Ord c)(a:κ):¬ c a a<0:=by rw[h.refl];omega
def Agg (h:Ord c):∀ {l l':List κ},Hb c l->Hb c l'->(∀ a,a∈l↔a∈l')->l=l'
 |[],[],_,_,_=>rfl
 |[],b::l',_,_,e=>by have:=(e b).2 mV;simp at this
 |a::l,[],_,_,e=>by have:=(e a).1 mV;simp at this
 |a::l,b::l',h1,h2,e=>by
  obtain⟨t,C⟩:=A8y.1 h1;obtain⟨u,E⟩:=A8y.1 h2;have m:a=b:=by
   rcases A1g.1 ((e a).1 mV) with r|r
   ·exact r
   rcases A1g.1 ((e b).2 mV) with s|s
   ·exact s.symm
   exact absurd (h.trans _ _ _ (t b s) (u a r)) (h.irr a)
  subst m
  congr 1
  refine Agg h C E fun x=>?_;constructor
  ·intro j;rcases A1g.1 ((e x).1 (by simp[j])) with r|r
   ·subst r;exact absurd (t x j) (h.irr x)
   exact r
  intro j;rcases A1g.1 ((e x).2 (by simp[j])) with r|r
  ·subst r;exact absurd (u x j) (h.irr x)
  exact r
def Hb.nodup (h:Ord c){l:List κ}(m:Hb c l):l.Nodup:=m.imp fun j e=>by rw[e]at j;exact h.irr _ j
structure Can (c:κ->κ->Int)(f:κ->Rat)(l:List (κ×Rat)):Prop where
 srt:Hb c (l.map (·.1))
 val:∀ p∈l,p.2=f p.1/\p.2≠0
 out:∀ k,k∉l.map (·.1)->f k=0
end
structure CF where
 c:Rat
 s:Par->Rat
 t:Par×Par->Rat
def Ay (p q:Par):Par×Par:=if 0<Bk p q then (q,p) else (p,q)
def Wi (p q:Par):Ay p q=Ay q p:=by
 unfold Ay;have j:=Et.sym p q;have m:=Et.sym q p;by_cases h:0<Bk p q
 ·rw[if_pos h,if_neg oV]
 rw[if_neg h];by_cases e:0<Bk q p
 ·rw[if_pos e]
 rw[if_neg e];have:=Et.eq p q oV;rw[this]
def CF.zero:CF:=⟨0,fun _=>0,fun _=>0⟩
def CF.add (a b:CF):CF:=⟨a.c+b.c,fun p=>a.s p+b.s p,fun q=>a.t q+b.t q⟩
def CF.scale (k:Rat)(a:CF):CF:=⟨a.c*k,fun p=>a.s p*k,fun q=>a.t q*k⟩
def I2 (a b:CF)(q:Par×Par):Rat:=if 0<Bk q.1 q.2 then 0 else if q.1=q.2 then 2*(a.s q.1*b.s q.1) else a.s q.1*b.s q.2+a.s q.2*b.s q.1
def CF.mul (a b:CF):CF:=⟨a.c*b.c,fun p=>b.s p*a.c+a.s p*b.c,fun q=>b.t q*a.c+a.t q*b.c+I2 a b q⟩
def CF.ext' {a b:CF}(e:a.c=b.c)(h:∀ p,a.s p=b.s p)(j:∀ q,a.t q=b.t q):a=b:=by
 cases a;cases b;simp only at e h j;rw[e,funext h,funext j]
theorem Ajg (a b:CF)(q:Par×Par):I2 a b q=I2 b a q:=by
 unfold I2;split
 ·rfl
 split<;>grind
theorem CF.mul_comm (a b:CF):a.mul b=b.mul a:=CF.ext' (by simp only[CF.mul];grind) (fun p=>by simp only[CF.mul];grind) (fun q=>by simp only[CF.mul];rw[Ajg];grind)
theorem CF.mul_zero (a:CF):a.mul CF.zero=CF.zero:=by
 refine CF.ext' (by simp only[CF.mul,CF.zero];grind) (fun p=>by simp only[CF.mul,CF.zero];grind) (fun q=>?_);simp only[CF.mul,CF.zero,I2];split
 ·grind
 split<;>grind
end
section
variable {k n:Nat}{q:Rat}{s:Src}{ts:List Int}{u:PH}
def A0c {x:Int}(m:-9223372036854775808<=x)(t:x<=9223372036854775807)(e:0<n)(h:n<=1000000) :
 zF 56 [zI x,zI n] u fun v _=>∃ r:Nat,v=zI r/\r<n:=by
 refine Fn0.o func56<|G.lF n 1 ?_;have a1:=Baj x (show (0:Int)<n by omega);have a2:=Bak x (show (0:Int)<n by omega);refine G.remZ x (n:Int) (x.tmod n) kV oV oV rfl<|G.add (x.tmod n) (n:Int) (x.tmod n+n) kV rfl oV oV ?_;obtain⟨y,j⟩:∃ y:Nat,x.tmod n+n=(y:Int):=⟨(x.tmod n+n).toNat,oV⟩;exact G.remZ (x.tmod n+n) (n:Int) ((y%n:Nat):Int) kV oV oV (by rw[j,A47 oV];rfl)<|G.r _ ⟨rfl,y%n,rfl,A29 _ e⟩
def Azm (s:Src)(n:Nat)(v:Value)(m':PH):Prop:=∃ r k:Nat,v=zI r/\r<n/\k<=s.n/\m'=s.M k
def I4 (h:J0 u s ts)(H:k<=s.n)(I:0<n)(C:n<=1000000) :
 Ag prog 14 [s.ptr,zI n] u (s.M k) fun v _ Q=>Azm s n v Q:=by
 have E:=h.n;have L:=h.le;refine Ag.o func14<|G.f 102 s.g 0 1 1<|G.v none (s.cell1 k)<|G.f 102 s.g 0 0 0<|G.v none (s.cell0 k) ?_;by_cases t:k<s.n
 ·refine G.hF k s.n<|G.f 102 s.g 0 1 1<|G.v none (s.cell1 k)<|G.i k<|G.f 102 s.g 0 1 1<|G.storeM 1 s.g (0+1) 102 [.slice s.a s.n s.c,zI k] (zI (k+1:Nat)) kV (Ab _ _ _) (fun x J=>by simp at J;rcases J with rfl|rfl<;>rfl) mV rfl rfl ?_
  have e:(s.M k).upd s.g (.cells (([Value.slice s.a s.n s.c,zI k].take (0+1))++(Value.int .i64 (k+1:Nat)).cells.toList++([Value.slice s.a s.n s.c,zI k].drop (0+1+1))).toArray 102 (0,0))=s.M (k+1):=by
   unfold Src.M;rw[Dp];rfl
  rw[e];refine G.f 102 s.g 0 0 0<|G.v none (s.cell0 (k+1))<|G.f 102 s.g 0 1 1<|G.v none (s.cell1 (k+1))<|G.s (k+1:Nat) 1 k ?_;have m:k<ts.length:=oV;obtain⟨b,off,F,K⟩:=Ac.at' h.list (j:=k) (e:=zI ts[k]) (by simp[Fc,A01 m]);obtain⟨g,a,n',c⟩:=s;simp only at F t H E;subst F;refine G.N n' c t K<|G.c call56 (A0c (h.lo _ (A09 m)) (h.hi _ (A09 m)) I C) ?_;rintro U T R ⟨r,rfl,P⟩;exact G.r _ ⟨r,k+1,rfl,P,dV,rfl⟩
 exact G.hT k s.n<|G.r zO ⟨0,k,rfl,I,H,rfl⟩
def Anm {lo hi:Int}(h:J0 u s ts)(E:k<=s.n)(F:-1000000<=lo)(C:lo<=1000000)(H:hi-lo+1=(n:Int))(m:0<n)(t:n<=1000000) :
 Ag prog 181 [s.ptr,zI lo,zI hi] u (s.M k) fun v _ J=>∃ (r:Nat) (e:Nat),v=zI (lo+(r:Int))/\r<n/\e<=s.n/\J=s.M e:=by
 refine Ag.o func181<|G.sub hi lo (hi-lo) kV rfl oV oV<|G.add (hi-lo) 1 (n:Int) kV H oV oV<|G.A call14 (I4 h E m t) ?_;rintro Q P L K ⟨r,e,rfl,I,j,rfl⟩ _;rw[By];exact G.add lo (r:Int) (lo+(r:Int)) kV rfl oV oV<|G.r _ ⟨r,e,rfl,I,j,rfl⟩
def Aer {v:Value}{L:List Int}(h:J0 u s ts)(I:k<=s.n)(t:Ac u v 1 (Fc L))(E:0<L.length)(F:L.length<=1000000) :
 Ag prog 88 [s.ptr,v] u (s.M k) fun v _ K=>∃ z∈L,∃ m:Nat,v=zI z/\m<=s.n/\K=s.M m:=by
 obtain⟨a,c,rfl⟩:=t.opn;rw[Cq]at t⊢;refine Ag.o func88<|G.A call14 (I4 h I E F) ?_;rintro R Q P J ⟨r,m,rfl,H,C,rfl⟩ _;rw[By];obtain⟨b,off,rfl,e⟩:=Ac.at' (t.mono J) (j:=r) (e:=zI L[r]) (by simp[Fc,A01 H]);exact G.N L.length c H e<|G.r _ ⟨L[r],A09 H,m,rfl,C,rfl⟩
structure SmR (q:Rat):Prop where
 num:q.num.natAbs<=9
 den:q.den ∣ 12
def SmR.le (h:SmR q):q.den<=12:=A48 oV h.den
def SmR.tx (h:SmR q):Tx q:=⟨A04 (Cz (k:=2) oV (by have:=h.num;omega)) oV,A04 (Cz (k:=2) oV (by have:=h.le;omega)) oV⟩
def SmR.sz (h:SmR q):Sz q 1:=⟨A4 (by have:=h.num;omega),A4 (by have:=h.le;omega)⟩
structure SmW (q:Rat):Prop where
 num:q.num.natAbs<=1545
 den:q.den ∣ 12
def SmR.w (h:SmR q):SmW q:=⟨A04 h.num oV,h.den⟩
def SmW.le (h:SmW q):q.den<=12:=A48 oV h.den
def SmW.tx (h:SmW q):Tx q:=⟨A04 (Cz (k:=4) oV (by have:=h.num;omega)) oV,A04 (Cz (k:=2) oV (by have:=h.le;omega)) oV⟩
def SmW.sz (h:SmW q):Sz q 1:=⟨A4 (by have:=h.num;omega),A4 (by have:=h.le;omega)⟩
end
section
section rules
variable [Cl] {P:Program} [A6 P] {fn:Func} {Post:Ce} {st:List KI×S} {u m:PH}
def G.appendM (e:TypeId)(sz W:Nat)(z:Value)(m0:PH)(es xs:zV)(v:Value)(b off n c:Nat)(h:Aj P (adv P st)=.app (some (e,sz,W,z)) true [v,.slice (some ⟨b,off,none⟩) n c])(hz:z.cells.toList.all Ax=true)(U:z.cells.size=sz)(I:0<sz)
 (ha:Af m0 m v e sz es) (hx:Hc m b off sz xs) (X:A9 sz xs) (hn:xs.length=n) (R:0<n) (hb:(es.length+n)*W<=140737488355328) (J:es.length+n<=9223372036854775807)
 (k:∀ C j,Af m0 j C e sz (es++xs)->G P fn Post (nx (adv P st) C) u j):G P fn Post st u m:=by
 refine G.big (K:=fun C Y j=>Y=u/\Af m0 j C e sz (es++xs)) h mV (fun F V T=>(Ew (P:=P) (o:=⟨none,V,0, "",#[],none⟩) T).2.1) (.inr fun F V T=>(Ew (P:=P) (o:=⟨none,V,0, "",#[],none⟩) T).1) (fun F o E w H=>?_) (fun C Y j _ Q=>?_)
 ·obtain⟨_,_,t,hi,L⟩:=Ew (P:=P) E;obtain⟨C,w',j,Z,h2,h3,h4⟩:=Rz (P:=P) m0 es xs v b off n c o.type hi hz U I ha X hn R hb J H (hx.cells I X H.pm);refine B8 (w':=w') (v:=C) ?_ ⟨u,j,h2,h3,rfl,h4⟩;rw[L w,Z];rfl
 obtain⟨rfl,Q⟩:=Q;exact k C j Q
end rules
def Src.h0 (s:Src)(k k':Nat)(g:Nat):s.M k g=none\/s.M k' g≠none:=by
 by_cases e:g=s.g
 ·subst e;right;unfold Src.M;rw[Ab];simp
 left;unfold Src.M;rw[Ad _ _ e];rfl
def As9 {u:PH}{v:Value}{ts:List Int}(h:Ac u v 1 (Fc ts))(H:ts.length<=600)(E:∀ t∈ts,-9223372036854775808<=t)(F:∀ t∈ts,t<=9223372036854775807) :
 Ag prog 9 [v] u PH.mt fun K J I=>∃ s:Src,K=s.ptr/\I=s.M 0/\J0 J s ts:=by
 have e:∃ a c,v=.slice a ts.length c/\ts.length<=c:=by
  obtain⟨a,c,j,C,_⟩:=h;rw[Cq]at j C;exact⟨a,c,j,C⟩
 obtain⟨a,c,rfl,e⟩:=e;refine Ag.o func9<|G.minI [3,3] (ts.length:Int) 600 (ts.length:Int) kV oV<|G.sliceTo 1 a ts.length c ts.length kV e<|G.pub 1006 102 [.slice a ts.length c,zO] kV kV ?_;intro g Q L;exact G.r (.pointer (zA g)) ⟨⟨g,a,ts.length,c⟩,rfl,rfl,h,rfl,H,E,F⟩
def Src.bag0 (s:Src)(k:Nat){l:List Arr}(h:Bag PH.mt l):Bag (s.M k) (s.arr k::l):=by
 have:=Src.at (s:=s) (k:=k) (m0:=PH.mt) rfl;rw[By]at this;exact⟨PH.mt,this,h⟩
def Aff {o l:Arr}{e:List Arr}:(l::o::e).Perm (o::(e++[l])):=by
 refine (List.Perm.swap _ _ _).trans (List.Perm.cons _ ?_);exact (List.perm_append_singleton l e).symm
def Avd {M:zM}{q:zR}(i:Nat):gM (M++[q]) i=if i<M.length then gM M i else if i=M.length then q else []:=by
 unfold gM;rw[A02];by_cases e:i<M.length
 ·rw[if_pos e,A1r e,A02]
 rw[if_neg e,A18 oV];by_cases h:i=M.length
 ·rw[if_pos h,h,A4i];rfl
 rw[if_neg h,A1v gV];rfl
end
section
variable {l o s:Arr}{rows:List Arr}
def Aor :(s::l::o::rows).Perm (s::o::(rows++[l])):=List.Perm.cons _ Aff
def S8 :(l::s::o::rows).Perm (s::o::(rows++[l])):=(List.Perm.swap _ _ _).trans Aor
def Un {rows:List (Value×zV)}{i:Nat}{r r':Value×zV}(h:rows[i]?=some r)(e:r'.1=r.1):(rows.set i r').map (·.1)=rows.map (·.1):=by
 rw[A2g];apply A4g;intro j;rw[A1z];split
 ·rename_i e';subst e';have t:i<rows.length:=by
   rcases A2e i rows.length with m|m
   ·exact m
   rw[A1v m]at h;cases h
  rw[if_pos (by simpa using t),A1a,h,e];rfl
 rfl
end
def Axo {n:Nat}(f:Nat->Rat){j:Nat}(e:j<n):gR ((List.range n).map f) j=f j:=by
 unfold gR;rw[A02,A1a,A31 e];rfl
section
variable {F G:CF}{M N d e:Nat}{a b k q r:Rat}
def Dn (d N:Nat)(q:Rat):Prop:=∃ k:Int,q*((12^d:Nat):Rat)=(k:Rat)/\k.natAbs<=N
def Adj (d:Nat):0<12^d:=A66 oV
def Ax0 (d:Nat):((12^d:Nat):Rat)≠0:=by
 intro h;have j:((12^d:Nat):Rat)=((0:Nat):Rat):=h;have:=A9l.1 j;have:=Adj d;omega
def Dn.mono (h:Dn d N q)(t:N<=M):Dn d M q:=by
 obtain⟨k,j,m⟩:=h;exact⟨k,j,oV⟩
theorem Dn.add (h:Dn d N q)(j:Dn d M r):Dn d (N+M) (q+r):=by
 obtain⟨k,m,u⟩:=h;obtain⟨l,t,C⟩:=j;exact⟨k+l,by rw[A7d,<-m,<-t];grind,oV⟩
theorem Dn.mul (h:Dn d N q)(j:Dn e M r):Dn (d+e) (N*M) (q*r):=by
 obtain⟨k,m,t⟩:=h;obtain⟨l,u,C⟩:=j;refine⟨k*l,?_,by rw[A26];exact A25 t C⟩;rw[A3c,<-m,<-u,A4k,A7e];grind
def Dn.zero (d N:Nat):Dn d N 0:=⟨0,by rw[Ban];rfl,A1t _⟩
theorem Dn.two (h:Dn d N q):Dn d (2*N) (2*q):=by
 have:=h.add h;rw[show 2*q=q+q by grind,show 2*N=N+N by omega];exact this
theorem Dn.frac (h:Dn d N q):q.num.natAbs<=N/\q.den<=12^d:=by
 obtain⟨k,t,E⟩:=h;have hp:=Adj d;have H:q=Rat.divInt k ((12^d:Nat):Int):=by
  rw[A37,A2r,<-t];have:=Ax0 d;grind
 obtain⟨j,m,I⟩:=O7 (y:=k) (z:=((12^d:Nat):Int)) oV;have C:0<Nat.gcd k.natAbs (12^d):=A7j _ hp;rw[H];constructor
 ·rw[j,A8o];exact A04 (A3u _ _) E
 have u:((Rat.divInt k ((12^d:Nat):Int)).den:Int)<=((12^d:Nat):Int):=by
  rw[m,show (((12^d:Nat):Int)).natAbs=12^d from rfl,A32 oV,<-A5k];exact Bao.2 (A3u _ _)
 exact Bao.1 u
def Dn.small (h:Dn d N q)(E:d<=50)(C:N<10^100):Og q=true:=by
 obtain⟨j,m⟩:=h.frac;have t:12^d<=12^50:=A10 oV E;have u:12^50<10^100:=jV
 simp only[Og,A1m,decide_eq_true_eq];exact⟨A22 j C,A22 m (A22 t u)⟩
theorem SmW.dn (h:SmW q):Dn 1 18540 q:=by
 obtain⟨k,u⟩:=h.den;refine⟨q.num*(k:Int),?_,?_⟩
 ·have t:q*(q.den:Rat)=(q.num:Rat):=by
   have m:q=(q.num:Rat)/(((q.den:Int)):Rat):=by rw[<-A37,A7h]
   have hi:=Bap ((q.den:Nat):Rat) (fun e=>absurd (A9l.1 (e.trans (rfl:(0:Rat)=((0:Nat):Rat)))) (Nat.pos_iff_ne_zero.1 q.den_pos));rw[A2r,A8v]at m;generalize ((q.den:Nat):Rat)⁻¹=j at m hi;rw[m];grind
  show q*((12^1:Nat):Rat)=_;rw[show (12^1:Nat)=12 from rfl,u,A7e,A3c,A2r,<-t];grind
 rw[A26,A1s];have t:=h.num;have m:k<=12:=by
  have:=h.le;have:0<q.den:=q.den_pos;rcases A2a k with h0|h0
  ·omega
  exact A48 oV ⟨q.den,by rw[A19];exact u⟩
 exact A25 t m
structure CFD (d N:Nat)(F:CF):Prop where
 c:Dn d N F.c
 s:∀ p,Dn d N (F.s p)
 t:∀ q,Dn d N (F.t q)
def CFD.mono {d N M:Nat}{F:CF}(h:CFD d N F)(j:N<=M):CFD d M F:=⟨h.c.mono j,fun p=>(h.s p).mono j,fun q=>(h.t q).mono j⟩
def CFD.add {d N M:Nat}{F G:CF}(h:CFD d N F)(j:CFD d M G):CFD d (N+M) (F.add G):=⟨h.c.add j.c,fun p=>(h.s p).add (j.s p),fun q=>(h.t q).add (j.t q)⟩
def CFD.scale (h:CFD d N F)(j:Dn e M k):CFD (d+e) (N*M) (F.scale k):=⟨h.c.mul j,fun p=>(h.s p).mul j,fun q=>(h.t q).mul j⟩
theorem CFD.mul {d e N M:Nat}{F G:CF}(h:CFD d N F)(j:CFD e M G):CFD (d+e) (4*(N*M)) (F.mul G):=by
 have m:∀ {q r:Rat},Dn d N q->Dn e M r->Dn (d+e) (N*M) (r*q):=fun {q r} hq hr=>by rw[show r*q=q*r by grind];exact hq.mul hr
 refine⟨(h.c.mul j.c).mono oV,fun p=>((m h.c (j.s p)).add ((h.s p).mul j.c)).mono oV,fun q=>?_⟩;have u:=(m h.c (j.t q)).add ((h.t q).mul j.c);have C:Dn (d+e) (N*M+N*M) (I2 F G q):=by
  unfold I2;split
  ·exact Dn.zero _ _
  split
  ·have:=((h.s q.1).mul (j.s q.1)).two;exact this.mono oV
  exact ((h.s q.1).mul (j.s q.2)).add ((h.s q.2).mul (j.s q.1))
 exact (u.add C).mono oV
def Aym (c:UInt8):Bool:=decide (97<=c.toNat)&&decide (c.toNat<=122)
def Hn (s:zB):Bool:=match s with
 |[]=>false
 |c::l=>Aym c&&l.all (fun x=>Aym x||(decide (x.toNat=45)||(decide (48<=x.toNat)&&decide (x.toNat<=57))))&&decide (s.length<=12)
structure PV (p:Par):Prop where
 lo:-1<=p.1
 hi:p.1<=1000
 cat:p.2 = []\/Hn p.2=true
structure CFV (F:CF):Prop where
 s:∀ p,F.s p≠0->PV p
 t:∀ q,F.t q≠0->PV q.1/\PV q.2/\¬ 0<Bk q.1 q.2
theorem G1 (h:a+b≠0):a≠0\/b≠0:=by
 by_cases j:a=0
 ·right;rintro rfl;apply h;rw[j];grind
 exact .inl j
theorem C1 (h:a*b≠0):a≠0/\b≠0:=⟨fun e=>h (by rw[e];grind),fun e=>h (by rw[e];grind)⟩
def CFV.add (h:CFV F)(j:CFV G):CFV (F.add G) :=
 ⟨fun p hp=>(G1 hp).elim (h.s p) (j.s p),fun q m=>(G1 m).elim (h.t q) (j.t q)⟩
def CFV.scale (h:CFV F)(k:Rat):CFV (F.scale k):=⟨fun p hp=>h.s p (C1 hp).1,fun q j=>h.t q (C1 j).1⟩
def CFV.mul (h:CFV F)(j:CFV G):CFV (F.mul G):=by
 refine⟨fun p hp=>(G1 hp).elim (fun e=>j.s p (C1 e).1) (fun e=>h.s p (C1 e).1),fun q m=>?_⟩;rcases G1 m with e|e
 ·exact (G1 e).elim (fun e=>j.t q (C1 e).1) (fun e=>h.t q (C1 e).1)
 unfold I2 at e;split at e
 ·exact absurd rfl e
 rename_i hno;split at e
 ·rename_i heq;have:=C1 (C1 e).2;exact⟨h.s _ this.1,by rw[<-heq];exact h.s _ this.1,hno⟩
 rcases G1 e with e|e
 ·have:=C1 e;exact⟨h.s _ this.1,j.s _ this.2,hno⟩
 have:=C1 e;exact⟨j.s _ this.2,h.s _ this.1,hno⟩
def CFV.count (k:Rat):CFV ⟨k,fun _=>0,fun _=>0⟩:=⟨fun p h=>absurd rfl h,fun q h=>absurd rfl h⟩
def CFD.count (h:Dn d N k):CFD d N ⟨k,fun _=>0,fun _=>0⟩:=⟨h,fun _=>Dn.zero _ _,fun _=>Dn.zero _ _⟩
end
section
variable {F G:CF}{L:List (Par×Par)}{M N d e:Nat}{p q:Par}
structure CFS (F:CF):Prop where
 c:Og F.c=true
 s:∀ p,Og (F.s p)=true
 t:∀ q,Og (F.t q)=true
def CFD.cfs (h:CFD d N F)(m:d<=50)(j:N<10^100):CFS F:=⟨h.c.small m j,fun p=>(h.s p).small m j,fun q=>(h.t q).small m j⟩
def con (F G:CF)(x:Par×Par):Rat:=if x.1=x.2 then F.s x.1*G.s x.2+F.s x.1*G.s x.2 else F.s x.1*G.s x.2
def Er (F G:CF):List (Par×Par)->Par×Par->Rat
 |[],_=>0
 |x::L,k=>(if Ay x.1 x.2=k then con F G x else 0)+Er F G L k
theorem Jt (F G:CF)(x:Par×Par):∀ (L:List (Par×Par)) (k:Par×Par),Er F G (L++[x]) k=if k=Ay x.1 x.2 then con F G x+Er F G L k else Er F G L k
 |[],k=>by
  simp only[A3q,Er];by_cases h:k=Ay x.1 x.2
  ·rw[if_pos h.symm,if_pos h]
  rw[if_neg (fun e=>h e.symm),if_neg h];grind
 |y::L,k=>by
  simp only[A4x,Er];rw[Jt F G x L k];by_cases h:k=Ay x.1 x.2
  ·rw[if_pos h,if_pos h];grind
  rw[if_neg h,if_neg h]
def two (F G:CF)(L:List (Par×Par))(k:Par×Par):Rat :=
 if 0<Bk k.1 k.2 then 0 else if k.1=k.2 then (if k∈L then con F G k else 0) else (if k∈L then con F G k else 0)+(if (k.2,k.1)∈L then con F G (k.2,k.1) else 0)
def Ro (h:0<Bk p q):Ay p q=(q,p):=by unfold Ay;rw[if_pos h]
def Ii (h:¬ 0<Bk p q):Ay p q=(p,q):=by unfold Ay;rw[if_neg h]
def To (p q:Par):¬ 0<Bk (Ay p q).1 (Ay p q).2:=by
 by_cases h:0<Bk p q
 ·rw[Ro h];intro j;have:=(Et.sym p q).1;have m:=(Et.sym q p).2 h;simp only at j;omega
 rw[Ii h];exact h
def L5 {p q a b:Par}:Ay p q=(a,b)↔¬ 0<Bk a b/\((p=a/\q=b)\/(p=b/\q=a)):=by
 constructor
 ·intro h;have:=To p q;rw[h]at this;refine⟨this,?_⟩;by_cases j:0<Bk p q
  ·rw[Ro j]at h;cases h;exact .inr ⟨rfl,rfl⟩
  rw[Ii j]at h;cases h;exact .inl ⟨rfl,rfl⟩
 rintro⟨h,⟨rfl,rfl⟩|⟨rfl,rfl⟩⟩
 ·exact Ii h
 rw[Wi];exact Ii h
theorem Ub (F G:CF):∀ (L:List (Par×Par)) (k:Par×Par),L.Nodup->Er F G L k=two F G L k
 |[],k,_=>by
  unfold Er two;split
  ·rfl
  split
  ·simp
  simp;grind
 |(p,q)::L,(a,b),hn=>by
  rw[A4j]at hn;unfold Er;rw[Ub F G L (a,b) hn.2];unfold two;simp only;by_cases h0:0<Bk a b
  ·rw[if_pos h0,if_pos h0,if_neg (fun e=>(L5.1 e).1 h0)];grind
  rw[if_neg h0,if_neg h0];by_cases h:a=b
  ·subst h;rw[if_pos rfl,if_pos rfl];by_cases j:(p,q)=(a,a)
   ·cases j;rw[if_pos (L5.2 ⟨h0,.inl ⟨rfl,rfl⟩⟩),if_neg hn.1,if_pos mV];grind
   rw[if_neg (fun e=>j (by rcases (L5.1 e).2 with ⟨rfl,rfl⟩|⟨rfl,rfl⟩<;>rfl))]
   have:((a,a)∈(p,q)::L)↔(a,a)∈L:=by simp[A1g,Ne.symm j]
   simp only[this];grind
  rw[if_neg h,if_neg h];by_cases j:(p,q)=(a,b)
  ·cases j;rw[if_pos (L5.2 ⟨h0,.inl ⟨rfl,rfl⟩⟩),if_neg hn.1,if_pos (show (p,q)∈(p,q)::L by simp)];have:((q,p)∈(p,q)::L)↔(q,p)∈L:=by simp[A1g,Ne.symm h]
   simp only[this];grind
  by_cases m:(p,q)=(b,a)
  ·cases m;rw[if_pos (L5.2 ⟨h0,.inr ⟨rfl,rfl⟩⟩),if_neg hn.1,if_pos (show (p,q)∈(p,q)::L by simp)];have:((q,p)∈(p,q)::L)↔(q,p)∈L:=by simp[A1g,h]
   simp only[this];grind
  rw[if_neg (fun e=>by rcases (L5.1 e).2 with ⟨rfl,rfl⟩|⟨rfl,rfl⟩;exact j rfl;exact m rfl)];have t:((a,b)∈(p,q)::L)↔(a,b)∈L:=by simp[A1g,Ne.symm j]
  have u:((b,a)∈(p,q)::L)↔(b,a)∈L:=by simp[A1g,Ne.symm m]
  simp only[t,u];grind
theorem Amk (F G:CF)(C:L.Nodup)(u:∀ p q,F.s p≠0->G.s q≠0->(p,q)∈L)(k:Par×Par):Er F G L k=I2 F G k:=by
 rw[Ub F G L k C];have key:∀ p q:Par,(if (p,q)∈L then con F G (p,q) else 0)=con F G (p,q):=fun p q=>by
  by_cases h:(p,q)∈L
  ·rw[if_pos h]
  rw[if_neg h];have:F.s p=0\/G.s q=0:=by
   by_cases j:F.s p=0
   ·exact .inl j
   by_cases m:G.s q=0
   ·exact .inr m
   exact absurd (u p q j m) h
  unfold con;simp only;rcases this with j|j<;>rw[j]<;>split<;>grind
 obtain⟨a,b⟩:=k;unfold two I2;simp only[key];split
 ·rfl
 split
 ·rename_i e;subst e;unfold con;simp only[if_true];grind
 rename_i e;unfold con;simp only[if_neg e,if_neg (fun t:b=a=>e t.symm)]
def Apx (h:CFD d N F)(j:CFD e M G)(x:Par×Par):Dn (d+e) (2*(N*M)) (con F G x):=by
 unfold con;split
 ·exact (((h.s x.1).mul (j.s x.2)).add ((h.s x.1).mul (j.s x.2))).mono oV
 exact ((h.s x.1).mul (j.s x.2)).mono oV
def Ard (h:CFD d N F)(m:CFD e M G)(t:L.Nodup)(k:Par×Par):Dn (d+e) (4*(N*M)) (Er F G L k):=by
 rw[Ub F G L k t];have j:∀ x,Dn (d+e) (2*(N*M)) (if x∈L then con F G x else 0):=fun x=>by
  split
  ·exact Apx h m x
  exact Dn.zero _ _
 unfold two;split
 ·exact Dn.zero _ _
 split
 ·exact (j k).mono oV
 exact ((j k).add (j _)).mono oV
def Fo {κ:Type}[DecidableEq κ](a:κ):List (κ×Rat)->Rat
 |[]=>0
 |(b,q)::l=>if a=b then q else Fo a l
section
variable {κ:Type} [DecidableEq κ]
def Kh {a:κ}{q:Rat}:∀ {l:List (κ×Rat)},(l.map (·.1)).Nodup->(a,q)∈l->Fo a l=q
 |(b,r)::l,hn,h=>by
  simp only[A2u,A4j]at hn;unfold Fo;rcases A1g.1 h with e|e
  ·cases e;rw[if_pos rfl]
  have:a≠b:=fun j=>hn.1 (by rw[<-j];exact A1b.2 ⟨_,e,rfl⟩);rw[if_neg this];exact Kh hn.2 e
def Na {a:κ}:∀ {l:List (κ×Rat)},a∉l.map (·.1)->Fo a l=0
 |[],_=>rfl
 |(b,r)::l,h=>by
  simp only[A2u,A1g,not_or]at h;unfold Fo;rw[if_neg h.1];exact Na h.2
end
end
section
variable {k:IntKind}{o:Nat}{t ti ts:TypeId}{xs:Array Value}
def Ap (p:Par):Value:=.agg #[zI p.1,zS p.2]
def prV (q:Par×Par):Value:=.agg #[zI q.1.1,zS q.1.2,zI q.2.1,zS q.2.2]
def Abc (f:Field):Bool×TypeId×Nat:=(f.name != "_",f.type,f.offset)
section
variable {P:Program}
def Jh {v:Value}(h:Qj P t=some false)(e:xs[o]?=some v)(w:World):(part t xs o).run P w=.ok v w:=by
 simp[part,Eo h,e]
def Jq {n:Nat}(h:Qj P t=some true)(e:szB P t=some n)(w:World):(part t xs o).run P w=.ok (.agg (xs.extract o (o+n))) w:=by
 simp[part,Eo h,Bf e]
def Qk (h:P.underlying t=some (.int k)):Qj P t=some false:=by unfold Qj;rw[h]
def Qc (h:P.underlying t=some .string):Qj P t=some false:=by unfold Qj;rw[h]
def Auf (a b:zB):((mkS a).toList==(mkS b).toList)=decide (a=b):=Mf a b
def Akl {A B:Type}{h:A->B}{e:List A}{x y:B}(j:e.map h = [x,y]):∃ f g,e = [f,g]:=by
 have h0:=congrArg List.length j;simp only[A03,A3f,A30]at h0
 match e,h0 with
 |[f,g],_=>exact⟨f,g,rfl⟩
def Qn (h:(P.fieldsOf t).toList.map Abc = [(true,ti,0),(true,ts,1)])(I:P.underlying t=some (.struct (P.fieldsOf t)))(hp:P.stoodInHeld t=false)(hi:P.underlying ti=some (.int k))(u:P.underlying ts=some .string)(d:Nat)(a b:Par)(w:World) :
 (Op.equalIn (d+2) t (Ap a) (Ap b)).run P w=.ok (decide (a=b)) w:=by
 unfold Ap;rw[run_equalIn_struct w (d+1) t _ _ I hp];generalize (P.fieldsOf t).toList=fs at h;obtain⟨f,g,m⟩:=Akl h;subst m;simp only[A2u,A7m,A3g,Abc,A2i,bne_iff_ne,ne_eq,and_true]at h;obtain⟨⟨n1,rfl,F⟩,n2,rfl,H⟩:=h;obtain⟨a1,a2⟩:=a;obtain⟨j,C⟩:=b;simp only[Op.eqFields,ne_eq,n1,n2,not_false_eq_true,if_true,Sem.run_bind];rw[Jh (Qk hi) (v:=zI a1) (by rw[F];rfl),Result.andThen_ok,Jh (Qk hi) (v:=zI j) (by rw[F];rfl),Result.andThen_ok,run_equalIn_int w d _ _ _ _ _ hi,Result.andThen_ok];by_cases e:a1=j
 ·subst e;simp only[beq_self_eq_true,A72,A4z,if_false,Sem.run_bind];rw[Jh (Qc u) (v:=zS a2) (by rw[H];rfl),Result.andThen_ok,Jh (Qc u) (v:=zS C) (by rw[H];rfl),Result.andThen_ok,run_equalIn_string w d _ _ _ u,Result.andThen_ok,Auf];by_cases E:a2=C
  ·subst E;simp
  simp[E]
 have:(a1==j)=false:=by simpa using e
 simp[this,e]
def Sl (h:(∃ k,P.underlying t=some (.int k))\/P.underlying t=some .string)(e:Bool)(d:Nat)(v:Value)(w:World):(Instr.checkKey e (d+1) t v).run P w=.ok () w:=by
 unfold Instr.checkKey;rcases h with ⟨k,h⟩|h<;>simp[run_underlying h]
def Ns (h:(P.fieldsOf t).toList.map Abc = [(true,ti,0),(true,ts,1)])(E:P.underlying t=some (.struct (P.fieldsOf t)))(hi:P.underlying ti=some (.int k))(m:P.underlying ts=some .string)(e:Bool)(d:Nat)(a:Par)(w:World) :
 (Instr.checkKey e (d+2) t (Ap a)).run P w=.ok () w:=by
 unfold Ap;rw[Instr.checkKey];simp only[Sem.run_bind,run_underlying E,Result.andThen_ok];rw[<-Array.forIn_toList];generalize (P.fieldsOf t).toList=fs at h;obtain⟨f,g,j⟩:=Akl h;subst j;simp only[A2u,A7m,A3g,Abc,A2i,bne_iff_ne,ne_eq,and_true]at h;obtain⟨⟨n1,u,F⟩,n2,C,H⟩:=h;simp only[List.forIn_cons,List.forIn_nil,ne_eq,n1,n2,not_false_eq_true,if_true,Sem.run_bind,u,C,F,H];rw[Jh (Qk hi) (v:=zI a.1) rfl,Result.andThen_ok,Sl (.inl ⟨k,hi⟩)];simp only[Result.andThen_ok,Sem.run_pure,Sem.run_bind];rw[Jh (Qc m) (v:=zS a.2) rfl,Result.andThen_ok,Sl (.inr m)];simp
def As0 (a b:Par)(h:Ap a=Ap b):a=b:=by
 unfold Ap at h;simp only[Value.agg.injEq,A5j,A3g,Value.int.injEq,Value.string.injEq,true_and,and_true]at h;exact A6z h.1 (Ads.1 h.2)
def Auq (a b:Par×Par)(h:prV a=prV b):a=b:=by
 unfold prV at h;simp only[Value.agg.injEq,A5j,A3g,Value.int.injEq,Value.string.injEq,true_and,and_true]at h;exact A6z (A6z h.1 (Ads.1 h.2.1)) (A6z h.2.2.1 (Ads.1 h.2.2.2))
def Af9 (d:Nat)(k:IntKind)(z:Int):Instr.sameBits d (.int k z) (.int k z)=true:=by unfold Instr.sameBits;simp
def Agj (d:Nat)(z:ByteArray):Instr.sameBits d (.string z) (.string z)=true:=by
 obtain⟨⟨l⟩⟩:=z;have:((⟨⟨l⟩⟩:ByteArray) == ⟨⟨l⟩⟩)=true:=by rw[beq_toListBytes];simp
 unfold Instr.sameBits;exact this
def Asi (a:Par):Instr.sameBits 10000 (Ap a) (Ap a)=true:=by
 show Instr.sameBits (9999+1) _ _=true;unfold Ap Instr.sameBits;simp[Af9,Agj]
def Ava (a:Par×Par):Instr.sameBits 10000 (prV a) (prV a)=true:=by
 show Instr.sameBits (9999+1) _ _=true;unfold prV Instr.sameBits;simp[Af9,Agj]
end
theorem Bq:Zk prog 118 Ap :=
 ⟨fun a b w=>Qn (P:=prog) (t:=118) (ti:=3) (ts:=9) (k:=.i64) kV kV kV kV kV 9998 a b w,
  ⟨_,(by kernel_rfl:prog.underlying 118=some (.struct (prog.fieldsOf 118))),.inl fun _ _=>rfl⟩,
  fun e a w=>Ns (P:=prog) (t:=118) (ti:=3) (ts:=9) (k:=.i64) kV kV kV kV e 9998 a w,Asi,As0⟩
end
section
variable [Cl] [Co] [Pu]
def Aws:List KI->Bool
 |.code (.region _ _ _)::_=>true
 |_=>false
def Ff (P:Program):Nat->List KI×S->List KI×S
 |0,st=>st
 |n+1,st=>cond (Aws st.1) st (match one P st.1 st.2 with|some st'=>Ff P n st'|none=>st)
section rules
variable {P:Program} [A6 P] {fn:Func} {Post:Ce} {st:List KI×S} {u m:PH}
def Mq:∀ (n:Nat) (st:List KI×S),Sym P fn Post (Ff P n st).1 (Ff P n st).2 u m->Sym P fn Post st.1 st.2 u m
 |0,st,h=>h
 |n+1,st,h=>by
  unfold Ff at h;cases hn:Aws st.1 with
  |true=>simp[hn]at h;exact h
  |false =>
   simp only[hn,cond_false]at h;split at h
   ·rename_i st' he;obtain⟨e,j⟩:=st';exact Pa A6.mx he (Mq n _ h)
   exact h
def G.canon (T:List (Nat×SV))(B:List (Nat×Blk))(h:F2 (Ff P 200 st).1=true)(t:Up T B=true)(h0:Cov (Ff P 200 st).2.n (Ff P 200 st).2 T B)(k:G P fn Post ((Ff P 200 st).1,S.of (Ff P 200 st).2.n T B) u m):G P fn Post st u m:=by
 refine⟨Mq 200 st ?_⟩;have j:=k.out;rw[Sym.ofNo h]at j⊢;intro c ρ a w e C;exact j c ρ a w e (C.cov h0 t)
def G.join {ι:Type}(b:Value)(T:ι->List (Nat×SV))(B:ι->List (Nat×Blk))(C:ι->PH->PH->Prop)(L:∀ i,Up (T i) (B i)=true)(Q:F2 (Ff P 200 (nx (adv P st) b)).1=true)
 (E:∀ i h j,PH.le u h->C i h j->G P fn Post ((Ff P 200 (nx (adv P st) b)).1,S.of (Ff P 200 (nx (adv P st) b)).2.n (T i) (B i)) h j)
 (k:(∀ i e h j,(Ff P 200 e).1=(Ff P 200 (nx (adv P st) b)).1->Cov (Ff P 200 (nx (adv P st) b)).2.n (Ff P 200 e).2 (T i) (B i)->PH.le u h->C i h j->G P fn Post e h j)->G P fn Post st u m):G P fn Post st u m:=by
 refine k fun i e h j H F I J=>?_;have K:Cov (Ff P 200 e).2.n (Ff P 200 e).2 (T i) (B i):=⟨rfl,F.t,F.b⟩;refine G.canon (T i) (B i) (by rw[H];exact Q) (L i) K ?_;rw[H,F.n];exact E i h j I J
end rules
end
section
def Aur {x y:zB}(h:Op.bytesLess x y=true):Op.bytesLess y x=false:=by
 cases h':Op.bytesLess y x with
 |false=>rfl
 |true=>have:=Se h h';rw[Ud]at this;cases this
def Azv (x y:zB):(!(Op.bytesLess x y||decide (x=y)))=Op.bytesLess y x:=by
 cases h1:Op.bytesLess x y with
 |true=>rw[Aur h1];rfl
 |false =>
  by_cases e:x=y
  ·subst e;rw[h1];simp
  cases h2:Op.bytesLess y x with
  |true=>simp[e]
  |false=>exact absurd (Ab1 h1 h2) e
section rules
variable [Cl] {P:Program} [A6 P] {fn:Func} {Post:Ce} {st:List KI×S} {u m:PH}
def G.ltS (a b:zB)(r:Bool)(h:Aj P (adv P st)=.bin .lss (zS a) (zS b))(e:Op.bytesLess a b=r)(k:G P fn Post (nx (adv P st) (.bool r)) u m):G P fn Post st u m :=
 G.bin (.bool r) h (fun t X Y w=>H8 t X Y w) (fun t w=>by simp only[binOp,Op.stringOp,Ng];rw[e];rfl) k
def G.gtS (a b:zB)(r:Bool)(h:Aj P (adv P st)=.bin .gtr (zS a) (zS b))(j:Op.bytesLess b a=r)(k:G P fn Post (nx (adv P st) (.bool r)) u m):G P fn Post st u m :=
 G.bin (.bool r) h (fun t X Y w=>H8 t X Y w) (fun t w=>by
  rw[<-j,<-Azv];simp only[binOp,Op.stringOp,Ng];rw[show (a==b)=decide (a=b) from by by_cases e:a=b<;>simp[e]]
  rfl) k
end rules
section
variable [Cl] {u:PH}
def Akp (x:Int):zF 273 [zI x] u fun v _=>v=zL:=Fn0.o func273<|G.nF x x<|G.z zL
def Alf (x:zB):zF 274 [zS x] u fun v _=>v=zL:=Fn0.o func274<|G.y x x rfl<|G.z zL
def Azt (x y:Int):zF 244 [zI x,zI y] u fun v _=>v=zI (Q1 x y):=by
 refine Fn0.o func244<|G.c call273 (Akp x) ?_;rintro E t j rfl;refine G.c call273 (Akp y) ?_;rintro F C l2 rfl;unfold Q1;by_cases h:x<y
 ·exact G.lT' x y h<|G.r (zI (-1)) ⟨rfl,by rw[if_pos h]⟩
 refine G.lF' x y h ?_;by_cases e:x>y
 ·exact G.gT' x y e<|G.r (zI 1) ⟨rfl,by rw[if_neg h,if_pos e]⟩
 exact G.gF' x y e<|G.r zO ⟨rfl,by rw[if_neg h,if_neg e]⟩
def Aze (x y:zB):zF 245 [zS x,zS y] u fun v _=>v=zI (Vj x y):=by
 refine Fn0.o func245<|G.c call274 (Alf x) ?_;rintro E t j rfl;refine G.c call274 (Alf y) ?_;rintro F C l2 rfl;unfold Vj;cases h:Op.bytesLess x y with
 |true =>
  exact G.ltS x y true kV h<|G.r (zI (-1)) ⟨rfl,by rw[if_pos rfl]⟩
 |false =>
  refine G.ltS x y false kV h ?_;cases h':Op.bytesLess y x with
  |true =>
   exact G.gtS x y true kV h'<|G.r (zI 1) ⟨rfl,by rw[if_neg mV,if_neg (fun e=>by subst e;rw[Ud]at h';cases h')]⟩
  |false =>
   exact G.gtS x y false kV h'<|G.r zO ⟨rfl,by rw[if_neg mV,if_pos (Ab1 h h')]⟩
def Ayo (x y:Int){b:Nat}(h:Hc u b 0 1 [zI x,zI y]):zF 243 [zG b 2 2] u fun v _=>v=zI (if x≠0 then x else y):=by
 refine Fn0.o func243<|G.l (ι:=Nat) (fun i=>[(3,iV 0),(6,sV (zA b) 2 2),(7,iV (2:Nat)),(8,iV i)]) (fun _=>[])
  (fun i F E=>i<=2/\E=PH.mt/\(1<=i->x=0)/\(2<=i->y=0)) (fun i=>2-i) 0 ⟨oV,rfl,oV,oV⟩ ?_
 rintro J i I F E j ⟨hi,rfl,C,K⟩;by_cases t:i=2
 ·subst t;exact G.lF (2:Nat) (2:Nat)<|G.r zO ⟨rfl,by rw[if_neg (by simp[C oV]),K oV]⟩
 refine G.lT i (2:Nat)<|G.a b 0 2 2 i 1 oV ?_;obtain⟨z,e,H,t⟩:∃ z:Int,ElP F b (0+i*1) (zI z)/\(z≠0->(if x≠0 then x else y)=z)/\(z=0->(1<=i+1->x=0)/\(2<=i+1->y=0)):=by
  rcases (by omega:i=0\/i=1) with rfl|rfl
  ·exact⟨x,(h 0 _ rfl).mono j,fun e=>if_pos e,fun e=>⟨fun _=>e,oV⟩⟩
  exact⟨y,(h 1 _ rfl).mono j,fun e=>if_neg (by simp[C oV]),fun e=>⟨fun _=>C oV,fun _=>e⟩⟩
 refine G.g none e ?_;by_cases h0:z=0
 ·exact G.nF z 0<|G.i i<|G.b (I (i+1) _ _ _ cV j ⟨oV,rfl,(t h0).1,(t h0).2⟩ oV)
 exact G.nT' z 0 h0<|G.r (zI z) ⟨rfl,by rw[H h0]⟩
def Afb (p q:Par):zF 200 [Ap p,Ap q] u fun v _=>v=zI (Bk p q):=by
 refine Fn0.o func200<|G.c call244 (Azt p.1 q.1) ?_;rintro I C h rfl;refine G.c call245 (Aze p.2 q.2) ?_;rintro J E l2 rfl;refine G.B 3 1 8 zO [zI (Q1 p.1 q.1),zI (Vj p.2 q.2)] (N7 [_,_]) ?_;intro g F j e;refine G.c call243 (Ayo _ _ e) ?_;rintro K H t rfl;exact G.z _
end
end
section
variable {q:Rat}
abbrev SB (q:Rat):Prop:=Og q=true
def SB.sz (h:SB q):Sz q 12:=(Uo h).2
def SB.tx (h:SB q):Tx q:=(Uo h).1
def SB.zero:SB 0:=fV
abbrev fz:Value:=.agg #[zL,zN,zL,zN]
def A0g :sgn q.num=0↔q=0:=by
 constructor
 ·intro h;have:q.num=0:=by
   rcases A4q q.num 0 with e|e|e
   ·rw[Ep e]at h;cases h
   ·exact e
   rw[C5 e]at h;cases h
  exact A4r.1 this
 rintro rfl;rfl
end
section
section
variable {κ:Type} [DecidableEq κ]
def Ek (f g:κ->Rat)(q:Rat)(L:List κ):κ->Rat:=fun k=>if k∈L then g k*q+f k else f k
def Jo (f g:κ->Rat)(q:Rat){L:List κ}{k:κ}(h:k∉L):Nh (Ek f g q L) k (g k*q+Ek f g q L k)=Ek f g q (L++[k]):=by
 funext j
 unfold Nh Ek;by_cases e:j=k
 ·subst e;rw[if_pos rfl,if_neg h,if_pos mV]
 rw[if_neg e];by_cases m:j∈L
 ·rw[if_pos m,if_pos (by simp[m])]
 rw[if_neg m,if_neg (by simp[m,e])]
theorem Me (f g:κ->Rat)(q:Rat){L:List κ}(h:∀ k,k∉L->g k=0):Ek f g q L=fun k=>f k+g k*q:=by
 funext k
 unfold Ek;by_cases e:k∈L
 ·rw[if_pos e];grind
 rw[if_neg e,h k e];grind
def O3 {f g:κ->Rat}{q:Rat}{L:List κ}(e:∀ k,SB (f k))(h:∀ k,SB (f k+g k*q))(k:κ):SB (Ek f g q L k):=by
 unfold Ek;split
 ·rw[A46];exact h k
 exact e k
end
end
section
def Alv (t:TypeId):Op->Bool
 |.binOp _ t' ..=>Nat.beq t' t
 |_=>false
section rules
variable [Cl] {P:Program} [A6 P] {fn:Func} {Post:Ce} {st:List KI×S} {u m:PH}
def Uu {h:BinOp}{t:TypeId}{xs ys:Array Value}(X Y:Operand)(e:P.eqGuardType P.depth t=false)(w:World):(eqGuard h t X Y (.agg xs) (.agg ys)).run P w=.ok () w:=by
 unfold eqGuard;split<;>simp[e]
def G.eqAgg (t:TypeId)(xs ys:Array Value)(r:Bool)(h:Aj P (adv P st)=.binT .eql (P.underlying t) (.agg xs) (.agg ys))(R:Yr (Alv t) (adv P st)=true)(Q:P.eqGuardType P.depth t=false)(L:∀ w,(Op.equal t (.agg xs) (.agg ys)).run P w=.ok r w)
 (k:G P fn Post (nx (adv P st) (.bool r)) u m):G P fn Post st u m:=by
 refine G.askQ (Alv t) h R mV (fun J o j K w _=>?_) k;obtain⟨U,X,Y,W,e,H,I,V⟩:=Mb j;obtain⟨F,T,E,pos,after,C⟩:=o;simp only at e;subst e;obtain rfl:U=t:=A1y K;simp[execOp,H,I,Uu X Y Q,binOp,L]
def G.neAgg (t:TypeId)(xs ys:Array Value)(r:Bool)(h:Aj P (adv P st)=.binT .neq (P.underlying t) (.agg xs) (.agg ys))(R:Yr (Alv t) (adv P st)=true)(Q:P.eqGuardType P.depth t=false)(L:∀ w,(Op.equal t (.agg xs) (.agg ys)).run P w=.ok r w)
 (k:G P fn Post (nx (adv P st) (.bool (!r))) u m):G P fn Post st u m:=by
 refine G.askQ (Alv t) h R mV (fun J o j K w _=>?_) k;obtain⟨U,X,Y,W,e,H,I,V⟩:=Mb j;obtain⟨F,T,E,pos,after,C⟩:=o;simp only at e;subst e;obtain rfl:U=t:=A1y K;simp[execOp,H,I,Uu X Y Q,binOp,L]
end rules
end
structure Aw3 (F H:CF):Prop where
 a:CFS F
 b:CFS H
 c:CFS (H.scale F.c)
 d:CFS (F.scale H.c)
 e:CFS ((H.scale F.c).add (F.scale H.c))
 f:SB (F.c*H.c)
 pr:∀ p q,SB (F.s p*H.s q)
 con:∀ x,SB (con F H x)
 acc:∀ Ps:List (Par×Par),Ps.Nodup->∀ k,SB (((H.scale F.c).add (F.scale H.c)).t k+Er F H Ps k)
def Azw {d e N M:Nat}{F H:CF}(h:CFD d N F)(j:CFD e M H)(m:d+e<=50)(L:8*(N*M)<10^100)(u:0<N)(C:0<M):Aw3 F H:=by
 have J:N<=N*M:=Nat.le_mul_of_pos_right _ C;have K:M<=N*M:=Nat.le_mul_of_pos_left _ u;have c1:CFD (d+e) (N*M) (H.scale F.c):=by have:=j.scale h.c;rw[A89,A19]at this;exact this
 have c2:CFD (d+e) (N*M) (F.scale H.c):=h.scale j.c;exact⟨h.cfs oV oV,j.cfs oV oV,c1.cfs m oV,c2.cfs m oV,(c1.add c2).cfs m oV,(h.c.mul j.c).small m oV,
  fun p q=>((h.s p).mul (j.s q)).small m oV,fun x=>(Apx h j x).small m oV,fun I E k=>(((c1.add c2).t k).add (Ard h j E k)).small m oV⟩
def Bt (p:Par×Rat):Value:=.agg #[zI p.1.1,zS p.1.2,zS (Ae p.2)]
def D8 (x:(Par×Par)×Rat):Value:=.agg #[zI x.1.1.1,zS x.1.1.2,zI x.1.2.1,zS x.1.2.2,zS (Ae x.2)]
def No (u:PH)(v:Value)(F:CF)(K:Nat):Prop :=
 ∃ (T:List (Par×Rat)) (Q:List ((Par×Par)×Rat)) (a1:zP) (c1:Nat) (a2:zP) (c2:Nat),v=.agg #[zS (Ae F.c),.slice a1 T.length c1,.slice a2 Q.length c2] /\
  Ac u (.slice a1 T.length c1) 3 (T.map Bt)/\Ac u (.slice a2 Q.length c2) 5 (Q.map D8)/\Can Bk F.s T/\Can Oc F.t Q/\T.length<=K/\Q.length<=K
def No.mono {u m:PH}{v:Value}{F:CF}{K:Nat}(h:No u v F K)(j:PH.le u m):No m v F K:=by
 obtain⟨T,Q,a1,c1,a2,c2,e,t,C,E⟩:=h;exact⟨T,Q,a1,c1,a2,c2,e,t.mono j,C.mono j,E⟩
section
open Go.RowKit Go.MapKept Go.Shelf
end
section
open Go.RowKit Go.MapKept Go.Shelf
end
section
open Go.RowKit Go.MapKept Go.Shelf
end
section
open Go.RowKit Go.MapKept Go.Shelf
abbrev Ci (p:Par):zV:=[zI p.1,zS p.2]
end
section
open Go.RowKit Go.MapKept Go.Shelf
end
end Go.Proofs.YtemmheaocgmebaaGreatDoor
section
namespace Go.Proofs
open Go.Shelf
def Tryz.sortPar_ren:Go.Shelf.Ren:=⟨fun|6=>267|15=>303|14=>302|28=>331|29=>316|20=>323|21=>324|22=>325|23=>326|24=>327|25=>328|26=>329|27=>330|46=>340|47=>341|48=>342|49=>343|50=>344|57=>346|n=>n,fun|22=>43|24=>118|25=>252|3=>3|39=>288|0=>0|53=>314|55=>246|4=>4|46=>350|45=>349|50=>237|5=>5|9=>9|66=>362|70=>365|76=>372|77=>373|n=>n,fun|n=>n⟩
theorem Tryz.sortPar:Go.Proofs.SlLaysF0.n6 Tryz.prog Tryz.sortPar_ren:={
 mixed:=by kernel_rfl
 f6:=⟨Tryz.f267.name,by decide,Tryz.func267.trans (congrArg some (by kernel_rfl))⟩
 f14:=⟨Tryz.f302.name,by decide,Tryz.func302.trans (congrArg some (by kernel_rfl))⟩
 f15:=Tryz.func303.trans (congrArg some (by kernel_rfl))
 f20:=⟨Tryz.f323.name,by decide,Tryz.func323.trans (congrArg some (by kernel_rfl))⟩
 f21:=⟨Tryz.f324.name,by decide,Tryz.func324.trans (congrArg some (by kernel_rfl))⟩
 f22:=⟨Tryz.f325.name,by decide,Tryz.func325.trans (congrArg some (by kernel_rfl))⟩
 f23:=⟨Tryz.f326.name,by decide,Tryz.func326.trans (congrArg some (by kernel_rfl))⟩
 f24:=⟨Tryz.f327.name,by decide,Tryz.func327.trans (congrArg some (by kernel_rfl))⟩
 f25:=⟨Tryz.f328.name,by decide,Tryz.func328.trans (congrArg some (by kernel_rfl))⟩
 f26:=⟨Tryz.f329.name,by decide,Tryz.func329.trans (congrArg some (by kernel_rfl))⟩
 f27:=⟨Tryz.f330.name,by decide,Tryz.func330.trans (congrArg some (by kernel_rfl))⟩
 f28:=Tryz.func331.trans (congrArg some (by kernel_rfl))
 f29:=Tryz.func316.trans (congrArg some (by kernel_rfl))
 f46:=⟨Tryz.f340.name,by decide,Tryz.func340.trans (congrArg some (by kernel_rfl))⟩
 f47:=Tryz.func341.trans (congrArg some (by kernel_rfl))
 f48:=Tryz.func342.trans (congrArg some (by kernel_rfl))
 f49:=⟨Tryz.f343.name,by decide,Tryz.func343.trans (congrArg some (by kernel_rfl))⟩
 f50:=⟨Tryz.f344.name,by decide,Tryz.func344.trans (congrArg some (by kernel_rfl))⟩
 f57:=⟨Tryz.f346.name,by decide,Tryz.func346.trans (congrArg some (by kernel_rfl))⟩
 t0:=Tryz.underlying0
 a0:=Tryz.isAgg0
 z0:=Tryz.sizeOf0
 v0:=Tryz.zeroValue0
 t3:=Tryz.underlying3
 a3:=Tryz.isAgg3
 z3:=Tryz.sizeOf3
 v3:=Tryz.zeroValue3
 t4:=Tryz.underlying4
 a4:=Tryz.isAgg4
 z4:=Tryz.sizeOf4
 v4:=Tryz.zeroValue4
 t5:=Tryz.underlying5
 a5:=Tryz.isAgg5
 z5:=Tryz.sizeOf5
 v5:=Tryz.zeroValue5
 t9:=Tryz.underlying9
 a9:=Tryz.isAgg9
 z9:=Tryz.sizeOf9
 v9:=Tryz.zeroValue9
 t22:=Tryz.underlying43
 a22:=Tryz.isAgg43
 z22:=Tryz.sizeOf43
 v22:=Tryz.zeroValue43
 t25:=Tryz.underlying252
 a25:=Tryz.isAgg252
 z25:=Tryz.sizeOf252
 v25:=Tryz.zeroValue252
 t39:=Tryz.underlying288
 a39:=Tryz.isAgg288
 z39:=Tryz.sizeOf288
 v39:=Tryz.zeroValue288
 t45:=Tryz.underlying349
 a45:=Tryz.isAgg349
 z45:=Tryz.sizeOf349
 v45:=Tryz.zeroValue349
 t46:=Tryz.underlying350
 a46:=Tryz.isAgg350
 z46:=Tryz.sizeOf350
 v46:=Tryz.zeroValue350
 t50:=Tryz.underlying237
 a50:=Tryz.isAgg237
 z50:=Tryz.sizeOf237
 v50:=Tryz.zeroValue237
 t53:=Tryz.underlying314
 a53:=Tryz.isAgg314
 z53:=Tryz.sizeOf314
 v53:=Tryz.zeroValue314
 t55:=Tryz.underlying246
 a55:=Tryz.isAgg246
 z55:=Tryz.sizeOf246
 v55:=Tryz.zeroValue246
 t66:=Tryz.underlying362
 a66:=Tryz.isAgg362
 z66:=Tryz.sizeOf362
 v66:=Tryz.zeroValue362
 t70:=Tryz.underlying365
 a70:=Tryz.isAgg365
 z70:=Tryz.sizeOf365
 v70:=Tryz.zeroValue365
 t76:=Tryz.underlying372
 a76:=Tryz.isAgg372
 z76:=Tryz.sizeOf372
 v76:=Tryz.zeroValue372
 t77:=Tryz.underlying373
 a77:=Tryz.isAgg373
 z77:=Tryz.sizeOf373
 v77:=Tryz.zeroValue373 }
end Go.Proofs
end
namespace Go.Proofs.YtemmheaocgmebaaGreatDoor
open Go.Proofs.Tryz
open Go.RowKit Go.MapKept
section
open Go.RowKit Go.Sort
def Azd (w:World):PH:=fun g=>w.heap[g]?
def A0a (w:World):Bv (Azd w) PH.mt w:=⟨fun _ _ h=>h,Fj.mt w,fun _=>.inr rfl,fun _ _ _ _ _ _ h _=>h⟩
@[reducible] def Cl.yes:Cl:=⟨True⟩
def Agm [Fl:Cl](hF:Fl.on){w w':World}{T:PH}(h:B0 (Azd w) PH.mt w T PH.mt w'):∃ n E,w'=grow (w.drewN n) E:=by
 have C:=h.dr hF;refine⟨w'.drawn-w.drawn,w'.heap.extract w.heap.size w'.heap.size,?_⟩;obtain⟨hp,tp,U,E,Q⟩:=w;obtain⟨e,R,H,P,F⟩:=w';have j:=C.tape;have I:=C.dr;have m:=h.io.1;have t:=h.io.2;have J:=h.sz;have u:=fun g K=>h.old g K rfl;simp only at j I m t J u;subst j m t;unfold grow World.drewN;simp only[World.mk.injEq,and_true,true_and];refine⟨?_,oV⟩;apply Baq;intro i;by_cases hi:i<hp.size
 ·rw[A5s hi];exact u i hi
 rw[Array.getElem?_append_right oV,Array.getElem?_extract];by_cases L:i<e.size
 ·rw[if_pos oV];congr 1;omega
 rw[if_neg oV,A43 oV]
def Fn0.exact [Fl:Cl](hF:Fl.on){P:Program}{f:FuncId}{args:zV}{r:Value}(h:∀ u,Fn0 P f args u (fun v _=>v=r))(w:World):Calls P f args.toArray w fun e w'=>e=.returned r/\∃ n F,w'=grow (w.drewN n) F:=by
 refine Calls.mono (h (Azd w) w (A0a w)) fun e w' E=>?_;obtain⟨v,I,H,j,_,m,t,C⟩:=E;subst t C;exact⟨j,Agm hF m⟩
def Ai5 (e off size:Nat)(w:World):Go.Proofs.CmpLays prog 200 #[] (fun p:Par=>[zI p.1,zS p.2]) 2 Bk e off size w :=
 fun m j h _ x y=>@Fn0.exact Cl.yes trivial _ _ _ _ (fun u=>@Afb Cl.yes u x y) _
end
section
open Go.RowKit Go.Sort
section
variable {κ:Type} {c:κ->κ->Int}
def Ord.swo (h:Ord c):SWO (ltOf c) where
 irrefl x:=by simp[ltOf,h.irr x]
 trans x y z h1 h2:=by
  simp only[ltOf,decide_eq_true_eq]at *
  exact h.trans x y z h1 h2
 ntrans x y z h1 h2:=by
  simp only[ltOf,decide_eq_false_iff_not]at *
  intro j;rcases A4q (c x y) 0 with e|e|e
  ·exact h1 e
  ·rw[h.eq x y e]at j;exact h2 j
  exact h2 (h.trans y x z ((h.sym y x).2 e) j)
def Ord.tot (h:Ord c)(x y:κ)(j:ltOf c x y=false)(m:ltOf c y x=false):x=y:=by
 simp only[ltOf,decide_eq_false_iff_not]at *
 rcases A4q (c x y) 0 with e|e|e
 ·exact absurd e j
 ·exact h.eq x y e
 exact absurd ((h.sym y x).2 e) m
def E6 (c:κ->κ->Int)(l:List κ):List κ:=l.mergeSort fun x y=>!(ltOf c) y x
def Ir (l:List κ):(E6 c l).Perm l:=List.mergeSort_perm _ _
def Va (h:Ord c){l:List κ}(t:l.Nodup):Hb c (E6 c l):=by
 have j:(E6 c l).Pairwise fun a b=>(!(ltOf c) b a)=true:=by
  refine List.pairwise_mergeSort (fun a b d j m=>?_) (fun a b=>?_) l
  ·simp only[A3w]at j m⊢;exact h.swo.ntrans d b a m j
  simp only[A4b,A3w];cases e:ltOf c b a with
  |false=>exact .inl rfl
  |true =>
   right;simp only[ltOf,decide_eq_true_eq,decide_eq_false_iff_not]at *
   have:=(h.sym b a).1 e;omega
 have m:(E6 c l).Nodup:=(Ir l).nodup_iff.2 t;refine (j.and m).imp fun {a b} ⟨e1,e2⟩=>?_;simp only[A3w,ltOf,decide_eq_false_iff_not]at e1;rcases A4q (c a b) 0 with e|e|e
 ·exact e
 ·exact absurd (h.eq a b e) e2
 exact absurd ((h.sym b a).2 e) e1
end
section
variable {κ:Type} [Inhabited κ] {enc:κ->zV} {k:Nat}
def Qb (e:∀ x,(enc x).length=k):∀ (ss:List κ) (t:Nat),t<ss.length*k->(ss.flatMap enc)[t]?=some ((enc ss.toArray[t/k]!)[t%k]!)
 |[],t,h=>by simp at h
 |x::ss,t,h=>by
  have m:0<k:=by
   rcases A2a k with h0|h0
   ·rw[h0]at h;simp at h
   exact h0
  rw[A6o];by_cases j:t<k
  ·rw[A1r (by rw[e];exact j),A49 j,A5i j];have:t<(enc x).length:=by rw[e];exact j
   simp[getElem!_pos,this]
  rw[A18 (by rw[e];omega),e,Qb e ss (t-k) (by simp only[A3f,A16]at h;omega)];have u:t/k=(t-k)/k+1:=by rw[Nat.div_eq_sub_div m oV]
  have C:t%k=(t-k)%k:=Nat.mod_eq_sub_mod oV;rw[u,C];simp
def Ani (H:∀ x,(enc x).length=k){W:World}{E:Nat}{e:TypeId}{h:Array Value}{ss:List κ}(m:W.heap[E]?=some (.cells h e (0,0)))(j:h.toList.take (ss.length*k)=ss.flatMap enc):HoldsK enc k W E 0 ss.toArray:=by
 intro t C;rw[size_flatK]at C;have u:t<ss.length*k:=by simpa using C
 have F:h[t]?=some ((flatK enc k ss.toArray)[t]!):=by
  rw[get_flatK enc k _ t C,<-Qb H ss t u,<-j,A3y,if_pos u,A6u]
 constructor
 ·simp[World.cell?,m,F]
 simp[World.frozen?,m]
end
end
section
open Go.RowKit Go.MapKept Go.Shelf Go.Sort
def Nf (x:Par):(Ci x).length=2:=rfl
def Ip (P:Program)(st:List KI×S):List KI×S:=match one P (Ff P 200 st).1 (Ff P 200 st).2 with|some st'=>st'|none=>st
section
variable {P:Program} [A6 P] {fn:Func} {Post:Ce} {st:List KI×S} {u m:PH}
def G.pastI (h:G P fn Post (Ip P st) u m):G P fn Post st u m:=by
 unfold Ip at h;split at h
 ·rename_i st' he;exact⟨Mq 200 st (Pa A6.mx he h.out)⟩
 exact h
def Fn0.weak {f:FuncId}{args:zV}{R t:Value->PH->Prop}(h:Fn0 P f args u R)(K:∀ v j,R v j->t v j):Fn0 P f args u t:=fun w J=>Calls.mono (h w J) fun e w' ⟨v,j,L,C,E,F,H,I⟩=>⟨v,j,L,C,E,F,H,K _ _ I⟩
end
end
section
open Go.RowKit Go.MapKept Go.Shelf Go.Sort
end
def Af.le {m0 m:PH}{v:Value}{t:TypeId}{sz:Nat}{es:zV}(h:Af m0 m v t sz es):PH.le m0 m:=by
 rcases h.2 with ⟨_,_,rfl⟩|⟨g,cap,rest,e,rfl,_⟩
 ·exact PH.le_refl _
 exact Jw _ e
def Afk (p:Par×Rat):A9 3 [Bt p]:=fun e h=>by
 simp at h;subst h;exact⟨rfl,fun y j=>by simp[Bt,Value.cells]at j;rcases j with rfl|rfl|rfl<;>rfl⟩
def Aj6 (p:(Par×Par)×Rat):A9 5 [D8 p]:=fun e h=>by
 simp at h;subst h;exact⟨rfl,fun y j=>by simp[D8,Value.cells]at j;rcases j with rfl|rfl|rfl|rfl|rfl<;>rfl⟩
end Go.Proofs.YtemmheaocgmebaaGreatDoor
