import Derived.Test.YtemmheaocgmebaaGreatDoorV06
import Derived.MapKept
import Derived.Laws.IdiomRangeMap
set_option linter.defProp false
set_option linter.unusedVariables false
set_option linter.unusedSimpArgs false
set_option linter.unusedSectionVars false
set_option maxHeartbeats 16000000
namespace Go.Proofs.YtemmheaocgmebaaGreatDoor
open Go.Proofs.Tryz
open Go.RowKit
def A79:=@Nat.min_le_right
def A4s:=@Array.eq_empty_of_size_eq_zero
def Baj:=@Int.tmod_lt_of_pos
def Bak:=@Int.lt_tmod_of_pos
def A31:=@List.getElem?_range
def A9w:=@List.set_getElem_self
def A6c:=@List.map_eq_nil_iff
def A7r:=@List.getElem?_cons_succ
def A4z:=@Bool.false_eq_true
def A7m:=@List.map_nil
def A3d:=@List.mem_iff_getElem
def A6u:=@Array.getElem?_toList
def A8c:=@Array.getElem?_modify
section
variable {e z:Value}{es:zV}{k n q sz:Nat}
def Ank (h:A9 sz es)(k:Nat):(A2 es).take (k*sz)=A2 (es.take k):=by
 by_cases C:k<=es.length
 ·have e:A2 es=A2 (es.take k)++A2 (es.drop k):=by rw[<-Dq,A4h]
  have j:(A2 (es.take k)).length=k*sz:=by rw[Ba (sz:=sz) (fun x t=>h x (A27 t)),A1e];congr 1;omega
  rw[e,A6n oV,<-j,A15]
 rw[A1j (by rw[Ba h];exact A13 _ oV),A1j oV]
def Am5 (h:A9 sz es)(k:Nat):(A2 es).drop (k*sz)=A2 (es.drop k):=by
 by_cases C:k<=es.length
 ·have e:A2 es=A2 (es.take k)++A2 (es.drop k):=by rw[<-Dq,A4h]
  have j:(A2 (es.take k)).length=k*sz:=by rw[Ba (sz:=sz) (fun x t=>h x (A27 t)),A1e];congr 1;omega
  rw[e,<-j,A8s]
 rw[A2b (by rw[Ba h];exact A13 _ oV),A2b oV];rfl
def A9.replicate (h:A9 sz [e])(n:Nat):A9 sz (List.replicate n e):=fun x j=>h x (by rw[A7g j];simp)
section rules
variable {P:Program} [A6 P] {fn:Func} {Post:Ce} {st:List KI×S} {u m:PH}
def G.copyA (Q Z e:TypeId)(sz g n k:Nat)(a:Addr)(H sc c:Nat)(t:TypeId)(m0:PH)(es xs:zV)(h:Aj P (adv P st)=.blt .copy [Q,Z] [.slice (some ⟨g,0+k*sz,none⟩) (n-k) c,.slice (some a) H sc])
 (hu:P.underlying Q=some (.slice e)) (T:szB P e=some sz) (V:Af m0 m (zG g n n) t sz es) (L:A9 sz xs) (J:xs.length=Nat.min H (n-k)) (a0:k<=n)
 (K:∀ w,Fj u w->Fj m w->∀ (j:Nat) (v:Value),(A2 xs)[j]?=some v->w.cell? (a.add j)=some v)
 (kk:∀ Y,Af m0 Y (zG g n n) t sz (es.take k++xs++es.drop (k+xs.length))->G P fn Post (nx (adv P st) (zI ((Nat.min H (n-k):Nat):Int))) u Y):G P fn Post st u m:=by
 have W:=V.len;obtain⟨C,h'⟩:=V;rcases h' with ⟨R,_,_⟩|⟨g',cap,rest,R,rfl,I,h3,U,h5⟩
 ·simp at R
 simp only[Value.slice.injEq,A1f,Addr.mk.injEq,and_true]at I;obtain⟨rfl,I,rfl⟩:=I;have hr:rest = []:=by
  rw[A1d,Ba C,<-I]at U;exact A2l oV
 subst hr;simp only[A1x]at U⊢;have X:Nat.min H (n-k)<=n-k:=A79 _ _;have E:(A2 xs).length=Nat.min H (n-k)*sz:=by rw[Ba L,J]
 refine G.copyM Q Z e sz g (0+k*sz) (n-k) c a H sc t (A2 es) (A2 xs) h hu T (Ab _ _ _) E (by simpa using K) (by rw[E,Ba C,<-I,A2w,<-A16];exact A13 _ oV) (Fu L) (Fu C) ?_;rw[Dp];refine kk _ ⟨?_,.inr ⟨g,n,[],R,?_,?_,?_,?_,mV⟩⟩
 ·exact ((A9.append (fun x F=>C x (A27 F)) L).append (fun x F=>C x (A3x F)))
 ·congr 3
  rw[A2w,Ank C,E,<-A16,Am5 C,<-Dq,<-Dq,A1x,J]
 ·congr 1
  simp only[A1d,A1e,A4y,J];omega
 ·simp only[A1d,A1e,A4y,J];omega
 rw[A1x,Ba (sz:=sz)]
 ·congr 1
  simp only[A1d,A1e,A4y,J];omega
 exact ((A9.append (fun x F=>C x (A27 F)) L).append (fun x F=>C x (A3x F)))
end rules
def Aqu {u:PH}(j:n<=1000000):zF 250 [.int .u64 1,.int .u64 (n:Int)] u fun v _=>v=.tuple #[.int .u64 0,.int .u64 (n:Int)]:=by
 refine Fn0.ofW (fun v _=>v=.tuple #[.int .u64 0,.int .u64 (n:Int)]) (fun w _=>(Tryz.bits_Mul 1 n oV oV w).mono fun _ _ ⟨e,h⟩=>⟨_,e,?_,by rw[h];exact Ext.refl _⟩) (fun _ _ _ h _ _ _=>h);rw[A3i,A49 oV,A5i oV];rfl
def Aeg {z:Int}(h:0<=z)(j:z<18446744073709551616):IntKind.u64.wrap z=z:=by
 simp only[IntKind.wrap,IntKind.signed,IntKind.bits];simp;omega
def Aek (h:k+q<=n):(List.replicate k e++List.replicate (n-k) z).take k++List.replicate q e++(List.replicate k e++List.replicate (n-k) z).drop (k+(List.replicate q e).length)=List.replicate (k+q) e++List.replicate (n-(k+q)) z:=by
 rw[List.take_left' mV,A3k,List.drop_append,A2b mV,A3k,A3q,List.drop_replicate,List.replicate_append_replicate]
 congr 2;omega
def Apq {g q k r:Nat}{u m m0:PH}{t:TypeId}(I:A9 sz [e])(K:q<=k)(E:0<sz)(F:Af m0 m (zG g n n) t sz (List.replicate k e++List.replicate r z)) :
 ∀ w,Fj u w->Fj m w->∀ (j:Nat) (v:Value),(A2 (List.replicate q e))[j]?=some v->w.cell? ((⟨g,0,none⟩:Addr).add j)=some v:=by
 intro w _ hp j v H;refine Hc.cells (u:=m) (b:=g) (off:=0) E (fun i x hi=>?_) (I.replicate q) hp j v H;have C:i<q:=by
  rcases A2e i q with h|h
  ·exact h
  rw[A1v (by simpa using h)]at hi;cases hi
 have J:x=e:=by rw[A6e,if_pos C]at hi;exact (A28 hi).symm
 subst J;refine F.el ?_;rw[A1r gV,A6e,if_pos oV]
def Ao2 {u:PH}{v e:Value}(h:Ac u v 1 [e])(I:A9 1 [e])(hn:n<=1000000) :
 zF 207 [v,zI n] u fun v' U=>Ac U v' 1 (List.replicate n e):=by
 obtain⟨a,c,rfl⟩:=h.opn;have K:=Ac.at' h (j:=0) (e:=e) rfl;obtain⟨b,off,rfl,L⟩:=K;refine Fn0.o func207<|G.lF n 0<|G.convI .i64 .u64 .i64 1 1 kV (Aeg oV oV)<|G.convI .i64 .u64 .i64 n (n:Int) kV (Aeg oV oV)<|G.c call250 (Aqu hn) ?_;rintro v1 u1 l1 rfl;refine G.cmpG .gtr .u64 0 0 false kV rfl rfl<|G.cmpG .gtr .u64 (n:Int) 9223372036854775807 false kV rfl (by simp only[Db,decide_eq_false_iff_not];omega)<|G.convI .u64 .i64 .u64 (n:Int) (n:Int) kV (Fk oV oV)<|G.make 34 1 16 zE n kV rfl rfl oV oV oV ?_;rintro v2 m2 R ⟨a2,rfl⟩;obtain⟨g,rfl,T⟩:=R.some';have a0:Nat.min 1 (n-0)<=1:=Nat.min_le_left _ _;refine G.copyA 46 46 34 1 g n 0 ⟨b,off,none⟩ 1 c n 34 PH.mt (List.replicate n zE) (List.replicate (Nat.min 1 (n-0)) e) kV kV kV R (I.replicate _) mV (A1t _) (fun w hp _ j x X=>?_) ?_
 ·refine Hc.cells (u:=u) (b:=b) (off:=off) (sz:=1) oV (fun i y hi=>?_) (I.replicate _) (fun g o T=>hp g o (l1 g o T)) j x X;have E:i<Nat.min 1 (n-0):=by
   rcases A2e i (Nat.min 1 (n-0)) with h|h
   ·exact h
   rw[A1v (by simpa using h)]at hi;cases hi
  rw[A6e,if_pos E]at hi;have hy:y=e:=(A28 hi).symm;subst hy;have:i=0:=oV;subst this;exact L
 intro m3 C;have F:=Aek (e:=e) (z:=zE) (n:=n) (k:=0) (q:=Nat.min 1 (n-0)) (by have:Nat.min 1 (n-0)<=n-0:=A79 _ _;omega);simp only[A42,A3q,A6t,A2w]at F C;rw[F]at C;clear F;refine G.l (ι:=Nat) (fun k=>[(7,sV (zA g) n n),(8,iV k)]) (fun _=>[])
  (fun k U m'=>k<=n/\(k=0->n=0)/\Af PH.mt m' (zG g n n) 34 1 (List.replicate k e++List.replicate (n-k) zE)) (fun k=>n-k) (Nat.min 1 n)
  ⟨A79 _ _,fun h=>by have h':min 1 n=0:=h;omega,C⟩ ?_
 rintro J k V u4 m4 l4 ⟨Y,Z,t⟩;by_cases E:k<n
 ·refine G.lT k n<|G.sliceFrom g 0 n n k 1 kV oV E<|G.sliceTo 1 (zA g) n n k kV oV ?_;have Q:Nat.min k (n-k)<=k:=Nat.min_le_left _ _;have a1:Nat.min k (n-k)<=n-k:=A79 _ _;have a3:0<Nat.min k (n-k):=by show 0<min k (n-k);omega
  refine G.copyA 46 46 34 1 g n k ⟨g,0,none⟩ k n (n-k) 34 PH.mt _ (List.replicate (Nat.min k (n-k)) e) kV kV kV t (I.replicate _) mV Y (Apq I Q oV t) ?_;intro m5 H;rw[Aek oV]at H;generalize Nat.min k (n-k)=q at *
  exact G.p k q (k+q:Nat)<|G.b (V (k+q) _ _ _ cV l4 ⟨oV,oV,H⟩ oV)
 obtain rfl:k=n:=oV;refine G.lF k k ?_;rw[A4i,A42,A1x]at t;refine G.give PH.mt _ _ kV t (fun _=>.inl rfl) ?_;intro u5 l5 W;exact G.r (zG g k k) ⟨rfl,W⟩
end
section
variable {q:Rat}
def sg (q:Rat):Int:=if q<0 then -1 else if 0<q then 1 else 0
theorem Ait (h:0<q):sg q=1:=by unfold sg;rw[if_neg (by grind),if_pos h]
theorem Ayz (h:q<0):sg q = -1:=by unfold sg;rw[if_pos h]
def At0:sg 0=0:=by simp[sg]
theorem Agk (q:Rat):(q<0/\sg q = -1)\/(q=0/\sg q=0)\/(0<q/\sg q=1):=by
 by_cases h:q<0
 ·exact .inl ⟨h,Ayz h⟩
 by_cases e:0<q
 ·exact .inr (.inr ⟨e,Ait e⟩)
 have:q=0:=by grind
 exact .inr (.inl ⟨this,by rw[this];exact At0⟩)
end
def gR (l:zR)(i:Nat):Rat:=l.getD i 0
def gM (M:zM)(i:Nat):zR:=M.getD i []


section
variable {a:zP}{es:zV}{i j k:Nat}{l:zR}{q r:Rat}
section rules
variable {P:Program} [A6 P] {fn:Func} {Post:Ce} {st:List KI×S} {u m:PH}
def Aea {C:BinOp}{a b:zP}{n c h e:Nat}(t:TypeId)(X Y:Operand)(w:World):(eqGuard C t X Y (.slice a n c) (.slice b h e)).run P w=.ok () w:=by
 unfold eqGuard;split<;>simp
def G.nilF (e:TypeId)(a:Addr)(n c:Nat)(h:Aj P (adv P st)=.binT .eql (some (.slice e)) (.slice (some a) n c) zN)(k:G P fn Post (nx (adv P st) zL) u m):G P fn Post st u m:=by
 refine G.ask h mV (fun Q o C w _=>?_) k;obtain⟨t,X,Y,T,F,J,K,L⟩:=Mb C;obtain⟨I,R,H,pos,after,E⟩:=o;simp only at F;subst F;have:(Op.equal t (.slice (some a) n c) zN).run P w=.ok false w:=by
  unfold Op.equal;rw[show Op.maxDepth=9999+1 from rfl,Op.equalIn];simp[run_underlying L]
 simp[execOp,J,K,Aea,binOp,this]
def G.build0 (e:TypeId)(sz W:Nat)(z:Value)(h:Aj P (adv P st)=.buildS (some (e,sz,W,z)) 0 [])(k:∀ g C,Af m C (zG g 0 0) e sz []->G P fn Post (nx (adv P st) (zG g 0 0)) u C):G P fn Post st u m:=by
 refine G.big (K:=fun V Q C=>Q=u/\PH.le m C/\∃ g,V=zG g 0 0/\Af m C (zG g 0 0) e sz []) h mV (fun H op hv=>?_) (.inl fun v Q C F=>F.2.1) (fun H o E w J=>?_) (fun V Q C a1 F=>?_)
 ·obtain⟨t,qs,rfl,_⟩:=En hv;rfl
 ·obtain⟨t,qs,R,Z,hi⟩:=En E;obtain⟨X,a2,U,pos,after,I⟩:=o;simp only at R;subst R;obtain⟨hu,i,L,a0,rfl,rfl⟩:=D4 hi;obtain⟨g1,g2,T,g4⟩:=J.newM (cs:=#[]) (t:=e) mV;refine B8 (w':=w.alloc (.cells #[] e (0,0))) (v:=.slice (some ⟨w.heap.size,0,none⟩) 0 0) ?_ ⟨u,_,g1,g2,rfl,Jw _ T,_,rfl,fun _ h=>absurd h mV,.inr ⟨w.heap.size,0,[],T,rfl,rfl,A08 _,by simp[A2],mV⟩⟩;simp only[execOp,Z];have Y:∀ f:Nat->Value,Array.map f (Array.range 0) = #[]:=fun f=>by apply A4s;simp
  simp[Instr.buildSlice,run_underlying hu,sizeOf,typeInfo,L,newRow,Instr.fill,Y]
 obtain⟨rfl,_,g,rfl,F⟩:=F;exact k g C F
end rules
def Ac.take' {u:PH}{n c sz:Nat}(h:Ac u (.slice a n c) sz es)(k:Nat)(F:k<=es.length):Ac u (.slice a k c) sz (es.take k):=by
 obtain⟨H,I,C,J,E⟩:=h;simp only[Value.slice.injEq]at C;obtain⟨rfl,_,rfl⟩:=C;refine⟨a,c,by rw[A1e,A4a F],by rw[A1e];omega,fun j e t=>?_⟩;rw[A3y]at t;split at t
 ·exact E j e t
 cases t
def AtP.at {α:Type}{R:PH->Value->α->Prop}{u:PH}{xs:List α}(h:AtP R u es xs)(t:j<xs.length):∃ e,es[j]?=some e/\R u e xs[j]:=h.2 j _ (A01 t)
def Cu (h:i<l.length):gR l i=l[i]:=by simp[gR,h]
def Xr (h:i<l.length):gR l i∈l:=by rw[Cu h];exact A09 h
def SzL (p:zR)(k:Nat):Prop:=∀ q∈p,Sz q k
def SzL.at {p:zR}(h:SzL p k)(hi:i<p.length):Sz (gR p i) k:=h _ (Xr hi)
def SzL.mono {p:zR}{j k:Nat}(h:SzL p j)(e:j<=k):SzL p k:=fun q t=>(h q t).mono e
theorem Acy (q:Rat):sgn q.num=sg q:=by
 rcases Agk q with ⟨h,e⟩|⟨h,e⟩|⟨h,e⟩
 ·rw[e];refine Ep ?_;have:¬ (0<=q.num):=fun t=>by have:=Rat.num_nonneg.1 t;grind
  omega
 ·subst h;rw[e];rfl
 rw[e];refine C5 ?_;have C:0<=q.num:=Rat.num_nonneg.2 (by grind);have E:q.num≠0:=fun t=>by have:=A4r.1 t;grind
 omega
def Aip :sg q=0↔q=0:=by
 rcases Agk q with ⟨h,e⟩|⟨h,e⟩|⟨h,e⟩
 ·rw[e];constructor
  ·intro t;omega
  intro t;subst t;simp at h
 ·exact⟨fun _=>h,fun _=>e⟩
 rw[e];constructor
 ·intro t;omega
 intro t;subst t;simp at h
def Anr {u:PH}{x:Value}(h:Bg u x q)(t:Sz q k)(e:k<=100000000000000):zF 131 [x] u fun v _=>v=zI (sg q):=by
 rw[<-Acy];exact Aao h (A04 t.1 e)
def Adt {z:Int}(h:z.natAbs<1000000000):Sz (z:Rat) 1:=⟨A4 (by simpa using h),A4 mV⟩
def R5 (h:Sz q j)(e:Sz r k):Sz (q+r) (j+k+1):=by
 rw[<-Rq q r];have a1:=G7 q.num.natAbs r.den;have a2:=G7 r.num.natAbs q.den;have a3:=G7 q.den r.den;have C:=Asl (q.num.natAbs*r.den) (r.num.natAbs*q.den);have t:(q.num*(r.den:Int)+r.num*(q.den:Int)).natAbs<=q.num.natAbs*r.den+r.num.natAbs*q.den:=by
  refine A04 (Int.natAbs_add_le _ _) ?_;rw[A26,A26];simp
 have E:=C4 t;have:=h.1;have:=h.2;have:=e.1;have:=e.2;exact Jg (Rs q r) oV (by rw[A26];simp only[A1s];omega)
theorem Asu (h:Sz q k):Sz (-q) k:=⟨by rw[Ba3,A3l];exact h.1,by rw[Ba4];exact h.2⟩
def Akj (h:Sz q j)(e:Sz r k):Sz (q-r) (j+k+1):=by
 rw[Bae];exact R5 h (Asu e)
def Fx (h:Sz q j)(e:Sz r k):Sz (q*r) (j+k):=by
 rw[<-Ac8 q r];have a1:=G7 q.num.natAbs r.num.natAbs;have a3:=G7 q.den r.den;have:=h.1;have:=h.2;have:=e.1;have:=e.2;exact Jg (Rs q r) (by rw[A26];omega) (by rw[A26];simp only[A1s];omega)
end
section
variable {M:zM}{i j:Nat}{q:Rat}
structure F4 where
 b:Bool
 a:zP
 n:Nat
 c:Nat
 b':Bool
 a':zP
 n':Nat
 c':Nat
def fv (f:F4):Value:=.agg #[.bool f.b,.slice f.a f.n f.c,.bool f.b',.slice f.a' f.n' f.c']
def fc (f:F4):List SV:=[.v (.bool f.b),.v (.slice f.a f.n f.c),.v (.bool f.b'),.v (.slice f.a' f.n' f.c')]
def Bg.opF {u:PH}{v:Value}(h:Bg u v q):∃ f,v=fv f:=by
 obtain⟨b,a,n,c,b',e,t,m,rfl⟩:=h.opn;exact⟨⟨b,a,n,c,b',e,t,m⟩,rfl⟩
def Bag.perm {l l':List Arr}(h:l.Perm l'):∀ {m:PH},Bag m l->Bag m l':=by
 induction h with
 |nil=>exact fun h=>h
 |cons x _ ih=>exact fun⟨m0,e,t⟩=>⟨m0,e,ih t⟩
 |swap x y l =>
  rintro m ⟨J,E,m0,C,u⟩;obtain⟨I,F,H,_⟩:=At.swap E C;exact⟨I,H,m0,F,u⟩
 |trans _ _ e t=>exact fun h=>t (e h)
def Kb {q:zR}(hi:i<M.length):gM (M.set i q) j=if i=j then q else gM M j:=by
 unfold gM;simp only[A02,A1z];split
 ·rename_i e;subst e;simp
 rfl
def SzM (M:zM)(k:Nat):Prop:=∀ i j,i<M.length->j<(gM M i).length->Sz (gR (gM M i) j) k
def SzM.mono {M:zM}{j k:Nat}(h:SzM M j)(e:j<=k):SzM M k:=fun a b m t=>(h a b m t).mono e
def Aht {l:zR}(hi:i<l.length):gR (l.set i q) j=if i=j then q else gR l j:=by
 unfold gR;simp only[A02,A1z];split
 ·rename_i e;subst e;simp
 rfl
def Ch (h:i<M.length):gM M i=M[i]:=by simp[gM,h]
def Arz {q r:Rat}{j k:Nat}(h:Sz q j)(t:Sz r k)(F:r≠0):Sz (q/r) (j+k):=by
 rw[<-Abt q r];have a1:=G7 q.num.natAbs r.den;have a3:=G7 q.den r.num.natAbs;have H:=h.1;have I:=h.2;have J:=t.1;have K:=t.2;have E:r.num≠0:=fun e=>F (A4r.1 e);have u:(q.den:Int)≠0:=by have:=q.den_pos;omega
 have c1:nl (q.num*(r.den:Int)).natAbs<=j+k:=by rw[A26];simp only[A1s];omega
 have c2:nl ((q.den:Int)*r.num).natAbs<=j+k:=by rw[A26];simp only[A1s];omega
 rcases Int.lt_or_lt_of_ne (A8l u E) with C|m
 ·have e:Rat.divInt (q.num*(r.den:Int)) ((q.den:Int)*r.num)=Rat.divInt (-(q.num*(r.den:Int))) (-((q.den:Int)*r.num)):=(Rat.neg_divInt_neg _ _).symm;rw[e];exact Jg oV (by rw[A3l];exact c1) (by rw[A3l];exact c2)
 exact Jg m c1 c2
end
def Cw:Value:=.agg #[zL,zN,zL,zN]
def Q3:Sz 0 1:=Adt (z:=0) fV
def Og (q:Rat):Bool:=decide (q.num.natAbs<10^100)&&decide (q.den<10^100)
section
variable {q:Rat}
def Cz:∀ {k n:Nat} (_:0<k) (_:n<10^k),Lib.nDigits n<=k
 |0,n,hk,h=>oV
 |k+1,n,hk,h=>by
  by_cases j:n<10
  ·rw[Lib.nDigits_small j];omega
  rw[Lib.nDigits_big j];have e:0<k:=by
   rcases A2a k with h0|h0
   ·subst h0;simp at h;omega
   exact h0
  have:=Cz (k:=k) (n:=n/10) e (by rw[A3b oV,<-A2d];exact h);omega
def Uo (h:Og q=true):Tx q/\Sz q 12:=by
 simp only[Og,A1m,decide_eq_true_eq]at h;have j:=Cz oV h.1;have m:=Cz oV h.2;have e:(10:Nat)^100<=1000000000^12:=fV
 exact⟨⟨oV,oV⟩,A4 (A2s h.1 e),A4 (A2s h.2 e)⟩
theorem Beo {q r:Rat}:sg (q-r)<0↔q<r:=by
 rcases Agk (q-r) with ⟨h,e⟩|⟨h,e⟩|⟨h,e⟩
 ·rw[e];exact⟨fun _=>by grind,fun _=>oV⟩
 ·rw[e];exact⟨fun j=>oV,fun j=>by grind⟩
 rw[e];exact⟨fun j=>oV,fun j=>by grind⟩
end
section
section rules
variable [Cl] [Co] [Pu] {P:Program} [A6 P] {fn:Func} {Post:Ce} {st:List KI×S} {u m:PH}
def G.buildM (e:TypeId)(sz bt:Nat)(z:Value)(es:zV)(h:Aj P (adv P st)=.buildS (some (e,sz,bt,z)) es.length (es.zipIdx.map fun p=>(p.2,p.1)))(H:A9 sz es)(a3:z.cells.size=sz)(W:0<sz)(U:0<es.length)(hb:es.length*sz<=16777216)
 (k:∀ g C,Af m C (zG g es.length es.length) e sz es->G P fn Post (nx (adv P st) (zG g es.length es.length)) u C):G P fn Post st u m:=by
 refine G.big (K:=fun v' X C=>X=u/\PH.le m C/\∃ g,v'=zG g es.length es.length/\Af m C (zG g es.length es.length) e sz es) h mV (fun I op hv=>?_) (.inl fun v X C F=>F.2.1) (fun I o E w Q=>?_) (fun v' X C a2 F=>?_)
 ·obtain⟨t,qs,rfl,_⟩:=En hv;rfl
 ·obtain⟨t,qs,Y,e2,hi⟩:=En E;obtain⟨a1,a4,a0,pos,after,J⟩:=o;simp only at Y;subst Y;obtain⟨hu,i,R,T,rfl,rfl⟩:=D4 hi;obtain⟨g1,g2,Z,g4⟩:=Q.newM (cs:=(A2 es).toArray) (t:=e) (by simpa using Fu H);have L:=Ba H;have V:es.length*i.size≠0:=by have:=A51 U W;omega
  have j:=Sn es 0 ((Array.range (es.length*i.size)).map (z.cells[· % z.cells.size]!)) H mV;have e0:((Array.range (es.length*i.size)).map (z.cells[· % z.cells.size]!)).toList.drop (es.length*i.size) = []:=by
   apply A9o;simp
  simp only[A58,A53,A3q,A2w,e0,A1x]at j;refine B8 (w':=w.alloc (.cells (A2 es).toArray e (0,0))) (v:=.slice (some ⟨w.heap.size,0,none⟩) es.length es.length) ?_ ⟨u,_,g1,g2,rfl,Jw _ Z,_,rfl,H,.inr ⟨w.heap.size,es.length,[],Z,by rw[A1x],rfl,A08 _,by rw[A1x,L],mV⟩⟩;simp only[execOp,e2];simp[Instr.buildSlice,run_underlying hu,sizeOf,typeInfo,zeroValue,R,T,V,j,newRow,show ¬ 16777216<es.length*i.size by omega]
 obtain⟨rfl,_,g,rfl,F⟩:=F;exact k g C F
end rules
end
section
variable [Cl] [Co] [Pu]
section rules
variable {P:Program} [A6 P] {fn:Func} {Post:Ce} {st:List KI×S} {u m:PH}
def Aei {e:Operand->Value}{o:Op}{t:TypeId}{x:Value}{f:Nat}(h:Bc P e o=.fieldA t x f):∃ X,o=.fieldAddr t X f/\e X=x:=by
 cases o<;>simp only[Bc]at h<;>try cases h
 any_goals ((repeat' split at h)<;>cases h;done)
 exact⟨_,rfl,rfl⟩
def G.fieldA (t:TypeId)(b off f F:Nat)(h:Aj P (adv P st)=.fieldA t (.pointer (some ⟨b,off,none⟩)) f)(j:Nw P t f=some F)(k:G P fn Post (nx (adv P st) (.pointer (some ⟨b,off+F,none⟩))) u m):G P fn Post st u m:=by
 refine G.ask h mV (fun K o C w _=>?_) k;obtain⟨X,e,J⟩:=Aei C;obtain⟨I,L,H,pos,after,E⟩:=o;simp only at e;subst e;unfold Nw at j;split at j
 ·rename_i fs hfs;split at j
  ·rename_i fd hfd;split at j
   ·rename_i n hn;simp only[A1f]at j;subst j;simp[execOp,Instr.fieldAt,run_underlying hfs,hfd,Instr.sureAddr,J,fieldPlace,Bf hn,Ed]
   cases j
  cases j
 cases j
def G.remZ (x y z:Int)(h:Aj P (adv P st)=.bin .rem (zI x) (zI y))(e:0<y)(E:y<=9223372036854775807)(j:x.tmod y=z)
 (k:G P fn Post (nx (adv P st) (zI z)) u m):G P fn Post st u m:=by
 refine G.bin _ h C0 (fun t w=>?_) k;have C:¬ y=0:=oV
 have F:-y<z/\z<y:=by
  rw[<-j];have a1:=Baj x e;have a2:=Bak x e;exact⟨a2,a1⟩
 simp[binOp,Op.intDiv,C,j]
end rules
end
section
variable [Cl] [Pu] [Co]
variable {P:Program} [A6 P] {fn:Func} {Post:Ce} {st:List KI×S} {u m:PH}
def G.f (t:TypeId)(b off f fo:Nat)(k:G P fn Post (nx (adv P st) (.pointer (some ⟨b,off+fo,none⟩))) u m)(h:Aj P (adv P st)=.fieldA t (.pointer (some ⟨b,off,none⟩)) f:=by kernel_rfl)(hf:Nw P t f=some fo:=by kernel_rfl):G P fn Post st u m:=G.fieldA t b off f fo h hf k
end
section
variable {k:Nat}{m0:PH}
def Ari (m:PH):m.or PH.mt=m:=by
 funext g;unfold PH.or;split
 ·rename_i o e;rw[e]
 rename_i e;rw[e];rfl
def Ajy (m0 m:PH){g:Nat}(o:Obj)(h:m0 g=none):m0.or (m.upd g o)=(m0.or m).upd g o:=by
 funext k
 by_cases e:k=g
 ·subst e;rw[PH.or_r h,Ab,Ab]
 rw[Ad _ _ e];unfold PH.or;split
 ·rfl
 rw[Ad _ _ e]
def Bag.or {l':List Arr}{j:PH}(C:Bag j l'):∀ {l:List Arr} {m:PH},Bag m l->(∀ g,m g≠none->j g=none)->Bag (j.or m) (l++l')
 |[],m,h,hd=>by
  exact Bag.or_junk C hd
 |x::l,m,⟨m0,F,hl⟩,hd=>by
  obtain⟨J,F⟩:=F;rcases F with ⟨t,H,rfl⟩|⟨g,cap,rest,t,rfl,H,K,L,Q⟩
  ·exact⟨_,⟨J,.inl ⟨t,H,rfl⟩⟩,Bag.or C hl hd⟩
  have I:j g=none:=hd g (by rw[Ab];simp);refine⟨j.or m0,⟨J,.inr ⟨g,cap,rest,by rw[PH.or_r I];exact t,Ajy _ _ _ I,H,K,L,Q⟩⟩,Bag.or C hl (fun k E=>hd k ?_)⟩;by_cases e:k=g
  ·subst e;rw[t]at E;exact absurd rfl E
  rw[Ad _ _ e];exact E
where
 Bag.or_junk {l':List Arr} {m' m:PH} (h':Bag m' l') (hd:∀ g,m g≠none->m' g=none):Bag (m'.or m) (l'):=by
  induction l' generalizing m' with
  |nil=>trivial
  |cons x l ih =>
   obtain⟨m0,⟨ox,hx⟩,hl⟩:=h';rcases hx with ⟨x1,x2,rfl⟩|⟨g,cap,rest,x1,rfl,x2,x3,x4,x5⟩
   ·exact⟨_,⟨ox,.inl ⟨x1,x2,rfl⟩⟩,ih hl hd⟩
   ·have hg:m g=none:=by
     cases e:m g with
     |none=>rfl
     |some o=>have:=hd g (by rw[e];simp);rw[Ab]at this;cases this
    refine⟨m0.or m,⟨ox,.inr ⟨g,cap,rest,by rw[PH.or_r x1];exact hg,?_,x2,x3,x4,x5⟩⟩,ih hl (fun k hk=>?_)⟩
    ·funext k
     by_cases e:k=g
     ·subst e;rw[Ab,PH.or_l (Ab _ _ _)]
     ·rw[Ad _ _ e];unfold PH.or;rw[Ad _ _ e]
    ·have:=hd k hk;by_cases e:k=g
     ·subst e;rw[Ab]at this;cases this
     ·rw[Ad _ _ e]at this;exact this
def Af.list {m0 m u:PH}{v:Value}{t:TypeId}{sz:Nat}{es:zV}(h:Af m0 m v t sz es)(hl:PH.le m u):Ac u v sz es:=by
 obtain⟨ho,h⟩:=h;rcases h with ⟨rfl,rfl,_⟩|⟨g,cap,rest,_,rfl,rfl,hcap,hlen,_⟩
 ·exact Ac.nil _ _ _ _
 refine⟨_,_,rfl,hcap,fun j e hj=>⟨g,0,rfl,fun i x hx=>⟨_,_,_,hl _ _ (Ab _ _ _),?_⟩⟩⟩;rw[A3j,A2w];have:=Ju ho hj hx;rw[A1r (by obtain⟨h,_⟩:=A05.1 this;exact h)];exact this
def Bag.list {l:List Arr}{m u:PH}(h:Bag m l)(hl:PH.le m u)(i:Nat){x:Arr}(hi:l[i]?=some x):Ac u x.v x.sz x.es:=by
 obtain⟨m0,hx,_⟩:=h.focus i hi;exact Af.list hx hl
section rules
variable [Cl] [Co] [Pu] {P:Program} [A6 P] {fn:Func} {Post:Ce} {st:List KI×S} {u m:PH}
def G.callA (f:Nat)(args:zV){mf mc:PH}{R:Value->PH->PH->Prop}(h:Aj P (adv P st)=.call f args)(H:Vl (adv P st)=true)(hc:∀ args w,(callFunc f args).run P w=.ok (.enter f args) w)(hm:m=mf.or mc)(F:Hp mf mc)(c:Ag P f args u mc R)
 (k:∀ v t j,PH.le u t->R v t j->Hp mf j->G P fn Post (nx (adv P st) v) t (mf.or j)):G P fn Post st u m:=by
 subst hm;refine G.bigN (K:=fun v t T=>∃ j,T=mf.or j/\R v t j/\Hp mf j) h mV H Dv (fun X o E w C=>?_) (fun v t T Y Z=>?_)
 ·have J:Bv u mc w:=C.less (fun g o I=>by
   cases hx:mf g with
   |some o'=>have:=(F g).resolve_left (by rw[hx];simp);rw[this]at I;cases I
   |none=>rw[PH.or_r hx];exact I)
  refine Hq E hc w _ (Calls.mono (c w J) fun e w' he=>?_);obtain⟨v,t,j,U,V,Q,W⟩:=he;obtain⟨g1,g2⟩:=C.frameM F V Q;refine⟨v,U,t,mf.or j,g1,g2,j,rfl,W,fun g=>?_⟩;cases hx:mf g with
  |none=>exact .inl rfl
  |some o =>
   right;have L:=Aw (C.pm g o (PH.or_l hx));exact Q.ms g L ((F g).resolve_left (by rw[hx];simp))
 obtain⟨j,rfl,hR,hA⟩:=Z;exact k v t j Y hR hA
def G.callP (f:Nat)(args:zV){mf mc:PH}{R:Value->PH->PH->Prop}(h:Aj P (adv P st)=.call f args)(L:Pu.b=true)(hc:∀ args w,(callFunc f args).run P w=.ok (.enter f args) w)(hm:m=mf.or mc)(F:Hp mf mc)(c:Ag P f args u mc R)
 (k:∀ v t j,PH.le u t->R v t j->Hp mf j->G P fn Post (nx (adv P st) v) t (mf.or j)):G P fn Post st u m:=by
 subst hm;refine G.bigP (K:=fun v t T=>∃ j,T=mf.or j/\R v t j/\Hp mf j) h mV L Dv (fun X o E w C=>?_) (fun v t T Y Z=>?_)
 ·have I:Bv u mc w:=C.less (fun g o H=>by
   cases hx:mf g with
   |some o'=>have:=(F g).resolve_left (by rw[hx];simp);rw[this]at H;cases H
   |none=>rw[PH.or_r hx];exact H)
  refine Hq E hc w _ (Calls.mono (c w I) fun e w' he=>?_);obtain⟨v,t,j,U,V,Q,W⟩:=he;obtain⟨g1,g2⟩:=C.frameM F V Q;refine⟨v,U,t,mf.or j,g1,g2,j,rfl,W,fun g=>?_⟩;cases hx:mf g with
  |none=>exact .inl rfl
  |some o =>
   right;have J:=Aw (C.pm g o (PH.or_l hx));exact Q.ms g J ((F g).resolve_left (by rw[hx];simp))
 obtain⟨j,rfl,hR,hA⟩:=Z;exact k v t j Y hR hA
def G.giveP {ma sm:PH}(h:F2 (ctl P 100 st).1=true)(I:m=ma.or sm)(Z:Hp ma sm)(h0:∀ g,Post.m0 g=none\/sm g≠none)(k:∀ Y,PH.le u Y->PH.le ma Y->G P fn Post (ctl P 100 st) Y sm):G P fn Post st u m:=by
 subst I;refine⟨L3 100 st ?_⟩;rw[Sym.ofNo h];intro c ρ a w K F;have R:∀ g o,ma g=some o->u g=none:=fun g o t=>(F.gd.ap g).resolve_right (by rw[PH.or_l t];simp);have L:∀ g o,sm g=some o->ma g=none:=fun g o t=>(Z g).resolve_right (by rw[t];simp);have J:∀ g o,ma g=some o->c.w0.heap.size<=g:=by
  intro g o t;rcases A2e g c.w0.heap.size with V|T
  ·have W:c.m0 g=none:=by
    rw[K];rcases h0 g with e|e
    ·exact e
    cases hs:sm g with
    |none=>exact absurd hs e
    |some o'=>have:=L g o' hs;rw[this]at t;cases t
   have:=F.gr.ms g V W;rw[PH.or_l t]at this;cases this
  exact T
 have U:PH.le u (ma.or u):=fun g o t=>by
  cases C:ma g with
  |none=>rw[PH.or_r C];exact t
  |some o'=>have:=R g o' C;rw[this]at t;cases t
 have hk:=(k (ma.or u) U (fun g o t=>PH.or_l t)).out;rw[Sym.ofNo h]at hk;refine hk c ρ a w K ⟨F.sz,F.tm,F.df.of fun r e _ hu I=>(by
  have H:ma r=none:=(by
   cases C:ma r with
   |none=>rfl
   |some o=>rw[PH.or_l C]at I;cases I)
  rw[PH.or_r H]at I;exact⟨e,by rw[PH.or_r H];exact hu,I⟩),fun X b hb=>?_,F.inj,F.lv,⟨fun E o t=>?_,fun E o t=>?_,fun E=>?_,fun E cs t' fr j z t hj=>?_⟩,⟨F.gr.sz,F.gr.old,fun E t=>?_,fun E t I=>?_,F.gr.io,F.gr.dr⟩⟩
 ·obtain⟨e1,e2,e3,Q⟩:=F.box X b hb;have H:ma (ρ X)=none:=by
   cases C:ma (ρ X) with
   |none=>rfl
   |some o=>rw[PH.or_l C]at Q;cases Q
  rw[PH.or_r H]at Q;exact⟨e1,e2,by rw[PH.or_r H];exact e3,Q⟩
 ·cases C:ma E with
  |some o'=>rw[PH.or_l C]at t;cases t;exact F.gd.pm E _ (PH.or_l C)
  |none=>rw[PH.or_r C]at t;exact F.gd.pu E o t
 ·exact F.gd.pm E o (by rw[PH.or_r (L E o t)];exact t)
 ·cases C:ma E with
  |some o'=>right;exact (Z E).resolve_left (by rw[C];simp)
  |none =>
   rw[PH.or_r C];have:=F.gd.ap E;rw[PH.or_r C]at this;exact this
 ·cases C:ma E with
  |some o' =>
   rw[PH.or_l C,<-t];exact (F.gd.pm E _ (PH.or_l C)).symm
  |none=>rw[PH.or_r C];exact F.gd.cl E cs t' fr j z t hj
 ·have C:ma E=none:=by
   cases C:ma E with
   |none=>rfl
   |some o=>have:=J E o C;omega
  rw[PH.or_r C];exact F.gr.us E t
 have:=F.gr.ms E t I;cases C:ma E with
 |some o=>have:=J E o C;omega
 |none=>rw[PH.or_r C]at this;exact this
end rules
structure Src where
 g:Nat
 a:zP
 n:Nat
 c:Nat
def Src.ptr (s:Src):Value:=.pointer (some ⟨s.g,0,none⟩)
def Src.el (s:Src)(k:Nat):Value:=.agg #[.slice s.a s.n s.c,zI k]
def Src.M (s:Src)(k:Nat):PH:=PH.mt.upd s.g (.cells #[.slice s.a s.n s.c,zI k] 102 (0,0))
def Src.arr (s:Src)(k:Nat):Arr:=⟨.slice (some ⟨s.g,0,none⟩) 1 1,102,2,[s.el k]⟩
def Src.el_ok (s:Src)(k:Nat):A9 2 [s.el k]:=by
 intro x e;simp at e;subst e;exact⟨rfl,fun y h=>by simp[Src.el,Value.cells]at h;rcases h with rfl|rfl<;>rfl⟩
def Src.at {s:Src}(h:m0 s.g=none):(s.arr k).At m0 (m0.or (s.M k)):=by
 refine⟨s.el_ok k,.inr ⟨s.g,1,[],h,?_,rfl,A08 _,rfl,mV⟩⟩;unfold Src.M;rw[Ajy _ _ _ h,Ari];rfl
def Src.split {s:Src}{m0 m:PH}(h:(s.arr k).At m0 m):m=m0.or (s.M k)/\m0 s.g=none:=by
 obtain⟨_,h⟩:=h;rcases h with ⟨h,_,_⟩|⟨g,cap,rest,e,rfl,j,E,t,F⟩
 ·simp[Src.arr]at h
 simp only[Src.arr,Value.slice.injEq,A1f,Addr.mk.injEq,and_true]at j;obtain⟨rfl,_,rfl⟩:=j;have C:rest = []:=by
  simp[Src.arr,A2,Src.el,Value.cells]at t;exact t
 subst C;refine⟨?_,e⟩;unfold Src.M;rw[Ajy _ _ _ e,Ari];rfl
def Src.apart {s:Src}(h:m0 s.g=none):Hp m0 (s.M k):=fun g=>by
 by_cases e:g=s.g
 ·subst e;exact .inl h
 right;unfold Src.M;rw[Ad _ _ e];rfl
structure J0 (u:PH)(s:Src)(ts:List Int):Prop where
 list:Ac u (.slice s.a s.n s.c) 1 (Fc ts)
 n:s.n=ts.length
 le:ts.length<=600
 lo:∀ t∈ts,-9223372036854775808<=t
 hi:∀ t∈ts,t<=9223372036854775807
def J0.mono {u e:PH}{s:Src}{ts:List Int}(h:J0 u s ts)(j:PH.le u e):J0 e s ts:=⟨h.list.mono j,h.n,h.le,h.lo,h.hi⟩
def Src.cell0 (s:Src)(k:Nat):ElP (s.M k) s.g (0+0) (.slice s.a s.n s.c):=fun i y e=>by
 match i,e with
 |0,e=>simp[Value.cells]at e;subst e;exact⟨_,_,_,Ab _ _ _,rfl⟩
def Src.cell1 (s:Src)(k:Nat):ElP (s.M k) s.g (0+1) (zI k):=fun i y e=>by
 match i,e with
 |0,e=>simp[Value.cells]at e;subst e;exact⟨_,_,_,Ab _ _ _,rfl⟩
end
section
variable [Cl] [Pu] [Co]
variable {P:Program} [A6 P] {fn:Func} {Post:Ce} {st:List KI×S} {u m:PH}
def G.A {f:Nat}{args:List Value}{R:Value->PH->PH->Prop}(hc:∀ args w,(callFunc f args).run P w=.ok (.enter f args) w)(c:Ag P f args u m R)(k:∀ v u' mc',PH.le u u'->R v u' mc'->Hp PH.mt mc'->G P fn Post (nx (adv P st) v) u' (PH.mt.or mc'))(h:Aj P (adv P st)=.call f args:=by kernel_rfl)(hdr:Vl (adv P st)=true:=by kernel_rfl):G P fn Post st u m:=G.callA f args h hdr hc (By _).symm (Ef _) c k
def G.D {f:Nat}{args:List Value}{mf mc:PH}{R:Value->PH->PH->Prop}(hc:∀ args w,(callFunc f args).run P w=.ok (.enter f args) w)(hd:Hp mf mc)(c:Ag P f args u mc R)(k:∀ v u' mc',PH.le u u'->R v u' mc'->Hp mf mc'->G P fn Post (nx (adv P st) v) u' (mf.or mc'))(h:Aj P (adv P st)=.call f args:=by kernel_rfl)(hdr:Vl (adv P st)=true:=by kernel_rfl):G P fn Post st u (mf.or mc):=G.callA f args h hdr hc rfl hd c k
end
section
variable {k n:Nat}{q:Rat}{s:Src}{ts:List Int}{u:PH}
def A0c {x:Int}(m:-9223372036854775808<=x)(t:x<=9223372036854775807)(e:0<n)(h:n<=1000000) :
 zF 56 [zI x,zI n] u fun v _=>∃ r:Nat,v=zI r/\r<n:=by
 refine Fn0.o func56<|G.lF n 1 ?_;have a1:=Baj x (show (0:Int)<n by omega);have a2:=Bak x (show (0:Int)<n by omega);refine G.remZ x (n:Int) (x.tmod n) kV oV oV rfl<|G.add (x.tmod n) (n:Int) (x.tmod n+n) kV rfl oV oV ?_;obtain⟨y,j⟩:∃ y:Nat,x.tmod n+n=(y:Int):=⟨(x.tmod n+n).toNat,oV⟩;exact G.remZ (x.tmod n+n) (n:Int) ((y%n:Nat):Int) kV oV oV (by rw[j,A47 oV];rfl)<|G.r _ ⟨rfl,y%n,rfl,A29 _ e⟩
def Azm (s:Src)(n:Nat)(v:Value)(m':PH):Prop:=∃ r k:Nat,v=zI r/\r<n/\k<=s.n/\m'=s.M k
def I4 (h:J0 u s ts)(H:k<=s.n)(I:0<n)(C:n<=1000000) :
 Ag prog 14 [s.ptr,zI n] u (s.M k) fun v _ Q=>Azm s n v Q:=by
 have E:=h.n;have L:=h.le;refine Ag.o func14<|G.f 102 s.g 0 1 1<|G.v none (s.cell1 k)<|G.f 102 s.g 0 0 0<|G.v none (s.cell0 k) ?_;by_cases t:k<s.n
 ·refine G.hF k s.n<|G.f 102 s.g 0 1 1<|G.v none (s.cell1 k)<|G.i k<|G.f 102 s.g 0 1 1<|G.storeM 1 s.g (0+1) 102 [.slice s.a s.n s.c,zI k] (zI (k+1:Nat)) kV (Ab _ _ _) (fun x J=>by simp at J;rcases J with rfl|rfl<;>rfl) mV rfl rfl ?_
  have e:(s.M k).upd s.g (.cells (([Value.slice s.a s.n s.c,zI k].take (0+1))++(Value.int .i64 (k+1:Nat)).cells.toList++([Value.slice s.a s.n s.c,zI k].drop (0+1+1))).toArray 102 (0,0))=s.M (k+1):=by
   unfold Src.M;rw[Dp];rfl
  rw[e];refine G.f 102 s.g 0 0 0<|G.v none (s.cell0 (k+1))<|G.f 102 s.g 0 1 1<|G.v none (s.cell1 (k+1))<|G.s (k+1:Nat) 1 k ?_;have m:k<ts.length:=oV;obtain⟨b,off,F,K⟩:=Ac.at' h.list (j:=k) (e:=zI ts[k]) (by simp[Fc,A01 m]);obtain⟨g,a,R,c⟩:=s;simp only at F t H E;subst F;refine G.N R c t K<|G.c call56 (A0c (h.lo _ (A09 m)) (h.hi _ (A09 m)) I C) ?_;rintro V U T ⟨r,rfl,P⟩;exact G.r _ ⟨r,k+1,rfl,P,dV,rfl⟩
 exact G.hT k s.n<|G.r zO ⟨0,k,rfl,I,H,rfl⟩
def Anm {lo hi:Int}(h:J0 u s ts)(E:k<=s.n)(F:-1000000<=lo)(C:lo<=1000000)(H:hi-lo+1=(n:Int))(m:0<n)(t:n<=1000000) :
 Ag prog 181 [s.ptr,zI lo,zI hi] u (s.M k) fun v _ J=>∃ (r:Nat) (e:Nat),v=zI (lo+(r:Int))/\r<n/\e<=s.n/\J=s.M e:=by
 refine Ag.o func181<|G.sub hi lo (hi-lo) kV rfl oV oV<|G.add (hi-lo) 1 (n:Int) kV H oV oV<|G.A call14 (I4 h E m t) ?_;rintro Q P L K ⟨r,e,rfl,I,j,rfl⟩ _;rw[By];exact G.add lo (r:Int) (lo+(r:Int)) kV rfl oV oV<|G.r _ ⟨r,e,rfl,I,j,rfl⟩
def Aer {v:Value}{L:List Int}(h:J0 u s ts)(I:k<=s.n)(t:Ac u v 1 (Fc L))(E:0<L.length)(F:L.length<=1000000) :
 Ag prog 88 [s.ptr,v] u (s.M k) fun v _ K=>∃ z∈L,∃ m:Nat,v=zI z/\m<=s.n/\K=s.M m:=by
 obtain⟨a,c,rfl⟩:=t.opn;rw[Cq]at t⊢;refine Ag.o func88<|G.A call14 (I4 h I E F) ?_;rintro R Q P J ⟨r,m,rfl,H,C,rfl⟩ _;rw[By];obtain⟨b,off,rfl,e⟩:=Ac.at' (t.mono J) (j:=r) (e:=zI L[r]) (by simp[Fc,A01 H]);exact G.N L.length c H e<|G.r _ ⟨L[r],A09 H,m,rfl,C,rfl⟩
structure SmR (q:Rat):Prop where
 num:q.num.natAbs<=9
 den:q.den ∣ 12
def SmR.le (h:SmR q):q.den<=12:=A48 oV h.den
def SmR.tx (h:SmR q):Tx q:=⟨A04 (Cz (k:=2) oV (by have:=h.num;omega)) oV,A04 (Cz (k:=2) oV (by have:=h.le;omega)) oV⟩
def SmR.sz (h:SmR q):Sz q 1:=⟨A4 (by have:=h.num;omega),A4 (by have:=h.le;omega)⟩
structure SmW (q:Rat):Prop where
 num:q.num.natAbs<=1545
 den:q.den ∣ 12
def SmR.w (h:SmR q):SmW q:=⟨A04 h.num oV,h.den⟩
def SmW.le (h:SmW q):q.den<=12:=A48 oV h.den
def SmW.tx (h:SmW q):Tx q:=⟨A04 (Cz (k:=4) oV (by have:=h.num;omega)) oV,A04 (Cz (k:=2) oV (by have:=h.le;omega)) oV⟩
def SmW.sz (h:SmW q):Sz q 1:=⟨A4 (by have:=h.num;omega),A4 (by have:=h.le;omega)⟩
end
section
section rules
variable [Cl] {P:Program} [A6 P] {fn:Func} {Post:Ce} {st:List KI×S} {u m:PH}
def G.appendM (e:TypeId)(sz W:Nat)(z:Value)(m0:PH)(es xs:zV)(v:Value)(b off n c:Nat)(h:Aj P (adv P st)=.app (some (e,sz,W,z)) true [v,.slice (some ⟨b,off,none⟩) n c])(hz:z.cells.toList.all Ax=true)(U:z.cells.size=sz)(I:0<sz)
 (ha:Af m0 m v e sz es) (hx:Hc m b off sz xs) (X:A9 sz xs) (hn:xs.length=n) (R:0<n) (hb:(es.length+n)*W<=140737488355328) (J:es.length+n<=9223372036854775807)
 (k:∀ C j,Af m0 j C e sz (es++xs)->G P fn Post (nx (adv P st) C) u j):G P fn Post st u m:=by
 refine G.big (K:=fun C Y j=>Y=u/\Af m0 j C e sz (es++xs)) h mV (fun F V T=>(Ew (P:=P) (o:=⟨none,V,0, "",#[],none⟩) T).2.1) (.inr fun F V T=>(Ew (P:=P) (o:=⟨none,V,0, "",#[],none⟩) T).1) (fun F o E w H=>?_) (fun C Y j _ Q=>?_)
 ·obtain⟨_,_,t,hi,L⟩:=Ew (P:=P) E;obtain⟨C,w',j,Z,h2,h3,h4⟩:=Rz (P:=P) m0 es xs v b off n c o.type hi hz U I ha X hn R hb J H (hx.cells I X H.pm);refine B8 (w':=w') (v:=C) ?_ ⟨u,j,h2,h3,rfl,h4⟩;rw[L w,Z];rfl
 obtain⟨rfl,Q⟩:=Q;exact k C j Q
end rules
def Src.h0 (s:Src)(k k':Nat)(g:Nat):s.M k g=none\/s.M k' g≠none:=by
 by_cases e:g=s.g
 ·subst e;right;unfold Src.M;rw[Ab];simp
 left;unfold Src.M;rw[Ad _ _ e];rfl
def As9 {u:PH}{v:Value}{ts:List Int}(h:Ac u v 1 (Fc ts))(H:ts.length<=600)(E:∀ t∈ts,-9223372036854775808<=t)(F:∀ t∈ts,t<=9223372036854775807) :
 Ag prog 9 [v] u PH.mt fun K J I=>∃ s:Src,K=s.ptr/\I=s.M 0/\J0 J s ts:=by
 have e:∃ a c,v=.slice a ts.length c/\ts.length<=c:=by
  obtain⟨a,c,j,C,_⟩:=h;rw[Cq]at j C;exact⟨a,c,j,C⟩
 obtain⟨a,c,rfl,e⟩:=e;refine Ag.o func9<|G.minI [3,3] (ts.length:Int) 600 (ts.length:Int) kV oV<|G.sliceTo 1 a ts.length c ts.length kV e<|G.pub 1006 102 [.slice a ts.length c,zO] kV kV ?_;intro g Q L;exact G.r (.pointer (zA g)) ⟨⟨g,a,ts.length,c⟩,rfl,rfl,h,rfl,H,E,F⟩
def Src.bag0 (s:Src)(k:Nat){l:List Arr}(h:Bag PH.mt l):Bag (s.M k) (s.arr k::l):=by
 have:=Src.at (s:=s) (k:=k) (m0:=PH.mt) rfl;rw[By]at this;exact⟨PH.mt,this,h⟩
def Aff {o l:Arr}{e:List Arr}:(l::o::e).Perm (o::(e++[l])):=by
 refine (List.Perm.swap _ _ _).trans (List.Perm.cons _ ?_);exact (List.perm_append_singleton l e).symm
def Avd {M:zM}{q:zR}(i:Nat):gM (M++[q]) i=if i<M.length then gM M i else if i=M.length then q else []:=by
 unfold gM;rw[A02];by_cases e:i<M.length
 ·rw[if_pos e,A1r e,A02]
 rw[if_neg e,A18 oV];by_cases h:i=M.length
 ·rw[if_pos h,h,A4i];rfl
 rw[if_neg h,A1v gV];rfl
end
section
variable {l o s:Arr}{rows:List Arr}
def Aor :(s::l::o::rows).Perm (s::o::(rows++[l])):=List.Perm.cons _ Aff
def S8 :(l::s::o::rows).Perm (s::o::(rows++[l])):=(List.Perm.swap _ _ _).trans Aor
def Un {rows:List (Value×zV)}{i:Nat}{r r':Value×zV}(h:rows[i]?=some r)(e:r'.1=r.1):(rows.set i r').map (·.1)=rows.map (·.1):=by
 rw[A2g];apply A4g;intro j;rw[A1z];split
 ·rename_i e';subst e';have t:i<rows.length:=by
   rcases A2e i rows.length with m|m
   ·exact m
   rw[A1v m]at h;cases h
  rw[if_pos (by simpa using t),A1a,h,e];rfl
 rfl
end
def Axo {n:Nat}(f:Nat->Rat){j:Nat}(e:j<n):gR ((List.range n).map f) j=f j:=by
 unfold gR;rw[A02,A1a,A31 e];rfl
section
variable {X:zM}{c i n p r w:Nat}
def El (X:zM)(c:Nat):Nat->Nat->Nat
 |0,p=>p
 |f+1,p=>if gR (gM X p) c=0 then El X c f (p+1) else p
def If (X:zM)(p r:Nat):zM:=(X.set p (gM X r)).set r (gM X p)
def Kn (f:Rat)(row:zR):zR:=row.map (· / f)
def P9 (g:Rat)(R row:zR):zR:=(List.range row.length).map fun k=>gR row k-g*gR R k
def Js (r c:Nat):Nat->Nat->zM->zM
 |0,_,X=>X
 |f+1,i,X=>Js r c f (i+1) (if i=r\/gR (gM X i) c=0 then X else X.set i (P9 (gR (gM X i) c) (gM X r) (gM X i)))
def Xt (X:zM)(r c:Nat):zM:=X.set r (Kn (gR (gM X r) c) (gM X r))
def J8 (X:zM)(r c p:Nat):zM:=Js r c X.length 0 (Xt (if p=r then X else If X p r) r c)
def Bn:Nat->Nat->zK->zM->Rat->zK×zM×Rat
 |0,_,P,X,d=>(P,X,d)
 |f+1,c,P,X,d =>
  if P.length<X.length then
   if El X c (X.length-P.length) P.length=X.length then Bn f (c+1) P X d
   else Bn f (c+1) (P++[c]) (J8 X P.length c (El X c (X.length-P.length) P.length)) ((if El X c (X.length-P.length) P.length=P.length then d else 0-d)*gR (gM X (El X c (X.length-P.length) P.length)) c)
  else (P,X,d)
def Rec (n w:Nat)(X:zM):Prop:=X.length=n/\∀ i,i<n->(gM X i).length=w
def en (X:zM)(i j:Nat):Rat:=gR (gM X i) j
def Ss (X:zM)(c:Nat):∀ f p,p<=El X c f p/\El X c f p<=p+f
 |0,p=>by simp[El]
 |f+1,p=>by
  unfold El;split
  ·have:=Ss X c f (p+1);omega
  omega
def Yq (X:zM)(c:Nat):∀ f p i,p<=i->i<El X c f p->en X i c=0
 |0,p,i,h1,h2=>by simp[El]at h2;omega
 |f+1,p,i,h1,h2=>by
  unfold El at h2;split at h2
  ·rename_i h;by_cases e:i=p
   ·subst e;exact h
   exact Yq X c f (p+1) i oV h2
  omega
def W7 (X:zM)(c:Nat):∀ f p,El X c f p<p+f->en X (El X c f p) c≠0
 |0,p,h=>by simp[El]at h
 |f+1,p,h=>by
  unfold El at h⊢;split at h
  ·rename_i h0;rw[if_pos h0];exact W7 X c f (p+1) oV
  rename_i h0;rw[if_neg h0];exact h0
def I8 {r:zR}(h:Rec n w X)(hi:i<n)(m:r.length=w):Rec n w (X.set i r):=by
 refine⟨by simp[h.1],fun j e=>?_⟩;rw[Kb (by rw[h.1];exact hi)];split
 ·exact m
 exact h.2 j e
def Mk (h:Rec n w X)(hp:p<n)(e:r<n):Rec n w (If X p r) :=
 I8 (I8 h hp (h.2 r e)) e (h.2 p hp)
def Si (h:Rec n w X)(hp:p<n)(t:r<n)(i j:Nat):en (If X p r) i j=if i=r then en X p j else if i=p then en X r j else en X i j:=by
 unfold en If;rw[Kb (by simp[h.1];exact t),Kb (by rw[h.1];exact hp)];by_cases e:r=i
 ·rw[if_pos e,if_pos e.symm]
 rw[if_neg e,if_neg (show ¬ i=r by omega)];by_cases m:p=i
 ·rw[if_pos m,if_pos m.symm]
 rw[if_neg m,if_neg (show ¬ i=p by omega)]
theorem Ahx (f:Rat)(row:zR)(j:Nat):gR (Kn f row) j=gR row j/f:=by
 unfold gR Kn;rw[A02,A02,A1a];cases row[j]?<;>simp<;>grind
def Ai0 (g:Rat)(R row:zR){j:Nat}(e:j<row.length):gR (P9 g R row) j=gR row j-g*gR R j:=by
 unfold P9;exact Axo _ e
def R8 (h:Rec n w X)(e:r<n):Rec n w (Xt X r c) :=
 I8 h e (by simp[Kn,h.2 r e])
theorem Jd (h:Rec n w X)(t:r<n)(i j:Nat):en (Xt X r c) i j=if i=r then en X i j*(1/en X r c) else en X i j:=by
 unfold en Xt;rw[Kb (by rw[h.1];exact t)];by_cases e:r=i
 ·subst e;rw[if_pos rfl,if_pos rfl,Ahx];grind
 rw[if_neg e,if_neg (fun m=>e m.symm)]
def Al9 {n w r c:Nat}(e:r<n):∀ f i X,i+f<=n->Rec n w X->Rec n w (Js r c f i X)
 |0,i,X,_,h=>h
 |f+1,i,X,hf,h=>by
  unfold Js;refine Al9 e f (i+1) _ oV ?_;split
  ·exact h
  exact I8 h oV (by simp[P9,h.2 i oV])
theorem Abq (h:Rec n w X)(hi:i<n)(k j:Nat)(u:j<w):en (if i=r\/gR (gM X i) c=0 then X else X.set i (P9 (gR (gM X i) c) (gM X r) (gM X i))) k j=if k=i/\i≠r then en X i j-en X i c*en X r j else en X k j:=by
 by_cases e:i=r
 ·rw[if_pos (.inl e),if_neg oV]
 by_cases m:gR (gM X i) c=0
 ·rw[if_pos (.inr m)];split
  ·rename_i hk;rw[hk.1];unfold en;rw[m];grind
  rfl
 rw[if_neg (by simp[e,m])];unfold en;rw[Kb (by rw[h.1];exact hi)];by_cases t:i=k
 ·subst t;rw[if_pos rfl,if_pos ⟨rfl,e⟩,Ai0 _ _ _ (by rw[h.2 i hi];exact u)]
 rw[if_neg t,if_neg oV]
def Acm {n w r c:Nat}(C:r<n)(m:c<w):∀ f i X,i+f<=n->Rec n w X->∀ k j,j<w->en (Js r c f i X) k j=if i<=k/\k<i+f/\k≠r then en X k j-en X k c*en X r j else en X k j
 |0,i,X,_,h,k,j,hj=>by rw[if_neg oV];rfl
 |f+1,i,X,hf,h,k,j,hj=>by
  unfold Js;have u:Rec n w (if i=r\/gR (gM X i) c=0 then X else X.set i (P9 (gR (gM X i) c) (gM X r) (gM X i))):=by
   split
   ·exact h
   exact I8 h oV (by simp[P9,h.2 i oV])
  rw[Acm C m f (i+1) _ oV u k j hj,Abq h oV k j hj,Abq h oV k c m,Abq h oV r j hj];rw[if_neg (show ¬ (r=i/\i≠r) by omega)];by_cases t:k=i
  ·subst t;rw[if_neg oV];by_cases e:k=r
   ·rw[if_neg oV,if_neg oV]
   rw[if_pos ⟨rfl,e⟩,if_pos ⟨oV,oV,e⟩]
  rw[if_neg (show ¬ (k=i/\i≠r) by omega),if_neg (show ¬ (k=i/\i≠r) by omega)];by_cases e:i+1<=k/\k<i+1+f/\k≠r
  ·rw[if_pos e,if_pos ⟨oV,oV,e.2.2⟩]
  rw[if_neg e,if_neg oV]
def Xw (h:Rec n w X)(e:r<n)(hp:p<n):Rec n w (J8 X r c p):=by
 unfold J8;rw[h.1];refine Al9 e n 0 _ oV (R8 ?_ e);split
 ·exact h
 exact Mk h hp e
def Yb:∀ f c P X d,(Bn f c P X d).1.length<=P.length+f
 |0,c,P,X,d=>by simp[Bn]
 |f+1,c,P,X,d=>by
  unfold Bn;split
  ·split
   ·have:=Yb f (c+1) P X d;omega
   have:=Yb f (c+1) (P++[c]) (J8 X P.length c (El X c (X.length-P.length) P.length)) ((if El X c (X.length-P.length) P.length=P.length then d else 0-d)*gR (gM X (El X c (X.length-P.length) P.length)) c);rw[A1d]at this;simp at this⊢;omega
  simp
end
def And {u:PH}{v:Value}{A:zM}(h:C7 u v (Cv A))(F:Sq A):zF 61 [v] u fun v' _=>v'=.tuple #[zI A.length,zI A.length,zO]:=by
 obtain⟨a,c,rfl⟩:=h.opn;rw[A3]at h⊢;have a0:=F.le;refine Fn0.o func61 ?_;by_cases h0:0<A.length
 ·refine G.gT A.length 0 ?_;obtain⟨L,R,a1,c1,rfl,t,C⟩:=h.row (Dw (A01 h0));rw[A03,F.len h0]at t C;refine G.N A.length c h0 t ?_;clear t C;obtain⟨a,Z⟩:∃ a:zP,a=some ⟨L,R,none⟩:=⟨_,rfl⟩;rw[<-Z]at h⊢;clear Z;refine G.gF A.length 12<|G.l (ι:=Nat) (fun i=>[(0,sV a A.length c),(5,iV A.length),(21,iV A.length),(22,iV i)]) (fun _=>[])
   (fun i V E=>i<=A.length/\E=PH.mt) (fun i=>A.length-i) 0 ⟨oV,rfl⟩ ?_
  rintro J1 i H u1 m1 P ⟨hi,rfl⟩;by_cases m:i<A.length
  ·refine G.lT i A.length ?_;obtain⟨L,R,a1,c1,rfl,t,C⟩:=(h.mono P).row (Dw (A01 m));rw[A03,F.len m]at t C;exact G.N A.length c m t<|G.gF A.length 12<|G.i i<|G.b (H (i+1) _ _ _ cV P ⟨oV,rfl⟩ oV)
  obtain rfl:i=A.length:=oV;clear m;refine G.lF A.length A.length ?_;clear H;refine G.l (ι:=Nat) (fun i=>[(0,sV a A.length c),(5,iV A.length),(33,iV A.length),(34,iV i)]) (fun _=>[])
   (fun i V E=>i<=A.length/\E=PH.mt) (fun i=>A.length-i) 0 ⟨oV,rfl⟩ ?_
  rintro J2 i I u2 m2 l2 ⟨hi,rfl⟩;by_cases m:i<A.length
  ·refine G.lT i A.length ?_;obtain⟨L,R,a1,c1,rfl,t,C⟩:=(h.mono (P.trans l2)).row (Dw (A01 m));rw[A03,F.len m]at t C;exact G.N A.length c m t<|G.nF A.length A.length<|G.i i<|G.b (I (i+1) _ _ _ cV l2 ⟨oV,rfl⟩ oV)
  obtain rfl:i=A.length:=oV;clear m;refine G.lF A.length A.length ?_;clear I;refine G.l (ι:=Nat) (fun i=>[(0,sV a A.length c),(5,iV A.length),(46,iV A.length),(47,iV i)]) (fun _=>[])
   (fun i V E=>i<=A.length/\E=PH.mt) (fun i=>A.length-i) 0 ⟨oV,rfl⟩ ?_
  rintro J3 i T u3 m3 W ⟨hi,rfl⟩;by_cases m:i<A.length
  ·refine G.lT i A.length ?_;obtain⟨L,R,a1,c1,rfl,t,C⟩:=(h.mono ((P.trans l2).trans W)).row (Dw (A01 m));rw[A03,F.len m]at t C;refine G.N A.length c m t<|G.l (ι:=Nat) (fun k=>[(0,sV (some ⟨L,R,none⟩) A.length c),(5,iV A.length),(46,iV A.length),(47,iV i),(8,iV i),(54,iV A.length),(55,iV k)]) (fun _=>[])
    (fun k V E=>k<=A.length/\E=PH.mt) (fun k=>A.length-k) 0 ⟨oV,rfl⟩ ?_
   rintro J4 k U u4 m4 Q ⟨hk,rfl⟩;by_cases K:k<A.length
   ·refine G.lT k A.length ?_;have J:k<A[i].length:=by rw[F.len m];exact K
    obtain⟨b2,o2,rfl,X⟩:=Ac.at' (Ac.mono C Q) (j:=k) (e:=zS (Ae A[i][k])) (by simp[Cc,A01 J]);refine G.N A.length c m (t.mono Q)<|G.N A.length c1 K X<|G.c call24 (Ee (F.tx' m J)) ?_;rintro v5 u5 Y rfl;exact G.i k<|G.b (U (k+1) _ _ _ cV (Q.trans Y) ⟨oV,rfl⟩ oV)
   exact G.lF k A.length<|G.i i<|G.b (T (i+1) _ _ _ cV (W.trans Q) ⟨oV,rfl⟩ oV)
  exact G.lF i A.length<|G.z (.tuple #[zI A.length,zI A.length,zO])
 refine G.gF A.length 0 ?_;have hz:(A.length:Int)=0:=oV;refine G.gF A.length 12<|G.l (ι:=Nat) (fun i=>[(0,sV a A.length c),(5,iV 0),(21,iV A.length),(22,iV i)]) (fun _=>[])
  (fun i V E=>i<=A.length/\E=PH.mt) (fun i=>A.length-i) 0 ⟨oV,rfl⟩ ?_
 rintro J1 i H u1 m1 P ⟨hi,rfl⟩;by_cases m:i<A.length
 ·refine G.lT i A.length ?_;obtain⟨L,R,a1,c1,rfl,t,C⟩:=(h.mono P).row (Dw (A01 m));rw[A03,F.len m]at t C;exact G.N A.length c m t<|G.gF A.length 12<|G.i i<|G.b (H (i+1) _ _ _ cV P ⟨oV,rfl⟩ oV)
 obtain rfl:i=A.length:=oV;clear m;refine G.lF A.length A.length ?_;clear H;refine G.l (ι:=Nat) (fun i=>[(0,sV a A.length c),(5,iV 0),(33,iV A.length),(34,iV i)]) (fun _=>[])
  (fun i V E=>i<=A.length/\E=PH.mt) (fun i=>A.length-i) 0 ⟨oV,rfl⟩ ?_
 rintro J2 i I u2 m2 l2 ⟨hi,rfl⟩;by_cases m:i<A.length
 ·refine G.lT i A.length ?_;obtain⟨L,R,a1,c1,rfl,t,C⟩:=(h.mono (P.trans l2)).row (Dw (A01 m));rw[A03,F.len m]at t C;exact G.N A.length c m t<|G.nF A.length 0<|G.i i<|G.b (I (i+1) _ _ _ cV l2 ⟨oV,rfl⟩ oV)
 obtain rfl:i=A.length:=oV;clear m;refine G.lF A.length A.length ?_;clear I;refine G.l (ι:=Nat) (fun i=>[(0,sV a A.length c),(5,iV 0),(46,iV A.length),(47,iV i)]) (fun _=>[])
  (fun i V E=>i<=A.length/\E=PH.mt) (fun i=>A.length-i) 0 ⟨oV,rfl⟩ ?_
 rintro J3 i T u3 m3 W ⟨hi,rfl⟩;by_cases m:i<A.length
 ·refine G.lT i A.length ?_;obtain⟨L,R,a1,c1,rfl,t,C⟩:=(h.mono ((P.trans l2).trans W)).row (Dw (A01 m));rw[A03,F.len m]at t C;refine G.N A.length c m t<|G.l (ι:=Nat) (fun k=>[(0,sV (some ⟨L,R,none⟩) A.length c),(5,iV 0),(46,iV A.length),(47,iV i),(8,iV i),(54,iV A.length),(55,iV k)]) (fun _=>[])
   (fun k V E=>k<=A.length/\E=PH.mt) (fun k=>A.length-k) 0 ⟨oV,rfl⟩ ?_
  rintro J4 k U u4 m4 Q ⟨hk,rfl⟩;by_cases K:k<A.length
  ·refine G.lT k A.length ?_;have J:k<A[i].length:=by rw[F.len m];exact K
   obtain⟨b2,o2,rfl,X⟩:=Ac.at' (Ac.mono C Q) (j:=k) (e:=zS (Ae A[i][k])) (by simp[Cc,A01 J]);refine G.N A.length c m (t.mono Q)<|G.N A.length c1 K X<|G.c call24 (Ee (F.tx' m J)) ?_;rintro v5 u5 Y rfl;exact G.i k<|G.b (U (k+1) _ _ _ cV (Q.trans Y) ⟨oV,rfl⟩ oV)
  exact G.lF k A.length<|G.i i<|G.b (T (i+1) _ _ _ cV (W.trans Q) ⟨oV,rfl⟩ oV)
 exact G.lF i A.length<|G.r (.tuple #[zI A.length,zO,zO]) ⟨rfl,by rw[hz]⟩
section
variable {n:Nat}
structure B3 where
 b:Bool
 a:zP
 n:Nat
 c:Nat
def bv (f:B3):Value:=.agg #[.bool f.b,.slice f.a f.n f.c]
def bc (f:B3):List SV:=[.v (.bool f.b),.v (.slice f.a f.n f.c)]
def Do.opB {u:PH}{v:Value}{z:Int}(h:Do u v z):∃ f,v=bv f:=by
 obtain⟨b,a,n,c,rfl,_⟩:=h.opn;exact⟨⟨b,a,n,c⟩,rfl⟩
def nl1 (h:n<1000000000):nl n<=1:=A4 (by simpa using h)
def nlN (h:n<1000000000):nl ((n:Int)).natAbs<=1:=by rw[A1s];exact nl1 h
end
structure Q4 where
 b:Bool
 a:zP
 n:Nat
 c:Nat
 a':zP
 n':Nat
 c':Nat
def qv (f:Q4):Value:=.agg #[.bool f.b,.slice f.a f.n f.c,zL,.slice f.a' f.n' f.c']
def qc (f:Q4):List SV:=[.v (.bool f.b),.v (.slice f.a f.n f.c),.v zL,.v (.slice f.a' f.n' f.c')]
def QP.opQ {u:PH}{v:Value}{q:Rat}(h:QP u v q):∃ f,v=qv f:=by
 obtain⟨b,a,n,c,e,m,j,rfl,_⟩:=h.opn;exact⟨⟨b,a,n,c,e,m,j⟩,rfl⟩
section
variable {M:zM}{m m0 u:PH}{q:zR}{r:Value×zV}{rows:List (Value×zV)}{v:Value}
def zQ:Value:=.agg #[zL,zN,zL,zN]
def Akh (f:Q4):A9 4 [qv f]:=by
 intro x e;simp at e;subst e;exact⟨rfl,fun y h=>by simp[qv,Value.cells]at h;rcases h with rfl|rfl|rfl|rfl<;>rfl⟩
def Ej (r:Value×zV):Arr:=⟨r.1,69,4,r.2⟩
def oQ (v:Value)(rows:List (Value×zV)):Arr:=⟨v,131,1,rows.map (·.1)⟩
def Rg :(Ej r).At m0 m=Af m0 m r.1 69 4 r.2:=rfl
def Al7 :(oQ v rows).At m0 m=Af m0 m v 131 1 (rows.map (·.1)):=rfl
def QAt (u:PH)(rows:List (Value×zV))(M:zM):Prop:=rows.length=M.length/\∀ (i:Nat) (r:Value×zV),rows[i]?=some r->AtP QP u r.2 (gM M i)
def QAt.mono {u e:PH}{rows:List (Value×zV)}{M:zM}(h:QAt u rows M)(j:PH.le u e):QAt e rows M:=⟨h.1,fun i r t=>(h.2 i r t).mono (fun _ _ k=>k.mono j)⟩
def QAt.set {i:Nat}(h:QAt u rows M)(hi:i<rows.length)(C:AtP QP u r.2 q):QAt u (rows.set i r) (M.set i q):=by
 refine⟨by simp[h.1],fun j r' t=>?_⟩;rw[Kb (by rw[<-h.1];exact hi)];rw[A1z]at t;by_cases e:i=j
 ·subst e;rw[if_pos rfl,if_pos hi]at t;simp only[A1f]at t;rw[if_pos rfl,<-t];exact C
 rw[if_neg e]at t⊢;exact h.2 j r' t
def QAt.snoc (h:QAt u rows M)(j:AtP QP u r.2 q):QAt u (rows++[r]) (M++[q]):=by
 refine⟨by simp[h.1],fun i r' hi=>?_⟩;rw[Avd];by_cases e:i<rows.length
 ·rw[A1r e]at hi;rw[if_pos (by rw[<-h.1];exact e)];exact h.2 i r' hi
 rw[A18 oV]at hi;have t:i-rows.length=0:=by
  rcases A2a (i-rows.length) with h0|h0
  ·exact h0
  rw[A1v gV]at hi;cases hi
 rw[t]at hi;simp at hi;subst hi;rw[if_neg (by rw[<-h.1];exact e),if_pos (by rw[<-h.1];omega)];exact j
def M2 {α:Type}{l:List α}{k:Nat}(h:k<l.length):l.take (k+1)=l.take k++[l[k]]:=by
 rw[A1n,A01 h];rfl
def Ane {A:zM}(h:C7 u v (Cv A))(hs:Sq A) :
 Ag prog 62 [v] u PH.mt fun v' u' m'=>∃ a c rows,v'=.slice a A.length c/\QAt u' rows A/\Bag m' (oQ (.slice a A.length c) rows::rows.map Ej):=by
 obtain⟨a0,c0,rfl⟩:=h.opn;rw[A3]at h⊢;have a5:=hs.le;refine Ag.o func62<|G.l (ι:=Nat×(zP×Nat)×List (Value×zV)) (fun i=>[(0,sV a0 A.length c0),(3,sV i.2.1.1 i.1 i.2.1.2),(9,iV A.length),(10,iV i.1)]) (fun _=>[])
  (fun i u' m'=>i.1<=A.length/\QAt u' i.2.2 (A.take i.1)/\Bag m' (oQ (.slice i.2.1.1 i.1 i.2.1.2) i.2.2::i.2.2.map Ej))
  (fun i=>A.length-i.1) (0,(none,0),[]) ⟨A1t _,⟨rfl,fun j r hj=>by simp at hj⟩,PH.mt,Af.nil _ _ _,trivial⟩ ?_
 rintro J ⟨i,⟨a,c⟩,rows⟩ hJ u1 m1 l1 ⟨hi,Y,F⟩;simp only at hi Y F hJ;have a4:rows.length=i:=by rw[Y.1,A1e];omega
 by_cases H:i<A.length
 ·refine G.lT i A.length ?_;obtain⟨b1,o1,a1,c1,rfl,e1,e2⟩:=(h.mono l1).row (Dw (A01 H));have T:=hs.len H;rw[A03,T]at e1 e2;refine G.N A.length c0 H e1<|G.l (ι:=Nat×(zP×Nat)×zV) (fun j=>[(0,sV (some ⟨b1,o1,none⟩) A.length c0),(3,sV a i c),(9,iV A.length),(10,iV i),(5,sV j.2.1.1 j.1 j.2.1.2),(16,sV a1 A.length c1),(17,iV A.length),(18,iV j.1)]) (fun _=>[])
   (fun j u' m'=>j.1<=A.length/\AtP QP u' j.2.2 (A[i].take j.1)/\Bag m' (Ej (.slice j.2.1.1 j.1 j.2.1.2,j.2.2)::oQ (.slice a i c) rows::rows.map Ej))
   (fun j=>A.length-j.1) (0,(none,0),[]) ⟨A1t _,AtP.nil,m1,Af.nil _ _ _,F⟩ ?_
  rintro J2 ⟨j,⟨K,L⟩,es⟩ X u2 m2 l2 ⟨hj,E,C⟩;simp only at hj E C X;have a3:es.length=j:=by rw[E.1,A1e];omega
  by_cases P:j<A.length
  ·refine G.lT j A.length ?_;have U:j<A[i].length:=by rw[T];exact P
   obtain⟨b2,o2,rfl,e3⟩:=Ac.at' (Ac.mono e2 l2) (j:=j) (e:=zS (Ae A[i][j])) (by simp[Cc,A01 U]);refine G.N A.length c1 P e3<|G.c call27 (G8 (hs.tx' H U)) ?_;intro v4 u4 l4 k4;obtain⟨W,rfl⟩:=k4.opQ;refine G.B 69 4 64 zQ [qv W] (Akh W) ?_;intro g5 u5 V e5;obtain⟨mm,I,a2⟩:=C;rw[Rg]at I;refine G.append 69 4 64 zQ mm es [qv W] (.slice K j L) g5 0 1 1 kV rfl rfl oV I e5 (Akh W) rfl oV oV oV ?_;intro v6 m6 t;obtain⟨a6,c6,rfl⟩:=t.shape;have el:(es++[qv W]).length=j+1:=by simp[a3]
   rw[el]at t⊢;refine G.i j<|G.b (X (j+1,(a6,c6),es++[qv W]) _ _ _ cV ((l2.trans l4).trans V) ⟨dV,?_,mm,t,a2⟩ dV);dsimp only;rw[M2 U];exact (E.mono (fun _ _ k=>k.mono (l4.trans V))).snoc (k4.mono V)
  obtain rfl:j=A.length:=oV;refine G.lF A.length A.length ?_;have hA:A[i].take A.length=A[i]:=by rw[<-T];exact A15
  rw[hA]at E;refine G.B 131 1 24 zN [.slice K A.length L] (B5 _ _ _) ?_;intro g5 u5 V e5;obtain⟨m0,I,Z⟩:=C.focus 1 rfl;rw[Al7]at I;refine G.k 131 1 24 zN m0 (rows.map (·.1)) [.slice K A.length L] (.slice a i c) g5 0 1 1 I e5 (B5 _ _ _) ?_;intro v6 m6 t;have em:rows.map (·.1)++[Value.slice K A.length L]=(rows++[(Value.slice K A.length L,es)]).map (·.1):=mV;rw[em]at t;obtain⟨a6,c6,rfl⟩:=t.shape;have el:((rows++[(Value.slice K A.length L,es)]).map (·.1)).length=i+1:=by simp[a4]
  rw[el]at t⊢;have Q:=Z (oQ (.slice a6 (i+1) c6) (rows++[(Value.slice K A.length L,es)])) m6 t;have R:=Bag.perm Aff Q;refine G.i i<|G.b (hJ (i+1,(a6,c6),rows++[(Value.slice K A.length L,es)]) _ _ _ cV ((l1.trans l2).trans V) ⟨dV,?_,by simpa using R⟩ dV);dsimp only;rw[M2 H];exact (Y.mono (l2.trans V)).snoc (E.mono (fun _ _ k=>k.mono V))
 obtain rfl:i=A.length:=oV;refine G.lF A.length A.length ?_;rw[A15]at Y;exact G.r (.slice a A.length c) ⟨a,c,rows,rfl,Y,F⟩
end
section
variable [Cl] [Co] [Pu]
def Aws:List KI->Bool
 |.code (.region _ _ _)::_=>true
 |_=>false
def Ff (P:Program):Nat->List KI×S->List KI×S
 |0,st=>st
 |n+1,st=>cond (Aws st.1) st (match one P st.1 st.2 with|some st'=>Ff P n st'|none=>st)
section rules
variable {P:Program} [A6 P] {fn:Func} {Post:Ce} {st:List KI×S} {u m:PH}
def Mq:∀ (n:Nat) (st:List KI×S),Sym P fn Post (Ff P n st).1 (Ff P n st).2 u m->Sym P fn Post st.1 st.2 u m
 |0,st,h=>h
 |n+1,st,h=>by
  unfold Ff at h;cases hn:Aws st.1 with
  |true=>simp[hn]at h;exact h
  |false =>
   simp only[hn,cond_false]at h;split at h
   ·rename_i st' he;obtain⟨e,j⟩:=st';exact Pa A6.mx he (Mq n _ h)
   exact h
def G.canon (T:List (Nat×SV))(B:List (Nat×Blk))(h:F2 (Ff P 200 st).1=true)(t:Up T B=true)(h0:Cov (Ff P 200 st).2.n (Ff P 200 st).2 T B)(k:G P fn Post ((Ff P 200 st).1,S.of (Ff P 200 st).2.n T B) u m):G P fn Post st u m:=by
 refine⟨Mq 200 st ?_⟩;have j:=k.out;rw[Sym.ofNo h]at j⊢;intro c ρ a w e C;exact j c ρ a w e (C.cov h0 t)
def G.join {ι:Type}(b:Value)(T:ι->List (Nat×SV))(B:ι->List (Nat×Blk))(C:ι->PH->PH->Prop)(L:∀ i,Up (T i) (B i)=true)(Q:F2 (Ff P 200 (nx (adv P st) b)).1=true)
 (E:∀ i h j,PH.le u h->C i h j->G P fn Post ((Ff P 200 (nx (adv P st) b)).1,S.of (Ff P 200 (nx (adv P st) b)).2.n (T i) (B i)) h j)
 (k:(∀ i e h j,(Ff P 200 e).1=(Ff P 200 (nx (adv P st) b)).1->Cov (Ff P 200 (nx (adv P st) b)).2.n (Ff P 200 e).2 (T i) (B i)->PH.le u h->C i h j->G P fn Post e h j)->G P fn Post st u m):G P fn Post st u m:=by
 refine k fun i e h j H F I J=>?_;have K:Cov (Ff P 200 e).2.n (Ff P 200 e).2 (T i) (B i):=⟨rfl,F.t,F.b⟩;refine G.canon (T i) (B i) (by rw[H];exact Q) (L i) K ?_;rw[H,F.n];exact E i h j I J
end rules
end
section
variable {R Y:zR}{X:zM}{i k n s w:Nat}{r:Value×zV}{rows:List (Value×zV)}{v:Value}
def Np (v:Value)(P:zK):Arr:=⟨v,3,1,Ai P⟩
def Aka {P:zK}{m0 m:PH}:(Np v P).At m0 m=Af m0 m v 3 1 (Ai P):=rfl
def Ka {s o:Arr}(h:rows[i]?=some r):(s::o::rows.map Ej)[i+2]?=some (Ej r):=by simp[h]
def Afw {s o:Arr}:(s::o::rows.map Ej).set (i+2) (Ej r)=s::o::(rows.set i r).map Ej:=by
 rw[A2j,A2j,A2g]
def Apm {x:Value}{es es':zV}(h:rows[i]?=some (x,es)):oQ v (rows.set i (x,es'))=oQ v rows:=by
 unfold oQ;rw[Un (r':=(x,es')) h rfl]
def Agr {u m:PH}{pa:Arr}{g n c w i:Nat}(C:Bag m (pa::oQ (zG g n c) rows::rows.map Ej))(Q:QAt u rows X)(L:Rec n w X)(hi:i<n)(W:0<w) :
 ∃ H J F,rows[i]?=some (zG H w J,F)/\F.length=w/\AtP QP u F (gM X i)/\ElP m g (0+i*1) (zG H w J)/\∀ j,j<w->∃ f,F[j]?=some (qv f)/\QP u (qv f) (gR (gM X i) j)/\ElP m H (0+j*4) (qv f):=by
 have V:rows.length=n:=by rw[Q.1,L.1]
 have h:rows[i]?=some rows[i]:=A01 oV;have t:=Q.2 i _ h;obtain⟨⟨Z,F⟩,T⟩:∃ x,rows[i]=x:=⟨_,rfl⟩;rw[T]at h t;simp only at t;have E:F.length=w:=by rw[t.1,L.2 i hi]
 obtain⟨H,J,e⟩:=C.ptr (i+2) (Ka h) (by intro e;simp only[Ej]at e;rw[e]at E;simp at E;omega);simp only[Ej]at e;rw[E]at e;subst e;refine⟨H,J,F,h,E,t,C.el 1 (x:=oQ _ rows) rfl rfl (by show (rows.map (·.1))[i]?=_;rw[A1a,h];rfl),fun j U=>?_⟩;have I:j<(gM X i).length:=by rw[L.2 i hi];exact U
 obtain⟨e,P,K⟩:=t.at I;obtain⟨f,rfl⟩:=K.opQ;rw[<-Cu I]at K;exact⟨f,P,K,C.el (i+2) (x:=Ej _) (Ka h) rfl P⟩
def es (s:Nat):Nat->Nat
 |0=>s
 |k+1=>4*es s k+2
def Apd (s:Nat){k l:Nat}(h:k<=l):es s k<=es s l:=by
 induction l with
 |zero =>
  have:k=0:=oV;subst this;exact A08 _
 |succ l ih =>
  rcases A2e k (l+1) with e|e
  ·have:=ih oV;show es s k<=4*es s l+2;omega
  have:k=l+1:=oV;subst this;exact A08 _
def Axr (h:1<=s)(k:Nat):1<=es s k:=A04 h (Apd s (A1t k))
def SzM.at {n w s i j:Nat}(h:SzM X s)(e:Rec n w X)(hi:i<n)(m:j<w):Sz (gR (gM X i) j) s:=h i j (by rw[e.1];exact hi) (by rw[e.2 i hi];exact m)
def Aco (e:Rec n w X)(h:∀ i j,i<n->j<w->Sz (gR (gM X i) j) s):SzM X s:=fun i j hi m=>by
 rw[e.1]at hi;rw[e.2 i hi]at m;exact h i j hi m
def Az7 {q:Rat}:decide (q.num=0)=decide (q=0):=decide_eq_decide.2 A4r
def Tj (Y R:zR)(k:Nat):zR:=Y.take k++R.drop k
def Aa3 (Y R:zR):Tj Y R 0=R:=by simp[Tj]
def Ad7 (h:Y.length=k)(e:R.length=k):Tj Y R k=Y:=by
 unfold Tj;rw[A1j oV,A2b oV,A1x]
def Agl (h:Y.length=R.length)(e:k<=R.length):(Tj Y R k).length=R.length:=by simp[Tj];omega
def Af8 (h:Y.length=R.length)(e:k<R.length):(Tj Y R k).set k (gR Y k)=Tj Y R (k+1):=by
 unfold Tj;rw[A4t _ _ gV];simp only[A1e];rw[show k-min k Y.length=0 by omega,A5z e,A2p,M2 oV,A2k,Cu oV];rfl
def Al3 (h:Y.length=R.length)(e:k<R.length):gR (Tj Y R k) k=gR R k:=by
 unfold Tj gR;rw[A02,A18 gV,A02];simp only[A1e];rw[show k-min k Y.length=0 by omega,A39];rfl
end
structure ES where
 c:Nat
 P:zK
 pa:zP
 pc:Nat
 rows:List (Value×zV)
 X:zM
 f:Q4
 d:Rat
structure E2 where
 rows:List (Value×zV)
 X:zM
 f:Q4
 d:Rat
def Ai8 {n w p r E:Nat}{X:zM}(h:Rec n w X)(hp:p<n)(m:r<n)(t:SzM X E):Rec n w (if p=r then X else If X p r)/\SzM (if p=r then X else If X p r) E/\∀ j,gR (gM (if p=r then X else If X p r) r) j=gR (gM X p) j:=by
 by_cases e:p=r
 ·rw[if_pos e];exact⟨h,t,fun j=>by rw[e]⟩
 rw[if_neg e];refine⟨Mk h hp m,Aco (Mk h hp m) (fun i j hi u=>?_),fun j=>?_⟩
 ·show Sz (en (If X p r) i j) E;rw[Si h hp m];split
  ·exact t.at h hp u
  split
  ·exact t.at h m u
  exact t.at h hi u
 show en (If X p r) r j=_;rw[Si h hp m,if_pos rfl];rfl
def Ny {α:Type}{l:List α}{i:Nat}{x:α}(h:l[i]?=some x):l.set i x=l:=by
 obtain⟨e,j⟩:=A05.1 h;rw[<-j];exact A9w e
def Ary (F:Rat)(R:zR):(Kn F R).length=R.length:=by simp[Kn]
def Apn (g:Rat)(R S:zR):(P9 g R S).length=S.length:=by simp[P9]
def Apb {u m:PH}{a:zP}{C:Nat}{a7:List (Value×zV)}{X0:zM}{n w h s:Nat}(d8:Rec n w X0)(hn:n<=100)(hw:w<=100)(dw:h<=w)(bi:SzM X0 s)(hs:1<=s)(bs:es s h<=1000000000)
 (cc:QAt u a7 X0) (ap:Bag m (oQ (.slice a n C) a7::a7.map Ej)) :
 Ag prog 139 [.slice a n C,zI h] u m fun v u' m'=>∃ pa pc f T,v=.tuple #[.slice pa (Bn h 0 [] X0 1).1.length pc,qv f]/\QP u' (qv f) (Bn h 0 [] X0 1).2.2/\QAt u' T (Bn h 0 [] X0 1).2.1 /\
  Bag m' (Np (.slice pa (Bn h 0 [] X0 1).1.length pc) (Bn h 0 [] X0 1).1::oQ (.slice a n C) T::T.map Ej):=by
 refine Ag.o func139<|G.c call22 (P6 (z:=1) oV oV) ?_;intro v1 u1 l1 k1;rw[show ((1:Int):Rat)=1 from by decide]at k1;obtain⟨f1,rfl⟩:=k1.opQ;refine G.l (ι:=ES) (fun i=>[(0,sV a n C),(1,iV h),(5,.p 1 0),(6,sV i.pa i.P.length i.pc),(7,.p 2001 0),(8,iV i.c)]) (fun i=>[(1,⟨69,[bF,sN,bF,sN]⟩),(2001,⟨69,qc i.f⟩)])
  (fun i u' m'=>i.c<=h/\i.P.length<=i.c/\Bn (h-i.c) i.c i.P i.X i.d=Bn h 0 [] X0 1/\Rec n w i.X/\SzM i.X (es s i.c)/\Sz i.d (es s i.c)/\QP u' (qv i.f) i.d/\QAt u' i.rows i.X/\Bag m' (Np (.slice i.pa i.P.length i.pc) i.P::oQ (.slice a n C) i.rows::i.rows.map Ej))
  (fun i=>h-i.c) ⟨0,[],none,0,a7,X0,f1,1⟩ ⟨A1t _,A08 _,rfl,d8,bi,(Adt (z:=1) fV).mono hs,k1,cc.mono l1,m,Af.nil _ _ _,ap⟩ ?_
 rintro J ⟨c,P,pa,pc,I,X,f,d⟩ hJ u2 m2 l2 ⟨hc,d7,a0,hX,an,ad,hf,hQ,V⟩;simp only at hc d7 a0 hX an ad hf hQ V hJ;clear ap cc bi k1;have aq:Bn (h-c) c P X d=(P,X,d)->∃ d3 d4 f' T,(Value.tuple #[.slice pa P.length pc,qv f])=.tuple #[.slice d3 (Bn h 0 [] X0 1).1.length d4,qv f']/\QP u2 (qv f') (Bn h 0 [] X0 1).2.2/\QAt u2 T (Bn h 0 [] X0 1).2.1/\Bag m2 (Np (.slice d3 (Bn h 0 [] X0 1).1.length d4) (Bn h 0 [] X0 1).1::oQ (.slice a n C) T::T.map Ej):=by
  intro e;rw[e]at a0;rw[<-a0];exact⟨pa,pc,f,I,rfl,hf,hQ,V⟩
 by_cases dh:h<=c
 ·exact G.lF c h<|G.r (.tuple #[.slice pa P.length pc,qv f]) (aq (by rw[show h-c=0 by omega];rfl))
 have dh:c<h:=oV;refine G.lT c h ?_;obtain⟨K,hK⟩:∃ K,h-c=K+1:=⟨h-c-1,oV⟩;by_cases hP:n<=P.length
 ·exact G.lF P.length n<|G.r (.tuple #[.slice pa P.length pc,qv f]) (aq (by rw[hK,Bn,if_neg (by rw[hX.1];omega)]))
 clear aq;have hP:P.length<n:=oV;refine G.lT P.length n ?_;have b1:0<w:=oV;have c0:I.length=n:=by rw[hQ.1,hX.1]
 obtain⟨go,ds,eo⟩:=V.ptr 1 rfl (by intro e;simp only[oQ,A6c]at e;rw[e]at c0;simp at c0;omega);simp only[oQ,A03,c0,Value.slice.injEq,true_and]at eo;obtain⟨rfl,rfl⟩:=eo;have df:=Axr hs c;have cn:4*es s c+2<=1000000000:=A04 (Apd s (show c+1<=h by omega)) bs;obtain⟨E,hE⟩:∃ E,E=es s c:=⟨_,rfl⟩;have c7:es s (c+1)=4*E+2:=by rw[hE];rfl
 rw[<-hE]at an ad df cn;refine G.l (ι:=Nat) (fun p=>[(0,sV (zA go) n C),(1,iV h),(5,.p 1 0),(6,sV pa P.length pc),(7,.p 2001 0),(8,iV c),(9,iV P.length),(10,iV p)]) (fun _=>[(1,⟨69,[bF,sN,bF,sN]⟩),(2001,⟨69,qc f⟩)])
  (fun p u' m'=>P.length<=p/\p<=n/\El X c (n-p) p=El X c (n-P.length) P.length/\m'=m2) (fun p=>n-p) P.length ⟨A08 _,oV,rfl,rfl⟩ ?_
 rintro J2 p ca u3 m3 l3 ⟨dy,dz,aw,rfl⟩;have L:=hQ.mono l3;have b8:=hf.mono l3;by_cases ab:n<=p
 ·obtain rfl:p=n:=oV;refine G.lF p p<|G.eT' p p rfl<|G.i c<|G.b (hJ ⟨c+1,P,pa,pc,I,X,f,d⟩ _ _ _ cV (l2.trans l3) ⟨dV,dV,?_,hX,an.mono dV,ad.mono dV,b8,L,V⟩ dV);dsimp only;rw[<-a0,hK,Bn,if_pos (by rw[hX.1];exact hP),hX.1,<-aw,if_pos (by rw[A4i];rfl),show h-(c+1)=K by omega]
 have ab:p<n:=oV;refine G.lT p n ?_;obtain⟨K2,bm⟩:∃ K2,n-p=K2+1:=⟨n-p-1,oV⟩;obtain⟨gp,cp,ep,cv,dk,c6,av,cl⟩:=Agr V L hX ab b1;obtain⟨fp,dj,cq,ct⟩:=cl c oV;have bj:=an.at hX ab (show c<w by omega);refine G.O n C ab av<|G.o w cp ct<|G.c call81 (Nt cq (A04 bj.1 oV)) ?_;rintro v4 u4 l4 rfl;rw[Az7];by_cases hz:gR (gM X p) c=0
 ·rw[decide_eq_true hz];refine G.i p<|G.b (ca (p+1) _ _ _ cV (l3.trans l4) ⟨oV,oV,?_,rfl⟩ oV);rw[<-aw,bm,El,if_pos hz,show n-(p+1)=K2 by omega]
 rw[decide_eq_false hz];rw[bm,El,if_neg hz]at aw;clear ca;refine G.eF p n<|G.join (ι:=E2) zL (fun i=>[(0,sV (zA go) n C),(1,iV h),(5,.p 1 0),(6,sV pa P.length pc),(7,.p 2001 0),(8,iV c),(9,iV P.length)]) (fun i=>[(1,⟨69,[bF,sN,bF,sN]⟩),(2001,⟨69,qc i.f⟩)])
  (fun i u' m'=>i.X=(if p=P.length then X else If X p P.length)/\i.d=(if p=P.length then d else 0-d)/\QAt u' i.rows i.X/\QP u' (qv i.f) i.d/\Bag m' (Np (.slice pa P.length pc) P::oQ (zG go n C) i.rows::i.rows.map Ej)) (fun _=>kV) kV ?tail ?way
 case way =>
  intro au;by_cases bb:p=P.length
  ·refine G.nF p P.length ?_;exact au ⟨I,X,f,d⟩ _ _ _ kV cV (PH.le_refl _) ⟨by rw[if_pos bb],by rw[if_pos bb],L.mono l4,b8.mono l4,V⟩
  refine G.nT p P.length ?_;obtain⟨gr,cr,er,am,bh,ao,al,bq⟩:=Agr V L hX hP b1;refine G.O n C hP al<|G.O n C ab av ?_;obtain⟨m0,a1,a8⟩:=V.focus 1 rfl;rw[Al7]at a1;refine G.a go 0 n C p 1 ab<|G.storeA 1 m0 _ go n C p (zG gr w cr) kV a1 gV rfl rfl ?_;intro m5 dm;refine G.a go 0 n C P.length 1 hP<|G.storeA 1 m0 _ go n C P.length (zG gp w cp) kV dm gV rfl rfl ?_;intro m6 cy;have c1:((I.map (·.1)).set p (Value.slice (zA gr) w cr)).set P.length (Value.slice (zA gp) w cp)=((I.set p (Value.slice (zA gr) w cr,er)).set P.length (Value.slice (zA gp) w cp,ep)).map (·.1):=by rw[A2g,A2g]
  rw[c1]at cy;have d9:=a8 (oQ (zG go n C) ((I.set p (Value.slice (zA gr) w cr,er)).set P.length (Value.slice (zA gp) w cp,ep))) m6 cy;have bx:((I.set p (Value.slice (zA gr) w cr,er)).set P.length (Value.slice (zA gp) w cp,ep)).Perm I:=by
   obtain⟨q1,q2⟩:=A05.1 cv;obtain⟨q3,q4⟩:=A05.1 am;rw[<-q2,<-q4];exact List.set_set_perm q1 q3
  have da:=Bag.perm (List.Perm.cons _ (List.Perm.cons _ (bx.symm.map Ej))) d9;have aa:=(L.set (i:=p) (r:=(Value.slice (zA gr) w cr,er)) oV ao).set (i:=P.length) (r:=(Value.slice (zA gp) w cp,ep)) gV c6;refine G.c call22 (P6 (z:=0) oV oV) ?_;intro v8 u8 l8 k8;rw[show ((0:Int):Rat)=0 from by decide]at k8;obtain⟨f8,rfl⟩:=k8.opQ;refine G.c call32 (Adl k8 (b8.mono (l4.trans l8)) (Q3.mono oV) (ad.mono oV)) ?_;intro v9 u9 l9 k9;obtain⟨f9,rfl⟩:=k9.opQ;exact au ⟨(I.set p (Value.slice (zA gr) w cr,er)).set P.length (Value.slice (zA gp) w cp,ep),If X p P.length,f9,0-d⟩ _ _ _ kV cV (l8.trans l9) ⟨by rw[if_neg bb],by rw[if_neg bb],aa.mono (l4.trans (l8.trans l9)),k9,da⟩
 rintro⟨rows1,X1,f1',d1⟩ u5 m5 l5 ⟨hX1e,hd1e,aa,hf1,hbag1⟩;simp only at hX1e hd1e aa hf1 hbag1;obtain⟨a5,ah,af⟩:=Ai8 hX ab hP an;have ay:Sz (if p=P.length then d else 0-d) (E+2):=by
  split
  ·exact ad.mono oV
  exact (Akj Q3 ad).mono oV
 have az:Bn (h-c) c P X d=Bn (h-(c+1)) (c+1) (P++[c]) (Js P.length c n 0 (Xt X1 P.length c)) (d1*gR (gM X1 P.length) c):=by
  rw[hK,Bn,if_pos (by rw[hX.1];exact hP),hX.1,<-aw,if_neg oV,show h-(c+1)=K by omega,hX1e,hd1e,af];unfold J8;rw[hX.1]
 rw[<-hX1e]at a5 ah af;rw[<-hd1e]at ay;rw[az]at a0;have bd:gR (gM X1 P.length) c≠0:=by rw[af];exact hz
 clear az hX1e hd1e af V hQ L b8 hf an ad aw cv dk c6 av cl dj cq ct bj hz bm;have cu:rows1.length=n:=by rw[aa.1,a5.1]
 obtain⟨gr,cr,er,am,bh,ao,al,bq⟩:=Agr hbag1 aa a5 hP b1;obtain⟨fr,h5,h6,h7⟩:=bq c oV;obtain⟨R,hR⟩:∃ R,R=gM X1 P.length:=⟨_,rfl⟩;have cd:R.length=w:=by rw[hR];exact a5.2 _ hP
 have bp:∀ j,j<w->Sz (gR R j) E:=fun j hj=>by rw[hR];exact ah.at a5 hP hj
 rw[<-hR]at h6 ao a0;obtain⟨F,hF⟩:∃ F,F=gR R c:=⟨_,rfl⟩;have b4:Sz F E:=by rw[hF];exact bp c oV
 rw[<-hF]at h6 a0;rw[<-hR,<-hF]at bd;refine G.O n C hP al<|G.o w cr h7<|G.c call28 (Gh hf1 h6 (ay.mono oV) (b4.mono oV)) ?_;intro v6 u6 l6 k6;obtain⟨f6,rfl⟩:=k6.opQ;refine G.O n C hP al<|G.o w cr h7<|G.O n C hP al ?_;have br:=Ary F R;have c8:F≠0:=bd;refine G.l (ι:=Nat×zV) (fun i=>[(0,sV (zA go) n C),(1,iV h),(5,.p 1 0),(6,sV pa P.length pc),(7,.p 2001 0),(8,iV c),(9,iV P.length),(11,.p 15007 0),(92,iV w),(93,iV i.1)]) (fun i=>[(1,⟨69,[bF,sN,bF,sN]⟩),(2001,⟨69,qc f6⟩),(15007,⟨69,qc fr⟩)])
  (fun i u' m'=>i.1<=w/\AtP QP u' i.2 (Tj (Kn F R) R i.1)/\Bag m' (Np (.slice pa P.length pc) P::oQ (zG go n C) rows1::(rows1.set P.length ((Value.slice (zA gr) w cr),i.2)).map Ej)) (fun i=>w-i.1) (0,er)
  ⟨A1t _,by rw[Aa3];exact ao.mono (fun _ _ k=>k.mono l6),by rw[Ny am];exact hbag1⟩ ?_
 rintro J3 ⟨k,es1⟩ bl u7 m7 l7 ⟨hk,U,H⟩;simp only at hk U H bl;have ba:=Agl (k:=k) (br.trans rfl) oV;have cm:es1.length=w:=by rw[U.1,ba,cd]
 have a2:(rows1.set P.length ((Value.slice (zA gr) w cr),es1))[P.length]?=some ((Value.slice (zA gr) w cr),es1):=by rw[A1z];simp[cu,hP]
 by_cases b9:k<w
 ·refine G.lT k w ?_;obtain⟨e,e1,e2⟩:=U.at (j:=k) oV;obtain⟨fe,rfl⟩:=e2.opQ;rw[<-Cu oV,Al3 br oV]at e2;have ho:ElP m7 go (0+P.length*1) (Value.slice (zA gr) w cr):=H.el 1 (x:=oQ (zG go n C) rows1) rfl rfl (by show (rows1.map (·.1))[P.length]?=_;rw[A1a,am];rfl);have he:ElP m7 gr (0+k*4) (qv fe):=H.el (P.length+2) (x:=Ej ((Value.slice (zA gr) w cr),es1)) (Ka a2) rfl e1;refine G.O n C hP ho<|G.O n C hP ho<|G.O w cr b9 he<|G.c call82 (At6 e2 (h6.mono (l6.trans l7)) ((bp k b9).mono oV) (b4.mono oV) c8) ?_;intro v8 u8 l8 k8;obtain⟨f8,rfl⟩:=k8.opQ;obtain⟨m0,a1,a8⟩:=H.focus (P.length+2) (Ka a2);rw[Rg]at a1;refine G.a gr 0 w cr k 4 b9<|G.storeA 4 m0 es1 gr w cr k (qv f8) kV a1 oV rfl rfl ?_;intro m9 dp;have cj:=a8 (Ej ((Value.slice (zA gr) w cr),es1.set k (qv f8))) m9 dp;rw[Afw,A6r]at cj;refine G.i k<|G.b (bl (k+1,es1.set k (qv f8)) _ _ _ cV (l7.trans l8) ⟨dV,?_,cj⟩ dV);dsimp only;rw[<-Af8 br oV,Ahx];exact (U.mono (fun _ _ k=>k.mono l8)).set k k8
 obtain rfl:k=w:=oV;refine G.lF k k ?_;rw[Ad7 oV cd]at U;clear bl ba b9 hk h7 al bq h5;have b6:Rec n k (X1.set P.length (Kn F R)):=I8 a5 hP oV;have be:Xt X1 P.length c=X1.set P.length (Kn F R):=by unfold Xt;rw[<-hR,<-hF]
 rw[be]at a0;have bo:=(aa.mono (l6.trans l7)).set (i:=P.length) (r:=((Value.slice (zA gr) k cr),es1)) oV U;rw[<-Apm (es':=es1) am]at H;have a6:∀ i,gM (X1.set P.length (Kn F R)) i=if P.length=i then Kn F R else gM X1 i:=fun i=>Kb (by rw[a5.1];exact hP)
 generalize rows1.set P.length ((Value.slice (zA gr) k cr),es1)=rows2 at *
 obtain⟨X2,bf⟩:∃ X2,X2=X1.set P.length (Kn F R):=⟨_,rfl⟩;rw[<-bf]at b6 bo a0 a6;have b7:∀ j,j<k->Sz (gR (Kn F R) j) (2*E):=fun j hj=>by rw[Ahx];exact (Arz (bp j hj) b4 c8).mono oV
 have b0:∀ i j,i<n->j<k->i≠P.length->Sz (gR (gM X2 i) j) E:=fun i j hi hj bu=>by rw[a6,if_neg (fun e=>bu e.symm)];exact ah.at a5 hi hj
 have ax:gM X2 P.length=Kn F R:=by rw[a6,if_pos rfl]
 clear bf be aa hbag1 a6 ah a5 am bh ao U a2 cm cu;refine G.l (ι:=Nat×List (Value×zV)×zM) (fun i=>[(0,sV (zA go) n C),(1,iV h),(5,.p 1 0),(6,sV pa P.length pc),(7,.p 2001 0),(8,iV c),(9,iV P.length),(113,iV n),(114,iV i.1)]) (fun i=>[(1,⟨69,[bF,sN,bF,sN]⟩),(2001,⟨69,qc f6⟩)])
  (fun i u' m'=>i.1<=n/\Js P.length c (n-i.1) i.1 i.2.2=Js P.length c n 0 X2/\Rec n k i.2.2/\gM i.2.2 P.length=Kn F R/\(∀ x j,i.1<=x->x<n->j<k->x≠P.length->Sz (gR (gM i.2.2 x) j) E)/\SzM i.2.2 (4*E+2)/\QAt u' i.2.1 i.2.2/\Bag m' (Np (.slice pa P.length pc) P::oQ (zG go n C) i.2.1::i.2.1.map Ej))
  (fun i=>n-i.1) (0,rows2,X2) ⟨A1t _,rfl,b6,ax,fun x j _ hx hj bu=>b0 x j hx hj bu,Aco b6 (fun x j hx hj=>?_),bo,H⟩ ?_
 ·by_cases e:x=P.length
  ·rw[e,ax];exact (b7 j hj).mono oV
  exact (b0 x j hx hj e).mono oV
 clear H bo b0 ax b6;rintro J4 ⟨i,t,X3⟩ b5 u8 m8 l8 ⟨hi,aj,Z,a3,a4,a9,L,Q⟩;simp only at hi aj Z a3 a4 a9 L Q b5;have dl:t.length=n:=by rw[L.1,Z.1]
 by_cases W:i<n
 ·refine G.lT i n ?_;obtain⟨K3,bn⟩:∃ K3,n-i=K3+1:=⟨n-i-1,oV⟩;by_cases ak:i=P.length
  ·refine G.eT i P.length<|G.i i<|G.b (b5 (i+1,t,X3) _ _ _ cV l8 ⟨dV,?_,Z,a3,fun x j h1=>a4 x j (by dsimp only at h1;omega),a9,L,Q⟩ dV);dsimp only;rw[<-aj,bn,Js,if_pos (.inl ak),show n-(i+1)=K3 by omega]
  refine G.eF i P.length ?_;obtain⟨gi,ci,ei,bz,dg,c5,bw,dc⟩:=Agr Q L Z W b1;obtain⟨fg,g5,g6,g7⟩:=dc c oV;have ar:=a4 i c (A08 _) W (show c<k by omega) ak;refine G.O n C W bw<|G.o k ci g7<|G.c call81 (Nt g6 (A04 ar.1 oV)) ?_;rintro v9 u9 l9 rfl;rw[Az7];by_cases ag:gR (gM X3 i) c=0
  ·rw[decide_eq_true ag];refine G.i i<|G.b (b5 (i+1,t,X3) _ _ _ cV (l8.trans l9) ⟨dV,?_,Z,a3,fun x j h1=>a4 x j (by dsimp only at h1;omega),a9,L.mono l9,Q⟩ dV);dsimp only;rw[<-aj,bn,Js,if_pos (.inr ag),show n-(i+1)=K3 by omega]
  rw[decide_eq_false ag];obtain⟨S,hS⟩:∃ S,S=gM X3 i:=⟨_,rfl⟩;have ce:S.length=k:=by rw[hS];exact Z.2 i W
  have cg:∀ j,j<k->Sz (gR S j) E:=fun j hj=>by rw[hS];exact a4 i j (A08 _) W hj ak
  have ck:Js P.length c (n-(i+1)) (i+1) (X3.set i (P9 (gR S c) (Kn F R) S))=Js P.length c n 0 X2:=by
   rw[<-aj,bn,Js,if_neg (by simp[ak,ag]),show n-(i+1)=K3 by omega,hS,a3]
  rw[<-hS]at g6 ar c5;generalize hg:gR S c=g at *
  have c2:=Apn g (Kn F R) S;refine G.O n C W bw<|G.o k ci g7<|G.O n C W bw ?_;obtain⟨gs,cs,c4,cw,dr,dv,dx,dd⟩:=Agr Q L Z hP b1;refine G.l (ι:=Nat×zV) (fun y=>[(0,sV (zA go) n C),(1,iV h),(5,.p 1 0),(6,sV pa P.length pc),(7,.p 2001 0),(8,iV c),(9,iV P.length),(113,iV n),(114,iV i),(13,iV i),(14,.p 25007 0),(141,iV k),(142,iV y.1)]) (fun y=>[(1,⟨69,[bF,sN,bF,sN]⟩),(2001,⟨69,qc f6⟩),(25007,⟨69,qc fg⟩)])
   (fun y u' m'=>y.1<=k/\AtP QP u' y.2 (Tj (P9 g (Kn F R) S) S y.1)/\Bag m' (Np (.slice pa P.length pc) P::oQ (zG go n C) t::(t.set i ((Value.slice (zA gi) k ci),y.2)).map Ej)) (fun y=>k-y.1) (0,ei)
   ⟨A1t _,by rw[Aa3];exact c5.mono (fun _ _ k=>k.mono l9),by rw[Ny bz];exact Q⟩ ?_
  rintro J5 ⟨y,Y⟩ cb e0 b3 b2 ⟨hy,U,H⟩;simp only at hy U H cb;have ba:=Agl (k:=y) c2 oV;have cm:Y.length=k:=by rw[U.1,ba,ce]
  have a2:(t.set i ((Value.slice (zA gi) k ci),Y))[i]?=some ((Value.slice (zA gi) k ci),Y):=by rw[A1z];simp[dl,W]
  have bt:(t.set i ((Value.slice (zA gi) k ci),Y))[P.length]?=some (Value.slice (zA gs) k cs,c4):=by rw[A1z,if_neg ak];exact cw
  by_cases ae:y<k
  ·refine G.lT y k ?_;obtain⟨e,e1,e2⟩:=U.at (j:=y) oV;obtain⟨fe,rfl⟩:=e2.opQ;rw[<-Cu oV,Al3 c2 oV]at e2;have ho:ElP b3 go (0+i*1) (Value.slice (zA gi) k ci):=H.el 1 (x:=oQ (zG go n C) t) rfl rfl (by show (t.map (·.1))[i]?=_;rw[A1a,bz];rfl);have av:ElP b3 go (0+P.length*1) (Value.slice (zA gs) k cs):=H.el 1 (x:=oQ (zG go n C) t) rfl rfl (by show (t.map (·.1))[P.length]?=_;rw[A1a,cw];rfl);have he:ElP b3 gi (0+y*4) (qv fe):=H.el (i+2) (x:=Ej ((Value.slice (zA gi) k ci),Y)) (Ka a2) rfl e1;obtain⟨fs,s5,s6,_⟩:=dd y ae;rw[a3]at s6;have bs:ElP b3 gs (0+y*4) (qv fs):=H.el (P.length+2) (x:=Ej (Value.slice (zA gs) k cs,c4)) (Ka bt) rfl s5;refine G.O n C W ho<|G.O n C W ho<|G.O k ci ae he<|G.O n C hP av<|G.O k cs ae bs<|G.c call28 (Gh (g6.mono (l9.trans b2)) (s6.mono (l9.trans b2)) (ar.mono oV) ((b7 y ae).mono oV)) ?_;intro e6 e3 c3 cz;obtain⟨du,rfl⟩:=cz.opQ;have di:=Fx ar (b7 y ae);refine G.c call32 (Adl (e2.mono c3) cz ((cg y ae).mono oV) (di.mono oV)) ?_;intro e7 e4 d2 d0;obtain⟨bk,rfl⟩:=d0.opQ;obtain⟨m0,a1,a8⟩:=H.focus (i+2) (Ka a2);rw[Rg]at a1;refine G.a gi 0 k ci y 4 ae<|G.storeA 4 m0 Y gi k ci y (qv bk) kV a1 oV rfl rfl ?_;intro dq cx;have bg:=a8 (Ej ((Value.slice (zA gi) k ci),Y.set y (qv bk))) dq cx;rw[Afw,A6r]at bg;refine G.i y<|G.b (cb (y+1,Y.set y (qv bk)) _ _ _ cV ((b2.trans c3).trans d2) ⟨dV,?_,bg⟩ dV);dsimp only;rw[<-Af8 c2 oV,Ai0 _ _ _ oV];exact (U.mono (fun _ _ k=>k.mono (c3.trans d2))).set y d0
  obtain rfl:y=k:=oV;refine G.lF y y ?_;rw[Ad7 oV ce]at U;rw[<-Apm (es':=Y) bz]at H;refine G.i i ?_;have ch:Rec n y (X3.set i (P9 g (Kn F R) S)):=I8 Z W oV;have ac:∀ x,gM (X3.set i (P9 g (Kn F R) S)) x=if i=x then P9 g (Kn F R) S else gM X3 x:=fun x=>Kb (by rw[Z.1];exact W)
  refine G.b (b5 (i+1,t.set i ((Value.slice (zA gi) y ci),Y),X3.set i (P9 g (Kn F R) S)) _ _ _ cV ((l8.trans l9).trans b2) ⟨dV,ck,ch,?_,?_,?_,?_,H⟩ dV)
  ·dsimp only;rw[ac,if_neg ak];exact a3
  ·intro x j h1 h2 h3 h4;dsimp only at h1⊢;rw[ac,if_neg oV];exact a4 x j oV h2 h3 h4
  ·refine Aco ch (fun x j hx hj=>?_);rw[ac];split
   ·rw[Ai0 _ _ _ oV];exact (Akj (cg j hj) (Fx ar (b7 j hj))).mono oV
   exact a9.at Z hx hj
  exact (L.mono (l9.trans b2)).set (i:=i) (r:=((Value.slice (zA gi) y ci),Y)) oV U
 obtain rfl:i=n:=oV;refine G.lF i i ?_;rw[A4i,Js]at aj;rw[<-aj]at a0;refine G.B 3 1 8 zO [zI c] (Av [c]) ?_;intro g9 u9 l9 e9;obtain⟨m0,a1,db⟩:=Q;rw[Aka]at a1;have dg:(Ai P).length=P.length:=by simp[Ai]
 refine G.append 3 1 8 zO m0 (Ai P) [zI c] (.slice pa P.length pc) g9 0 1 1 kV rfl rfl oV a1 e9 (Av [c]) rfl oV oV oV ?_;intro e5 b3 ai;rw[show Ai P++[Value.int .i64 c]=Ai (P++[c]) by simp[Ai]]at ai;obtain⟨d5,d6,rfl⟩:=ai.shape;have el:(Ai (P++[c])).length=(P++[c]).length:=by simp[Ai]
 rw[el]at ai⊢;refine G.i c<|G.b (hJ ⟨c+1,P++[c],d5,d6,t,X3,f6,d1*F⟩ _ _ _ cV ((((((l2.trans l3).trans l4).trans l5).trans l6).trans l7).trans (l8.trans l9)) ⟨dV,gV,a0,Z,?_,?_,k6.mono ((l7.trans l8).trans l9),L.mono l9,m0,ai,db⟩ dV)
 ·dsimp only;rw[c7];exact a9
 dsimp only;rw[c7];exact (Fx ay b4).mono oV
section
open Go.MapKept
variable {et t:TypeId}{g:Nat}{o:Obj}{w:World}
structure Zk (P:Program)(kt:TypeId){κ:Type}[DecidableEq κ](enc:κ->Value):Prop where
 eq:∀ a b w,(Op.equal kt (enc a) (enc b)).run P w=.ok (decide (a=b)) w
 now:∃ d,P.underlying kt=some d/\((∀ a b,Instr.sameNow d (enc a) (enc b)=none)\/(∀ a b,Instr.sameNow d (enc a) (enc b)=some (decide (a=b))))
 chk:∀ e a w,(Instr.checkKey e 10000 kt (enc a)).run P w=.ok () w
 bits:∀ a,Instr.sameBits 10000 (enc a) (enc a)=true
 inj:∀ a b,enc a=enc b->a=b
def Hu {κ:Type}(enc:κ->Value)(o:Obj)(l:List (κ×Value)):Prop :=
 ∃ es clock,o=.map es clock/\es.toList.map (fun e=>(e.key,e.val))=l.map (fun p=>(enc p.1,p.2))/\Stamped es clock
def Ik {κ:Type}[DecidableEq κ](a:κ):List (κ×Value)->Option Value
 |[]=>none
 |(b,v)::l=>if a=b then some v else Ik a l
def Lr {κ:Type}[DecidableEq κ](a:κ)(x:Value):List (κ×Value)->List (κ×Value)
 |[]=>[(a,x)]
 |(b,v)::l=>if a=b then (b,x)::l else (b,v)::Lr a x l
def Awn {κ:Type}[DecidableEq κ](a:κ):List (κ×Value)->List (κ×Value)
 |[]=>[]
 |(b,v)::l=>if a=b then l else (b,v)::Awn a l
def Iw {κ:Type}[DecidableEq κ](a:κ):List (κ×Value)->Nat->Option (Nat×Value)
 |[],_=>none
 |(b,v)::l,i=>if a=b then some (i,v) else Iw a l (i+1)
def Alm (z:Value)(r:Option Value)(ok:Bool):Value:=match r with|some v=>(if ok then .tuple #[v,.bool true] else v)|none=>(if ok then .tuple #[z,.bool false] else z)
def M4 {α β:Type}{f:α->β}{l:List α}(h:(l.map f).Nodup):l.Nodup:=(List.pairwise_map.1 h).imp fun h e=>h (by rw[e])
section
variable {κ:Type} [DecidableEq κ] {enc:κ->Value}
def Aah (a:κ):∀ (l:List (κ×Value)) (i:Nat),(Iw a l i).map (·.2)=Ik a l
 |[],_=>rfl
 |(b,v)::l,i=>by
  unfold Iw Ik;split
  ·rfl
  exact Aah a l (i+1)
def Xc {a:κ}:∀ {l:List (κ×Value)} {i:Nat},Iw a l i=none->a∉l.map (·.1)
 |[],_,_=>mV
 |(b,v)::l,i,h=>by
  unfold Iw at h;split at h
  ·cases h
  rename_i hne;simp only[A2u,A1g,not_or];exact⟨hne,Xc h⟩
def Yy {a:κ}:∀ {l:List (κ×Value)} {i j:Nat} {v:Value},Iw a l i=some (j,v)->i<=j/\l[j-i]?=some (a,v)/\(∀ x,Lr a x l=l.set (j-i) (a,x))/\Awn a l=l.eraseIdx (j-i)
 |[],_,_,_,h=>by cases h
 |(b,w)::l,i,j,v,h=>by
  unfold Iw at h;split at h
  ·rename_i e;simp only[A1f,A2i]at h;obtain⟨rfl,rfl⟩:=h;subst e;exact⟨A08 _,mV,fun x=>by simp[Lr],by simp[Awn]⟩
  rename_i hne;obtain⟨E,m,u,C⟩:=Yy h;have e:j-i=(j-(i+1))+1:=oV;refine⟨oV,by rw[e,A7r];exact m,fun x=>?_,?_⟩
  ·rw[e,A2j,<-u x];simp[Lr,hne]
  rw[e,List.eraseIdx_cons_succ,<-C];simp[Awn,hne]
def Agn {a:κ}:∀ {l:List (κ×Value)} (x:Value),a∉l.map (·.1)->Lr a x l=l++[(a,x)]
 |[],_,_=>rfl
 |(b,v)::l,x,h=>by
  simp only[A2u,A1g,not_or]at h;unfold Lr;rw[if_neg h.1,Agn x h.2];rfl
def M8 {a:κ}:∀ {l:List (κ×Value)},Ik a l=none↔a∉l.map (·.1)
 |[]=>by simp[Ik]
 |(b,v)::l=>by
  unfold Ik;split
  ·rename_i e;simp[e]
  rename_i hne;rw[M8];simp[hne]
variable {P:Program} {kt:TypeId}
def Oj (K:Zk P kt enc)(a:κ)(w:World):∀ (es:List MapEntry) (l:List (κ×Value)) (i:Nat),es.map (fun e=>(e.key,e.val))=l.map (fun p=>(enc p.1,p.2))->(Instr.findAsking kt (enc a) es i).run P w=.ok (Iw a l i) w
 |[],[],i,_=>by simp[Instr.findAsking,Iw]
 |[],_::_,_,h=>by simp at h
 |_::_,[],_,h=>by simp at h
 |e::es,(b,v)::l,i,h=>by
  simp only[A2u,A3g,A2i]at h;obtain⟨⟨m,u⟩,C⟩:=h;unfold Instr.findAsking;simp only[Sem.run_bind,m,K.eq,Result.andThen_ok];unfold Iw;by_cases j:a=b
  ·simp[j,u]
  simp only[decide_eq_false j,A4z,if_false,if_neg j];exact Oj K a w es l (i+1) C
def Xp {d:TypeDesc}(m:∀ a b,Instr.sameNow d (enc a) (enc b)=some (decide (a=b)))(a:κ):∀ (es:List MapEntry) (l:List (κ×Value)) (i:Nat),es.map (fun e=>(e.key,e.val))=l.map (fun p=>(enc p.1,p.2))->Instr.findNow d (enc a) es i=some (Iw a l i)
 |[],[],i,_=>by simp[Instr.findNow,Iw]
 |[],_::_,_,h=>by simp at h
 |_::_,[],_,h=>by simp at h
 |e::es,(b,v)::l,i,h=>by
  simp only[A2u,A3g,A2i]at h;obtain⟨⟨u,C⟩,E⟩:=h;unfold Instr.findNow Iw;rw[u,m];by_cases j:a=b
  ·simp[j,C]
  simp only[decide_eq_false j,if_neg j];exact Xp m a es l (i+1) E
def U8 (K:Zk P kt enc)(a:κ)(w:World){es:List MapEntry}{l:List (κ×Value)}(h:es.map (fun e=>(e.key,e.val))=l.map (fun p=>(enc p.1,p.2))):(Instr.findKey kt (enc a) es).run P w=.ok (Iw a l 0) w:=by
 obtain⟨d,m,j⟩:=K.now;unfold Instr.findKey;simp only[Sem.run_bind,run_underlying m,Result.andThen_ok];rcases j with j|j
 case inr=>rw[Xp j a es l 0 h];rfl
 cases es with
 |nil =>
  cases l with
  |nil=>simp[Instr.findNow,Iw]
  |cons=>simp at h
 |cons e es =>
  have u:Instr.findNow d (enc a) (e::es) 0=none:=by
   cases l with
   |nil=>simp at h
   |cons p l =>
    simp only[A2u,A3g,A2i]at h;unfold Instr.findNow;rw[h.1.1,j]
  rw[u];exact Oj K a w _ _ _ h
def Hu.empty:Hu enc (.map #[] 0) []:=⟨#[],0,rfl,mV,stamped_empty 0⟩
def Hu.nodup {l:List (κ×Value)}(h:Hu enc o l):(l.map (·.1)).Nodup:=by
 obtain⟨es,e,rfl,u,C⟩:=h;have m:es.toList.map (·.key)=l.map (fun p=>enc p.1):=by
  have:=congrArg (List.map (·.1)) u;simpa[Function.comp_def] using this
 have j:=C.2.2;rw[m]at j;have:l.map (fun p=>enc p.1)=(l.map (·.1)).map enc:=by simp[Function.comp_def]
 rw[this]at j;exact M4 j
def Ahy (K:Zk P kt enc)(C:P.underlying t=some (.map kt et)){z:Value}(E:∀ w,(zeroValue et).run P w=.ok z w){l:List (κ×Value)}(m:w.heap[g]?=some o)(u:Hu enc o l)(a:κ)(ok:Bool) :
 (Instr.lookup t (.map (some g)) (enc a) ok).run P w=.ok (Alm z (Ik a l) ok) w:=by
 obtain⟨es,e,rfl,h,F⟩:=u;have j:=U8 K a w h;rw[<-Aah a l 0];simp only[Instr.lookup,Sem.run_bind,run_underlying C,Result.andThen_ok,MapKept.run_getObj_map m,K.chk,Sem.run_pure,j];cases Iw a l 0 with
 |none=>simp only[Alm,Option.map_none,Sem.run_bind,E,Result.andThen_ok,Sem.run_pure]
 |some p=>simp only[Alm,A4c,Sem.run_bind,Sem.run_pure,Result.andThen_ok]
def Aij (K:Zk P kt enc)(ht:P.underlying t=some (.map kt et)){l:List (κ×Value)}(L:w.heap[g]?=some o)(ho:Hu enc o l)(a:κ)(x:Value) :
 ∃ o',Hu enc o' (Lr a x l)/\(Instr.mapUpdate t (.map (some g)) (enc a) x).run P w=.ok () { w with heap:=w.heap.setIfInBounds g o' }:=by
 obtain⟨es,m,rfl,C,Z⟩:=ho;have J:=U8 K a w C;have X:es.toList.length=l.length:=by simpa using congrArg List.length C
 cases hfk:Iw a l 0 with
 |none =>
  rw[hfk]at J;have Y:=Xc hfk;refine⟨.map (es.push { key:=enc a,val:=x,born:=m }) (m+1),⟨_,_,rfl,?_,stamped_push Z (fun e hm W=>?_)⟩,?_⟩
  ·rw[Agn x Y];simp only[Array.toList_push,A1i,C,A2u,A7m]
  ·obtain⟨j,hj,rfl⟩:=A3d.1 hm;have:=congrArg (fun t=>t[j]?) C;simp only[A1a,A01 hj,A4c]at this;rw[A01 oV]at this;simp only[A4c,A1f,A2i]at this;rw[this.1]at W;exact Y (A1b.2 ⟨_,A09 oV,K.inj _ _ W⟩)
  simp only[Instr.mapUpdate,Sem.run_bind,run_underlying ht,Result.andThen_ok,MapKept.run_getObj_map L,K.chk,J];exact MapKept.run_setObj_map _ L
 |some p =>
  obtain⟨j,v⟩:=p;rw[hfk]at J;obtain⟨_,Q,V,_⟩:=Yy hfk;rw[A6t]at Q V;have T:j<l.length:=(A05.1 Q).1;have R:j<es.toList.length:=oV;obtain⟨I,E⟩:∃ I,es.toList[j]?=some I:=⟨_,A01 R⟩;have F:I.key=enc a:=by
   have:=congrArg (fun t=>t[j]?) C;simp only[A1a,E,A4c,Q,A1f,A2i]at this;exact this.1
  have u:es[j]?=some I:=by rw[<-A6u];exact E
  refine⟨.map (es.modify j fun e=>{ e with key:=enc a,val:=x }) m,⟨_,_,rfl,?_,stamped_modify Z j _ (fun _ _=>rfl) (fun e _ h=>?_)⟩,?_⟩
  ·rw[V x,A2g];apply A4g;intro i;simp only[A1a,A6u,A8c,A1z];have hi:=congrArg (fun t=>t[i]?) C;simp only[A1a,A6u]at hi;by_cases e:j=i
   ·subst e;rw[if_pos rfl,if_pos rfl,u,if_pos (by simpa using T)];rfl
   rw[if_neg e,if_neg e];exact hi
  ·rw[u]at h;cases h;exact F.symm
  have H:((es[j]?).map (·.key)).getD (enc a)=enc a:=by rw[u];simp[F]
  simp only[Instr.mapUpdate,Sem.run_bind,run_underlying ht,Result.andThen_ok,MapKept.run_getObj_map L,K.chk,J,H];have U:(Instr.keyThatStays (enc a) (enc a)).run P w=.ok (enc a) w:=by unfold Instr.keyThatStays;rw[if_pos (K.bits a)];rfl
  rw[U];simp only[Result.andThen_ok];exact MapKept.run_setObj_map _ L
end
end
section
variable {D:List MapEntry}{clock g:Nat}{env:Operand->Value}{es:Array MapEntry}{o o':Obj}
variable [Cl]
open Go.MapKept
inductive Pt where
 |other
 |mk
 |look (t:Option TypeDesc) (x k:Value) (ok:Bool)
 |put (t:Option TypeDesc) (x k v:Value)
 |range (t:Option TypeDesc) (x:Value)
 |next (it:Value)
 |entry (it:Value)
def Nm (P:Program)(env:Operand->Value):Op->Pt
 |.makeMap _ none=>.mk
 |.lookup t x i ok=>.look (P.underlying t) (env x) (env i) ok
 |.mapUpdate t x k v=>.put (P.underlying t) (env x) (env k) (env v)
 |.insert t x k v=>.put (P.underlying t) (env x) (env k) (env v)
 |.range t x=>.range (P.underlying t) (env x)
 |.next it false=>.next (env it)
 |.entry it=>.entry (env it)
 |_=>.other
def Ni (P:Program)(st:List KI×S):Pt :=
 match st.1 with
 |.reg _ ops _ (i::_)::_=>match ops[i]? with
  |some o=>match Fb st.2 o&&(Kl st.2 o.op&&Ix o.op) with
   |true=>match gv st.2 ops o with
    |some true=>Nm P (C2 st.2) o.op
    |_=>.other
   |false=>.other
  |none=>.other
 |_=>.other
def Q9:Obj->Bool
 |.cells ..=>false
 |_=>true
section good
variable {u m:PH} {w:World}
def Ta (w:World)(g:Nat)(o:Obj):World:={ w with heap:=w.heap.setIfInBounds g o }
def Aay (h:w.heap[g]?=some o):(Ta w g o').heap[g]?=some o':=by
 show (w.heap.setIfInBounds g o')[g]?=_;rw[A7x];simp[Aw h]
def V0 {g k:Nat}(h:k≠g):(Ta w g o').heap[k]?=w.heap[k]?:=by
 show (w.heap.setIfInBounds g o')[k]?=_;rw[A2m (fun e=>h e.symm)]
def Amy (g:Nat)(o':Obj):(Ta w g o').heap.size=w.heap.size:=by show (w.heap.setIfInBounds g o').size=_;simp
theorem Bv.setO (h:Bv u m w)(hg:m g=some o)(hn:Q9 o'=true):Bv u (m.upd g o') (Ta w g o')/\B0 u m w u (m.upd g o') (Ta w g o'):=by
 have hb:=h.pm g _ hg;have hug:u g=none:=by
  rcases h.ap g with e|e
  ·exact e
  ·grind
 refine⟨⟨fun k o hk=>?_,fun k o hk=>?_,fun k=>?_,fun k cs1 t1 fr1 j z hk hj=>?_⟩,⟨by rw[Amy];exact A08 _,fun k hk hm=>V0 (fun e=>by rw[e,hg]at hm;cases hm),fun _ _=>rfl,fun k hk hm=>by rw[Ad _ _ (fun e=>by rw[e,hg]at hm;cases hm)];exact hm,⟨rfl,rfl⟩,fun _=>⟨rfl,A08 _⟩⟩⟩
 ·rw[V0 (fun e=>by rw[e,hug]at hk;cases hk)];exact h.pu k o hk
 ·by_cases e:k=g
  ·subst e;rw[Ab]at hk;rw[Aay hb];exact hk
  ·rw[Ad _ _ e]at hk;rw[V0 e];exact h.pm k o hk
 ·by_cases e:k=g
  ·grind
  ·rw[Ad _ _ e];exact h.ap k
 ·by_cases e:k=g
  ·subst e;rw[Aay hb]at hk;simp only[A1f]at hk;subst hk;cases hn
  ·rw[V0 e]at hk;exact h.cl k cs1 t1 fr1 j z hk hj
theorem Bv.newO (h:Bv u m w)(I:Q9 o=true):Bv u (m.upd w.heap.size o) (w.alloc o)/\B0 u m w u (m.upd w.heap.size o) (w.alloc o)/\m w.heap.size=none/\u w.heap.size=none:=by
 have F:m w.heap.size=none:=h.pm.none (A08 _);have J:u w.heap.size=none:=h.pu.none (A08 _);refine⟨⟨fun g o' C=>?_,fun g o' C=>?_,fun g=>?_,fun g cs t fr j z C H=>?_⟩,⟨by rw[B6];omega,fun g C _=>Aq _ _ C,fun _ _=>rfl,fun g C F=>by rw[Ad _ _ oV];exact F,⟨rfl,rfl⟩,fun _=>⟨rfl,A08 _⟩⟩,F,J⟩
 ·rw[Aq _ _ (h.pu.lt C)];exact h.pu g o' C
 ·by_cases e:g=w.heap.size
  ·subst e;rw[Ab]at C;rw[Cn];exact C
  rw[Ad _ _ e]at C;rw[Aq _ _ (h.pm.lt C)];exact h.pm g o' C
 ·by_cases e:g=w.heap.size
  ·grind
  rw[Ad _ _ e];exact h.ap g
 by_cases e:g=w.heap.size
 ·subst e;rw[Cn]at C;simp only[A1f]at C;subst C;cases I
 have E:=Aw C;rw[B6]at E;rw[Aq _ _ oV]at C;exact h.cl g cs t fr j z C H
def Bv.drewG (h:Bv u m w):B0 u m w u m w.drew:=⟨A08 _,fun _ _ _=>rfl,fun _ _=>rfl,fun _ _ h=>h,⟨rfl,rfl⟩,fun _=>⟨rfl,Nat.le_succ _⟩⟩
end good
section rules
variable {P:Program} [A6 P] {fn:Func} {Post:Ce} {st:List KI×S} {u m:PH}
theorem W4 {V:Pt}(h:Ni P st=V)(C:V≠.other):∃ t e j i l k s o,st=(.reg t e j (i::l)::k,s)/\e[i]?=some o/\gv s e o=some true/\Fb s o=true/\Kl s o.op=true/\Ix o.op=true/\Nm P (C2 s) o.op=V /\
 ∀ v,nx st v=(.reg t e j l::k,s.put o.dst (.v v)):=by
 obtain⟨E,s⟩:=st;unfold Ni at h;simp only at h;split at h
 ·rename_i t e j i l k;split at h
  ·rename_i o ho;split at h
   ·rename_i hb;simp only[A1m]at hb;split at h
    ·rename_i hg;exact⟨t,e,j,i,l,k,s,o,rfl,ho,hg,hb.1,hb.2.1,hb.2.2,h,fun v=>by simp[nx,ho]⟩
    grind
   grind
  grind
 grind
def P5:Pt->Bool
 |.look ..=>true
 |_=>false
def Ajd {o:Op}{V:Pt}(h:Nm P env o=V)(j:V≠.other)(e:P5 V=false):Fa o=false:=by
 unfold Nm at h;split at h<;>first|rfl|exact absurd h.symm j|(rw[<-h]at e;cases e)
theorem G.bigX {V:Pt}{K:Value->PH->PH->Prop}(h:Ni P (adv P st)=V)(F:V≠.other/\P5 V=false)(E:(∀ v t j,K v t j->PH.le m j)\/Vl (adv P st)=true)
 (U:∀ env (o:Oper),Nm P env o.op=V->∀ w,Bv u m w->Eg P env o w fun v w'=>∃ t j,Bv t j w'/\B0 u m w t j w'/\K v t j)
 (k:∀ v t j,PH.le u t->K v t j->G P fn Post (nx (adv P st) v) t j):G P fn Post st u m:=by
 refine G.stp ?_;obtain⟨id,Y,Z,i,l,kk,s,o,e,J,T,R,X,W,C,I⟩:=W4 h F.1;rw[e]at E⊢;refine⟨?_⟩;refine Ob.big (K:=K) J T R X W (Ajd C F.1 F.2) (fun v t j hK=>?_) (fun w H=>U _ o C w H) (fun v t j L Q=>?_)
 ·rcases E with E|E
  ·grind
  exact .inr (Abl J E)
 have:=(k v t j L Q).out;rw[I]at this;exact this
def Ame {o:Oper}{w w':World}{K:Value->World->Prop}(h:(execOp env o).run P w=.ok .skip w')(e:K undef w'):Eg P env o w K:=by
 unfold Eg;rw[h];exact e
theorem G.mapMk (h:Ni P (adv P st)=.mk)(k:∀ g,m g=none->u g=none->G P fn Post (nx (adv P st) (.map (some g))) u (m.upd g (.map #[] 0))):G P fn Post st u m:=by
 refine G.bigX (K:=fun v E j=>E=u/\PH.le m j/\∃ g,m g=none/\u g=none/\v=.map (some g)/\j=m.upd g (.map #[] 0)) h (by simp[P5]) (.inl fun v E j H=>H.2.1) (fun env o e w C=>?_) (fun T E j Q H=>?_)
 ·obtain⟨J,R,I,pos,after,t⟩:=o;simp only at e;unfold Nm at e;split at e<;>try (cases e;done)
  obtain⟨g1,g2,F,L⟩:=C.newO (o:=.map #[] 0) rfl;refine B8 (w':=w.alloc (.map #[] 0)) (v:=.map (some w.heap.size)) ?_ ⟨u,_,g1,g2,rfl,Jw _ F,w.heap.size,F,L,rfl,rfl⟩;simp[execOp,Instr.makeMap]
 grind
def Z0 (P:Program)(t:TypeId):Option Value:=match P.info? t with|some i=>i.zero|none=>none
def Abk {t:TypeId}{z:Value}(h:Z0 P t=some z)(w:World):(zeroValue t).run P w=.ok z w:=by
 unfold Z0 at h;split at h
 ·rename_i i hi;simp[zeroValue,typeInfo,hi,h]
 cases h
variable {κ:Type} [DecidableEq κ] {enc:κ->Value} {kt et:TypeId}
def G.mapGet (K:Zk P kt enc)(z:Value)(g:Nat)(o:Obj)(l:List (κ×Value))(a:κ)(ok:Bool)(h:Ni P (adv P st)=.look (some (.map kt et)) (.map (some g)) (enc a) ok)(hz:Z0 P et=some z)(V:u g=some o\/m g=some o)(W:Hu enc o l)
 (k:G P fn Post (nx (adv P st) (Alm z (Ik a l) ok)) u m):G P fn Post st u m:=by
 refine G.stp ?_;obtain⟨id,a1,dr,i,l',kk,s,o',e,I,F,U,Z,Y,j,H⟩:=W4 h mV;have k:=k.out;rw[H]at k;rw[e];have E:Fr o'.op=false:=by
  unfold Nm at j;split at j<;>first|(cases j;done)|(rename_i e;rw[e];rfl)
 refine⟨Ob.ask I F U Z Y E (fun w hp=>?_) k⟩;obtain⟨L,a0,J,pos,after,C⟩:=o';simp only at j hp;unfold Nm at j;split at j<;>try (cases j;done)
 rename_i t x i ok';simp only[Pt.look.injEq]at j;obtain⟨Q,R,T,rfl⟩:=j;obtain⟨pu,pm⟩:=hp (.inl rfl);have hw:w.heap[g]?=some o:=V.elim (pu g o) (pm (.inl rfl) g o);have X:=Ahy K Q (fun w=>Abk hz w) hw W a ok';simp only[execOp,R,T];simp[X]
def G.mapHas (K:Zk P kt enc)(z:Value)(g:Nat)(o:Obj)(l:List (κ×Value))(a:κ)(x:Value)(h:Ni P (adv P st)=.look (some (.map kt et)) (.map (some g)) (enc a) true)(C:Z0 P et=some z)(e:u g=some o\/m g=some o)(j:Hu enc o l)(t:Ik a l=some x)
 (k:G P fn Post (nx (adv P st) (.tuple #[x,zT])) u m):G P fn Post st u m :=
 G.mapGet K z g o l a true h C e j (by rw[t];exact k)
def G.mapNot (K:Zk P kt enc)(z:Value)(g:Nat)(o:Obj)(l:List (κ×Value))(a:κ)(h:Ni P (adv P st)=.look (some (.map kt et)) (.map (some g)) (enc a) true)(C:Z0 P et=some z)(e:u g=some o\/m g=some o)(j:Hu enc o l)(t:Ik a l=none)
 (k:G P fn Post (nx (adv P st) (.tuple #[z,zL])) u m):G P fn Post st u m :=
 G.mapGet K z g o l a true h C e j (by rw[t];exact k)
theorem G.mapPut (K:Zk P kt enc)(g:Nat)(o:Obj)(l:List (κ×Value))(a:κ)(x:Value)(h:Ni P (adv P st)=.put (some (.map kt et)) (.map (some g)) (enc a) x)(Q:Vl (adv P st)=true)(V:m g=some o)(ho:Hu enc o l)
 (k:∀ o',Hu enc o' (Lr a x l)->G P fn Post (nx (adv P st) undef) u (m.upd g o')):G P fn Post st u m:=by
 refine G.bigX (K:=fun v F E=>F=u/\v=undef/\∃ o',Hu enc o' (Lr a x l)/\E=m.upd g o') h (by simp[P5]) (.inr Q) (fun env o' e w H=>?_) (fun v' F E a0 hk=>?_)
 ·obtain⟨L,C,J,pos,after,j⟩:=o';have key:∀ t X A Y,P.underlying t=some (.map kt et)->env X=.map (some g)->env A=enc a->env Y=x->(C=.mapUpdate t X A Y\/C=.insert t X A Y)->Eg P env ⟨L,C,J,pos,after,j⟩ w fun v w'=>∃ F E,Bv F E w'/\B0 u m w F E w'/\F=u/\v=undef/\∃ o',Hu enc o' (Lr a x l)/\E=m.upd g o':=by
   intro t X A Y Z R T U he;have hw:w.heap[g]?=some o:=H.pm g o V;obtain⟨o',I,W⟩:=Aij K Z hw ho a x;have hn:Q9 o'=true:=by obtain⟨es,c,rfl,_⟩:=I;rfl
   obtain⟨g1,g2⟩:=H.setO V hn;refine Ame (w':=Ta w g o') ?_ ⟨u,_,g1,g2,rfl,rfl,o',I,rfl⟩;rcases he with rfl|rfl
   ·simp only[execOp,R,T,U];simp[W,Ta]
   simp only[execOp,R,T,U];simp[W,Ta]
  unfold Nm at e;split at e<;>try (cases e;done)
  ·grind
  grind
 grind
def Ar (D:List MapEntry):Array Nat:=(D.map (·.born)).toArray
structure Vo (es:Array MapEntry)(D:List MapEntry):Prop where
 sub:∀ e∈D,e∈es.toList
 nod:(D.map (·.born)).Nodup
def Vo.nil (es:Array MapEntry):Vo es []:=⟨mV,mV⟩
theorem G.mapRange (g:Nat)(es:Array MapEntry)(clock:Nat)(kt et:TypeId)(h:Ni P (adv P st)=.range (some (.map kt et)) (.map (some g)))(T:u g=some (.map es clock)\/m g=some (.map es clock))
 (k:∀ i,m i=none->u i=none->G P fn Post (nx (adv P st) (.pointer (zA i))) u (m.upd i (.mapIter (some g) clock (Ar []) clock))):G P fn Post st u m:=by
 refine G.bigX (K:=fun v E t=>E=u/\PH.le m t/\∃ i,m i=none/\u i=none/\v=.pointer (zA i)/\t=m.upd i (.mapIter (some g) clock (Ar []) clock)) h (by simp[P5]) (.inl fun v E t H=>H.2.1) (fun env o e w j=>?_) (fun Y E t U H=>?_)
 ·obtain⟨J,X,I,pos,after,C⟩:=o;simp only at e;unfold Nm at e;split at e<;>try (cases e;done)
  simp only[Pt.range.injEq]at e;obtain⟨Q,R⟩:=e;have W:w.heap[g]?=some (.map es clock):=T.elim (j.pu g _) (j.pm g _);obtain⟨g1,g2,F,L⟩:=j.newO (o:=.mapIter (some g) clock (Ar []) clock) rfl;have V:=run_range_map (P:=P) w _ kt et g es clock Q W;refine B8 (w':=w.alloc (.mapIter (some g) clock (Ar []) clock)) (v:=.pointer (some ⟨w.heap.size,0,none⟩)) ?_ ⟨u,_,g1,g2,rfl,Jw _ F,w.heap.size,F,L,rfl,rfl⟩;simp only[execOp,R];simp[V,Ar]
 grind
def Ad8 (n:Nat)(t:0<n)(w:World):∃ j e,j<n/\(e=w\/e=w.drew)/\(choose (.mapNext n)).run P w=.ok j e:=by
 by_cases h:n<=1
 ·exact⟨0,w,t,.inl rfl,by simp[Question.forced,h]⟩
 exact⟨_,w.drew,A29 _ t,.inr rfl,by
  simp only[choose,Sem.run,Question.forced,decide_eq_true_eq,h,if_false,Question.cut];rfl⟩
theorem Amu {w:World}{E g:Nat}(T:TypeId)(hi:w.heap[E]?=some (.mapIter (some g) clock (Ar D) clock))(X:w.heap[g]?=some (.map es clock))(R:Stamped es clock) :
 ((leftOf es (Ar D)).size=0/\(Instr.next (.pointer (zA E)) false T).run P w=.ok (.tuple #[zL]) w) \/
 ∃ e∈(leftOf es (Ar D)).toList,∃ t,(t=w\/t=w.drew)/\(Instr.next (.pointer (zA E)) false T).run P w=.ok (.tuple #[zT,e.key,e.val]) (Ta t E (.mapIter (some g) clock (Ar (D++[e])) clock)):=by
 have C:∀ e:MapEntry,(Ar D).push e.born=Ar (D++[e]):=fun e=>by simp[Ar]
 simp only[Instr.next,getObj,Sem.run_bind,Sem.run,hi,X,Result.andThen,next_test_false (Ar D) es clock clock R.1 (A08 _),A4z,if_false];have h:∀ x∈(leftOf es (Ar D)).toList,x.born<clock:=fun x Q=>R.1 x (mem_left Q).1;have W:es.filter (fun e=>!(Ar D).contains e.born)=leftOf es (Ar D):=rfl;simp only[W];generalize leftOf es (Ar D)=L at h⊢;have U:L.filter (fun x=>decide (x.born<clock))=L:=Array.filter_eq_self.2 (fun x Q=>by simpa using h x (by simpa using Q));have V:L.filter (fun x=>decide (x.born≥clock)) = #[]:=by simp_all
 simp only[U,V,Array.append_empty];by_cases h0:L.size=0
 ·have:L = #[]:=A4s h0;subst this;simp[Question.forced]
 right;have K:L.isEmpty=false:=by grind
 simp only[K,A4z,if_false,Array.empty_append,Array.size_map];obtain⟨j,t,Y,F,H⟩:=Ad8 (P:=P) L.size oV w;refine⟨L[j],mV,t,F,?_⟩;have J:t.heap[E]?=some (.mapIter (some g) clock (Ar D) clock):=by rcases F with rfl|rfl<;>exact hi
 have I:∀ o':Obj,(setObj E o').run P t=.ok () (Ta t E o'):=fun o'=>by
  simp only[setObj,Sem.run,J,Ta]
 simp only[H,Array.getElem?_map,A2v Y,A4c,Sem.run_bind,I,C];rfl
def Pl (D:List MapEntry)(b:Nat):(Ar D).contains b=true↔b∈D.map (·.born):=by
 unfold Ar;simp
def Aoo (I:Stamped es clock)(t:Vo es D)(h:(leftOf es (Ar D)).size=0):D.Perm es.toList:=by
 have H:es.toList.Nodup:=M4 I.2.1;have E:D.Nodup:=M4 t.nod;refine (List.perm_ext_iff_of_nodup E H).2 fun e=>⟨t.sub e,fun K=>?_⟩;have F:leftOf es (Ar D) = #[]:=A4s h;have C:(Ar D).contains e.born=true:=by
  cases C:(Ar D).contains e.born with
  |true=>rfl
  |false =>
   have:e∈leftOf es (Ar D):=Array.mem_filter.2 ⟨by simpa using K,by rw[C];rfl⟩;rw[F]at this;simp at this
 obtain⟨d,J,R⟩:=A1b.1 ((Pl D _).1 C);have L:=find_born e es.toList I.2.1 K;have j:=find_born d es.toList I.2.1 (t.sub d J);rw[R]at j;rw[L]at j;have Q:=A28 j;rw[Q];exact J
def Vo.snoc (h:Vo es D){e:MapEntry}(H:e∈(leftOf es (Ar D)).toList):Vo es (D++[e]):=by
 obtain⟨E,t⟩:=mem_left H;refine⟨fun x j=>?_,?_⟩
 ·simp only[A1h,A12]at j;rcases j with j|rfl
  ·exact h.sub x j
  exact E
 simp only[A1i,A2u,A7m];refine A4p.2 ⟨h.nod,mV,fun a F b C=>?_⟩;simp only[A12]at C;subst C;rintro rfl;rw[(Pl D _).2 F]at t;cases t
theorem G.mapNext (C g:Nat)(es:Array MapEntry)(clock:Nat)(D:List MapEntry)(h:Ni P (adv P st)=.next (.pointer (zA C)))(L:Vl (adv P st)=true)(hi:m C=some (.mapIter (some g) clock (Ar D) clock))(hg:u g=some (.map es clock)\/m g=some (.map es clock))(X:Stamped es clock)(V:Vo es D)
 (k0:D.Perm es.toList->G P fn Post (nx (adv P st) (.tuple #[zL])) u m)
 (k1:∀ e,e∈es.toList->Vo es (D++[e])->G P fn Post (nx (adv P st) (.tuple #[zT,e.key,e.val])) u (m.upd C (.mapIter (some g) clock (Ar (D++[e])) clock))):G P fn Post st u m:=by
 refine G.bigX (K:=fun v Y T=>Y=u/\((T=m/\v=.tuple #[zL]/\D.Perm es.toList)\/∃ e,e∈es.toList/\Vo es (D++[e])/\v=.tuple #[zT,e.key,e.val]/\T=m.upd C (.mapIter (some g) clock (Ar (D++[e])) clock))) h (by simp[P5]) (.inr L) (fun env o j w t=>?_) (fun v' Y T a0 hk=>?_)
 ·obtain⟨Z,a1,I,pos,after,J⟩:=o;simp only at j;unfold Nm at j;split at j<;>try (cases j;done)
  simp only[Pt.next.injEq]at j;have hw:w.heap[g]?=some (.map es clock):=hg.elim (t.pu g _) (t.pm g _);have R:=t.pm C _ hi;rcases Amu (P:=P) I R hw X with ⟨h0,Q⟩|⟨e,W,U,H,Q⟩
  ·refine B8 (w':=w) (v:=.tuple #[zL]) ?_ ⟨u,m,t,B0.refl _ _ _,rfl,.inl ⟨rfl,rfl,Aoo X V h0⟩⟩;simp only[execOp,j];simp[Q]
  have E:Bv u m U:=by rcases H with rfl|rfl;exact t;exact t.drew'
  have F:B0 u m w u m U:=by rcases H with rfl|rfl;exact B0.refl _ _ _;exact t.drewG
  obtain⟨g1,g2⟩:=E.setO (o':=.mapIter (some g) clock (Ar (D++[e])) clock) hi rfl;refine B8 (w':=Ta U C (.mapIter (some g) clock (Ar (D++[e])) clock)) (v:=.tuple #[zT,e.key,e.val]) ?_ ⟨u,_,g1,F.trans g2,rfl,.inr ⟨e,(mem_left W).1,V.snoc W,rfl,rfl⟩⟩;simp only[execOp,j];simp[Q]
 grind
theorem G.mapEntry (C g:Nat)(es:Array MapEntry)(clock:Nat)(D:List MapEntry)(e:MapEntry)(h:Ni P (adv P st)=.entry (.pointer (zA C)))(hi:m C=some (.mapIter (some g) clock (Ar (D++[e])) clock))(V:u g=some (.map es clock)\/m g=some (.map es clock))(Y:Stamped es clock)(T:e∈es.toList)
 (k:G P fn Post (nx (adv P st) (.tuple #[e.key,e.val])) u m):G P fn Post st u m:=by
 refine G.bigX (K:=fun v I H=>I=u/\H=m/\v=.tuple #[e.key,e.val]) h (by simp[P5]) (.inl fun v I H J=>by rw[J.2.1];exact PH.le_refl _) (fun env o j w t=>?_) (fun v' I H W J=>?_)
 ·obtain⟨Q,a0,L,pos,after,E⟩:=o;simp only at j;unfold Nm at j;split at j<;>try (cases j;done)
  simp only[Pt.entry.injEq]at j;have Z:w.heap[g]?=some (.map es clock):=V.elim (t.pu g _) (t.pm g _);have F:=t.pm C _ hi;have R:(Ar (D++[e])).back?=some e.born:=by simp[Ar]
  have U:es.find? (fun x=>x.born==e.born)=some e:=by rw[<-Array.find?_toList];exact find_born e es.toList Y.2.1 T
  have X:(Instr.entry (.pointer (zA C))).run P w=.ok (.tuple #[e.key,e.val]) w:=by
   simp only[Instr.entry,getObj,Sem.run_bind,Sem.run,F,Z,Result.andThen,R,bne_self_eq_false,U];rfl
  refine B8 (w':=w) ?_ ⟨u,m,t,B0.refl _ _ _,rfl,rfl,rfl⟩;simp only[execOp,j];simp[X]
 grind
end rules
end
section
variable {g:Nat}
variable [Cl]
def Pj (g:Nat)(o:Obj):PH:=PH.mt.upd g o
def PH.del (m:PH)(g:Nat):PH:=fun h=>if h=g then none else m h
def Ck (g:Nat)(o:Obj):Pj g o g=some o:=Ab _ _ _
def Mz {g h:Nat}(o:Obj)(e:h≠g):Pj g o h=none:=by unfold Pj;rw[Ad _ _ e];rfl
def Aoe {m:PH}{o:Obj}(h:m g=some o):m=(m.del g).or (Pj g o)/\Hp (m.del g) (Pj g o):=by
 constructor
 ·funext k
  by_cases e:k=g
  ·subst e;rw[PH.or_r (by simp[PH.del]),Ck,h]
  cases hk:m k with
  |none=>rw[PH.or_r (by simp[PH.del,e,hk]),Mz o e]
  |some p=>rw[PH.or_l (o:=p) (by simp[PH.del,e,hk])]
 intro k;by_cases e:k=g
 ·left;simp[PH.del,e]
 right;exact Mz o e
def Arv {m:PH}{o:Obj}:(m.del g).or (Pj g o)=m.upd g o:=by
 funext k
 by_cases e:k=g
 ·subst e;rw[PH.or_r (by simp[PH.del]),Ck,Ab]
 rw[Ad _ _ e];cases hk:m k with
 |none=>rw[PH.or_r (by simp[PH.del,e,hk]),Mz o e]
 |some p=>rw[PH.or_l (o:=p) (by simp[PH.del,e,hk])]
section
variable {P:Program} [A6 P] {fn:Func} {Post:Ce} {st:List KI×S} {u m:PH}
def G.callG (f:Nat)(args:zV){g:Nat}{o:Obj}{R:Value->PH->Obj->Prop}(h:Aj P (adv P st)=.call f args)(j:Vl (adv P st)=true)(H:∀ args w,(callFunc f args).run P w=.ok (.enter f args) w)(I:m g=some o)
 (c:Ag P f args u (Pj g o) (fun v e t=>∃ o',t=Pj g o'/\R v e o')) (k:∀ v e o',PH.le u e->R v e o'->G P fn Post (nx (adv P st) v) e (m.upd g o')):G P fn Post st u m:=by
 obtain⟨C,E⟩:=Aoe I;refine G.callA f args h j H C E c ?_;rintro v e t J ⟨o',rfl,F⟩ _;rw[Arv];exact k v e o' J F
def Ag.giveAll {f:FuncId}{args:zV}{R:Value->PH->PH->Prop}(c:Ag P f args u PH.mt R):Fn0 P f args u (fun v C=>∃ L K,PH.le L C/\PH.le K C/\R v L K):=by
 intro w V;refine Calls.mono (c w V) fun e w' U=>?_;obtain⟨v,C,I,Q,J,E,T⟩:=U;have H:PH.le C (I.or C):=fun g o h=>by
  cases hx:I g with
  |none=>rw[PH.or_r hx];exact h
  |some p=>have:=(J.ap g).resolve_right (by rw[hx];simp);rw[this]at h;cases h
 refine⟨v,I.or C,PH.mt,Q,⟨fun g o h=>?_,Fj.mt _,fun g=>.inr rfl,fun g cs t fr j z h W=>?_⟩,⟨E.sz,E.old,fun g F=>?_,fun _ _ _=>rfl,E.io,E.dr⟩,rfl,C,I,H,fun g o h=>PH.or_l h,T⟩
 ·cases hx:I g with
  |none=>rw[PH.or_r hx]at h;exact J.pu g o h
  |some p=>rw[PH.or_l hx]at h;cases h;exact J.pm g _ hx
 ·exact H g _ (J.cl g cs t fr j z h W)
 rw[PH.or_r (E.ms g F rfl)];exact E.us g F
end
abbrev SlI:Type:=zP×Nat×Nat
section
variable {κ:Type} [DecidableEq κ] {enc:κ->Value} {R:PH->Value->Rat->Prop} {nz:Bool} {u:PH} {o:Obj} {f:κ->Rat} {N s:Nat}
def O4 {a:κ}:∀ {l:List (κ×Value)} {v:Value},Ik a l=some v->(a,v)∈l
 |(b,w)::l,v,h=>by
  unfold Ik at h;split at h
  ·rename_i e;cases h;rw[e];simp
  exact A2f _ (O4 h)
def Abv {a:κ}:∀ {l:List (κ×Value)} {v:Value},(l.map (·.1)).Nodup->(a,v)∈l->Ik a l=some v
 |(b,w)::l,v,hn,h=>by
  simp only[A2u,A4j]at hn;unfold Ik;rcases A1g.1 h with e|e
  ·cases e;rw[if_pos rfl]
  have:a≠b:=fun j=>hn.1 (by rw[<-j];exact A1b.2 ⟨_,e,rfl⟩);rw[if_neg this];exact Abv hn.2 e
def Ae0 {a:κ}{x:Value}:∀ {l:List (κ×Value)} {p:κ×Value},(l.map (·.1)).Nodup->p∈Lr a x l->p=(a,x)\/(p∈l/\p.1≠a)
 |[],p,_,h=>by simp[Lr]at h;exact .inl h
 |(b,w)::l,p,hn,h=>by
  simp only[A2u,A4j]at hn;unfold Lr at h;split at h
  ·rename_i e;subst e;rcases A1g.1 h with h|h
   ·exact .inl h
   refine .inr ⟨A2f _ h,fun j=>hn.1 ?_⟩;rw[<-j];exact A1b.2 ⟨p,h,rfl⟩
  rename_i e;rcases A1g.1 h with h|h
  ·subst h;exact .inr ⟨mV,fun j=>e j.symm⟩
  rcases Ae0 hn.2 h with h|⟨h,t⟩
  ·exact .inl h
  exact .inr ⟨A2f _ h,t⟩
def Aaq {a:κ}{x:Value}{k:κ}:∀ {l:List (κ×Value)},k∈(Lr a x l).map (·.1)↔k=a\/k∈l.map (·.1)
 |[]=>by simp[Lr]
 |(b,w)::l=>by
  unfold Lr;split
  ·rename_i e;subst e;simp
  simp only[A2u,A1g,Aaq (l:=l)];constructor
  ·rintro (h|h|h)
   ·exact .inr (.inl h)
   ·exact .inl h
   exact .inr (.inr h)
  rintro (h|h|h)
  ·exact .inr (.inl h)
  ·exact .inl h
  exact .inr (.inr h)
def U1 {a:κ}{x:Value}:∀ {l:List (κ×Value)},(Lr a x l).length<=l.length+1
 |[]=>by simp[Lr]
 |(b,w)::l=>by
  unfold Lr;split
  ·simp
  have:=U1 (a:=a) (x:=x) (l:=l);simp;omega
def Nh (f:κ->Rat)(a:κ)(q:Rat):κ->Rat:=fun k=>if k=a then q else f k
end
end
end Go.Proofs.YtemmheaocgmebaaGreatDoor
