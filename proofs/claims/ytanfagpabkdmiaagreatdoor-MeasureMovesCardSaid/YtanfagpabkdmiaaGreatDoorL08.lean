/- Parts of one proof, joined by a program. -/
import Derived.Test.YtanfagpabkdmiaaGreatDoorL07
import Derived.RangeFuncSeq
import Derived.RangeFuncGives
import Derived.RangeFuncIn
import Derived.OrdersIn
import Derived.OwnWalkIn
set_option linter.unusedVariables false
set_option linter.unusedSimpArgs false
set_option linter.unusedSectionVars false
set_option maxHeartbeats 16000000
namespace Go.Proofs.YtanfagpabkdmiaaGreatDoor
open Go.Proofs.Tryz
section
open Go.RowKit Go.MapKept
variable {F:List Ao}{R:List Bk}{T:List (List UInt8×Nat)}{a:Option Addr}{c k n:Nat}{l:List Nat}{m m0 u:PH}
def nmA (j:Nat):List UInt8:=[97]++[Uj j]
def nmR (j:Nat):List UInt8:=[114]++[Uj j]
theorem Aoy (h:n≤6):Oh ((List.range n).map nmA):=by
 have h2:∀ n:Fin 7,(((List.range n.val).map nmA).all Gw && decide ((List.range n.val).map nmA).Nodup)=true:=by decide +kernel
 exact Nw (h2 ⟨n,by omega⟩)
theorem Ant (h:n≤6):Oh ((List.range n).map nmR):=by
 have h2:∀ n:Fin 7,(((List.range n.val).map nmR).all Gw && decide ((List.range n.val).map nmR).Nodup)=true:=by decide +kernel
 exact Nw (h2 ⟨n,by omega⟩)
structure TOK (T:List (List UInt8×Nat)):Prop where
 nm:T.map (·.1)=(List.range T.length).map nmA
 kd:∀ a∈T,1≤a.2∧a.2≤3
 le:T.length≤6
theorem TOK.nil:TOK []:=⟨rfl,fun a ha=>by simp at ha,by simp⟩
theorem TOK.snoc (h:TOK T)(h1:1≤k)(h3:k≤3)(hl:T.length < 6):TOK (T++[(nmA T.length,k)]):=by
 refine ⟨?_,fun a ha=>?_,by simp; omega⟩
 ·rw [List.map_append,h.nm,List.length_append,List.length_singleton,List.range_succ,List.map_append]; rfl
 ·rcases List.mem_append.1 ha with e | e
  ·exact h.kd a e
  ·obtain rfl:=List.mem_singleton.1 e;exact ⟨h1,h3⟩
structure TOM (N:Nat)(T:List (List UInt8×Nat)):Prop extends TOK T where
 lem:T.length≤N
theorem TOM.nil (N:Nat):TOM N []:=⟨TOK.nil,Nat.zero_le _⟩
theorem TOM.snocm {N:Nat}(h:TOM N T)(h1:1≤k)(h3:k≤3)(hl:T.length < N)(hN:N≤6):TOM N (T++[(nmA T.length,k)]) :=
 ⟨h.toTOK.snoc h1 h3 (by omega),by rw [List.length_append,List.length_singleton]; omega⟩
theorem TOK.att (h:TOK T):Ah7 T:=⟨by rw [h.nm]; exact Aoy h.le,h.kd⟩
structure LOK (l:List Nat)(n:Nat):Prop where
 asc:l.Pairwise (· < ·)
 lt:∀ a∈l,a < n
 len:l.length≤n
theorem LOK.nil:LOK [] 0:=⟨List.Pairwise.nil,fun a ha=>by simp at ha,by simp⟩
theorem LOK.up (h:LOK l n):LOK l (n+1):=⟨h.asc,fun a ha=>by have:=h.lt a ha; omega,by have:=h.len; omega⟩
theorem LOK.snoc (h:LOK l n):LOK (l++[n]) (n+1):=by
 refine ⟨List.pairwise_append.2 ⟨h.asc,List.pairwise_singleton _ _,fun a ha b hb=>?_⟩,fun a ha=>?_,by simp; have:=h.len; omega⟩
 ·obtain rfl:=List.mem_singleton.1 hb;exact h.lt a ha
 ·rcases List.mem_append.1 ha with e | e
  ·have:=h.lt a e; omega
  ·obtain rfl:=List.mem_singleton.1 e; omega
theorem LOK.zero (h:0 < n):LOK [0] n:=⟨List.pairwise_singleton _ _,fun a ha=>by
 obtain rfl:=List.mem_singleton.1 ha; exact h,by simp; omega⟩
structure ROK (u:PH)(n:Nat)(R:List Bk):Prop where
 nm:R.map (·.1)=(List.range R.length).map nmR
 ne:∀ r∈R,r.2.1≠[]
 ok:∀ r∈R,LOK r.2.1 n
 all:∀ a < n,∃ r∈R,a∈r.2.1
 at':∀ r∈R,Ab u (.slice r.2.2.1 r.2.1.length r.2.2.2) 1 (Ag r.2.1)
theorem ROK.nil :ROK u 0 []:=⟨rfl,fun a ha=>by simp at ha,fun a ha=>by simp at ha,fun a ha=>by omega,fun a ha=>by simp at ha⟩
theorem ROK.mono {u u':PH}{n:Nat}{R:List Bk}(h:ROK u n R)(hl:PH.le u u'):ROK u' n R:=⟨h.nm,h.ne,h.ok,h.all,fun r hr=>(h.at' r hr).mono hl⟩
theorem ROK.snoc {n n':Nat}(h:ROK u n R)(hn:n≤n')(hl:LOK l n')(hne:l≠[])(hall:∀ a,n≤a→a < n'→a∈l)(hat:Ab u (.slice a l.length c) 1 (Ag l)):ROK u n' (R++[(nmR R.length,l,(a,c))]):=by
 refine ⟨?_,fun r hr=>?_,fun r hr=>?_,fun a ha=>?_,fun r hr=>?_⟩
 ·rw [List.map_append,h.nm,List.length_append,List.length_singleton,List.range_succ,List.map_append]; rfl
 ·rcases List.mem_append.1 hr with e | e
  ·exact h.ne r e
  ·obtain rfl:=List.mem_singleton.1 e;exact hne
 ·rcases List.mem_append.1 hr with e | e
  ·have:=h.ok r e;exact ⟨this.asc,fun a ha=>by have:=this.lt a ha; omega,by have:=this.len; omega⟩
  ·obtain rfl:=List.mem_singleton.1 e;exact hl
 ·rcases Nat.lt_or_ge a n with e | e
  ·obtain ⟨r,hr,hm⟩:=h.all a e;exact ⟨r,List.mem_append_left _ hr,hm⟩
  ·exact ⟨_,List.mem_append_right _ (List.mem_singleton.2 rfl),hall a e ha⟩
 ·rcases List.mem_append.1 hr with e | e
  ·exact h.at' r e
  ·obtain rfl:=List.mem_singleton.1 e;exact hat
theorem ROK.rel (h:ROK u n R)(hn:n≤6)(hR:R.length≤6):Mh u n R:=by
 refine ⟨by rw [h.nm]; exact Ant hR,h.ne,fun r hr=>(h.ok r hr).lt,fun r hr=>by have:=(h.ok r hr).len; omega,fun r hr k x y hx hy=>?_,h.all,h.at'⟩;obtain ⟨h1,rfl⟩:=List.getElem?_eq_some_iff.1 hx;obtain ⟨h2,rfl⟩:=List.getElem?_eq_some_iff.1 hy;exact List.pairwise_iff_getElem.1 (h.ok r hr).asc k (k+1) h1 h2 (by omega)
structure FOK (T:List (List UInt8×Nat))(F:List Ao)(lab:Int)(a:Nat):Prop where
 feat:Dk T F lab
 lt:∀ f∈F,f.1 < a
 len:F.length≤a
 l1:-1≤lab
 l2:∀ l:Nat,lab=(l:Int)→l < a∧∃ n,T[l]?=some (n,2)
theorem FOK.nil :FOK T [] (-1) 0:=⟨⟨fun f hf=>by simp at hf,by simp⟩,fun f hf=>by simp at hf,by simp,by omega,fun l hl=>by omega⟩
theorem FOK.skip {lab:Int}{a:Nat}(h:FOK T F lab a):FOK T F lab (a+1):=⟨h.feat,fun f hf=>by have:=h.lt f hf; omega,by have:=h.len; omega,h.l1,fun l hl=>by
 obtain ⟨h1,h2⟩:=h.l2 l hl;exact ⟨by omega,h2⟩⟩
theorem FOK.lab {lab:Int}{a:Nat}{n:List UInt8}(h:FOK T F lab a)(ha:T[a]?=some (n,2)):FOK T F (a:Int) (a+1):=by
 refine ⟨⟨fun f hf=>?_,h.feat.nodup⟩,fun f hf=>by have:=h.lt f hf; omega,by have:=h.len; omega,by omega,fun l hl=>?_⟩
 ·obtain ⟨n,k,h1,h2,h3⟩:=h.feat.ok f hf;exact ⟨n,k,h1,h2,by have:=h.lt f hf; omega⟩
 ·obtain rfl:l=a:=by omega
  exact ⟨by omega,n,ha⟩
theorem FOK.put {lab:Int}{a k:Nat}{n:List UInt8}{g:Nat×Nat}(h:FOK T F lab a)(ha:T[a]?=some (n,k))(hg:(g.1=1∧k=2∧g.2≤1)∨(g.1=2∧k=3∧g.2=0)):FOK T (F++[(a,g)]) lab (a+1):=by
 refine ⟨⟨fun f hf=>?_,?_⟩,fun f hf=>?_,by simp; have:=h.len; omega,h.l1,fun l hl=>?_⟩
 ·rcases List.mem_append.1 hf with e | e
  ·exact h.feat.ok f e
  ·obtain rfl:=List.mem_singleton.1 e;refine ⟨n,k,ha,hg,fun e=>?_⟩;have:=(h.l2 a e.symm).1;omega
 ·rw [List.map_append];refine List.nodup_append.2 ⟨h.feat.nodup,by simp,fun x hx y hy=>?_⟩;obtain ⟨f,hf,rfl⟩:=List.mem_map.1 hx;have:=h.lt f hf;simp at hy;omega
 ·rcases List.mem_append.1 hf with e | e
  ·have:=h.lt f e; omega
  ·obtain rfl:=List.mem_singleton.1 e;show a < a+1;omega
 ·obtain ⟨h1,h2⟩:=h.l2 l hl;exact ⟨by omega,h2⟩
theorem Aow {lab:Int}(hT:TOK T)(hR:ROK u T.length R)(hF:FOK T F lab T.length)(h0:0 < T.length)(h1:0 < R.length)(h2:R.length≤6):Bn u T R F lab :=
 ⟨hT.att,hR.rel hT.le h2,hF.feat,h0,by have:=hT.le; omega,h1,h2,by have:=hF.len; have:=hT.le; omega,hF.l1,fun l hl=>(hF.l2 l hl).2⟩
def Xo (a:Option Addr)(c:Nat)(T:List (List UInt8×Nat)):Arr:=⟨.slice a T.length c,92,2,T.map D0⟩
def Uf (a:Option Addr)(c:Nat)(R:List Bk):Arr:=⟨.slice a R.length c,94,2,R.map Gb⟩
def Sr (a:Option Addr)(c:Nat)(F:List Ao):Arr:=⟨.slice a F.length c,144,3,F.map B6⟩
def Z9 (a:Option Addr)(c:Nat)(l:List Nat):Arr:=⟨.slice a l.length c,3,1,Ag l⟩
theorem Amn :(Xo a c T).At m0 m=Ae m0 m (.slice a T.length c) 92 2 (T.map D0):=rfl
theorem Aee :(Uf a c R).At m0 m=Ae m0 m (.slice a R.length c) 94 2 (R.map Gb):=rfl
theorem Xa :(Sr a c F).At m0 m=Ae m0 m (.slice a F.length c) 144 3 (F.map B6):=rfl
theorem Xf :(Z9 a c l).At m0 m=Ae m0 m (.slice a l.length c) 3 1 (Ag l):=rfl
theorem Adt (x:List UInt8×Nat):A3 2 [D0 x]:=by
 intro e he;simp at he; subst he;exact ⟨rfl,fun y hy=>by simp [D0,Value.cells] at hy; rcases hy with rfl | rfl <;> rfl⟩
theorem Nk (x:Bk):A3 2 [Gb x]:=by
 intro e he;simp at he; subst he;exact ⟨rfl,fun y hy=>by simp [Gb,Value.cells] at hy; rcases hy with rfl | rfl <;> rfl⟩
theorem Hu (x:Ao):A3 3 [B6 x]:=by
 intro e he;simp at he; subst he;exact ⟨rfl,fun y hy=>by simp [B6,Value.cells] at hy; rcases hy with rfl | rfl | rfl <;> rfl⟩
end
section
variable {A T:List Nat}{i x:Nat}{listed:Array Bool}{o:Oper}{s0:S}
variable [Cc] [Dy]
open Go.RowKit
section
variable {P:Program} {id:Nat} {ops:Array Oper} {dr:Bool} {Fin:S→PH→PH→Prop} {c:Cx} {Q:Exit→Act→World→Prop}
theorem Ob.append {l2:List Nat}:∀ {l1:List Nat} {s:S} {u m:PH},Ob P id ops dr (fun s u m=>Ob P id ops dr Fin l2 s u m) l1 s u m→Ob P id ops dr Fin (l1++l2) s u m
 | [],s,u,m,h=>by
  cases h with
  | nil h=>exact h
 | i::l1,s,u,m,h=>by
  cases h with
  | auto ho hg hd he hl=>exact .auto ho hg hd he hl.append
  | skip ho hg hd hl=>exact .skip ho hg hd hl.append
  | ask ho hg hd hv hs hal hw hl=>exact .ask ho hg hd hv hs hal hw hl.append
  | big ho hg hd hv hs hf hk hw hl=>exact .big ho hg hd hv hs hf hk hw fun v u' m' h1 h2=>(hl v u' m' h1 h2).append
theorem Ob.fin {Fin':S→PH→PH→Prop}(hf:∀ s u m,Fin s u m→Fin' s u m):∀ {l:List Nat} {s:S} {u m:PH},Ob P id ops dr Fin l s u m→Ob P id ops dr Fin' l s u m
 | [],s,u,m,h=>by
  cases h with
  | nil h=>exact .nil (hf _ _ _ h)
 | i::l1,s,u,m,h=>by
  cases h with
  | auto ho hg hd he hl=>exact .auto ho hg hd he (hl.fin hf)
  | skip ho hg hd hl=>exact .skip ho hg hd (hl.fin hf)
  | ask ho hg hd hv hs hal hw hl=>exact .ask ho hg hd hv hs hal hw (hl.fin hf)
  | big ho hg hd hv hs hf' hk hw hl=>exact .big ho hg hd hv hs hf' hk hw fun v u' m' h1 h2=>(hl v u' m' h1 h2).fin hf
structure H8 (ops:Array Oper)(listed:Array Bool)(T:List Nat):Prop where
 sz:listed.size=ops.size
 mem:∀ i,i < ops.size→(listed.getD i true=false↔i∈T)
 lt:∀ i∈T,i < ops.size
 nd:T.Nodup
 cl:Aco ops listed
theorem O5 :i∈Region.ready .any ops listed↔i < ops.size∧listed.getD i true=false∧∃ o,ops[i]?=some o∧∀ e∈o.after,Region.binds .any e=true→listed.getD e.on false=true:=by
 simp only [Region.ready,List.mem_filter,List.mem_range,Bool.and_eq_true,Bool.not_eq_true'];refine and_congr_right fun hi=>and_congr_right fun _=>?_;have ho:ops[i]?=some ops[i]:=Array.getElem?_eq_getElem hi;rw [ho];simp only [Option.map_some,Option.getD_some,Array.all_eq_true',Option.some.injEq,exists_eq_left',Bool.or_eq_true,Bool.not_eq_true'];constructor
 ·intro h e he hb;rcases h e he with h | h
  ·rw [hb] at h; cases h
  ·exact h
 ·intro h e he;cases hb:Region.binds .any e with
  | false=>exact .inl rfl
  | true=>exact .inr (h e he hb)
theorem H8.no (h:H8 ops listed T)(hx:x∈T):listed.getD x false=true→False:=by
 intro hl;have hxl:=h.lt x hx;have:=(h.mem x hxl).2 hx;have h3:x < listed.size:=by have:=h.sz; omega
 simp only [Array.getD_eq_getD_getElem?,Array.getElem?_eq_getElem h3,Option.getD_some] at hl this;rw [this] at hl; cases hl
theorem H8.next {A B:List Nat}(h:H8 ops listed (A++i::B))(ho:ops[i]?=some o)(hpre:∀ e∈o.after,Region.binds .any e=true→listed.getD e.on false=true):H8 ops (listed.setIfInBounds i true) (A++B):=by
 obtain ⟨hsz,hT,hTl,hnd,hcl⟩:=h;have hlt:i < listed.size:=by rw [hsz]; exact hTl i (by simp)
 have hnd':(A++B).Nodup∧i∉A++B:=by
  rw [List.nodup_append] at hnd ⊢;simp only [List.nodup_cons,List.mem_cons,List.mem_append] at hnd ⊢;obtain ⟨n1,⟨n2,n3⟩,n4⟩:=hnd;exact ⟨⟨n1,n3,fun x hx y hy=>n4 x hx y (.inr hy)⟩,fun h=>h.elim (fun h=>n4 i h i (.inl rfl) rfl) n2⟩
 refine ⟨by simpa using hsz,fun j hj=>?_,fun j hj=>hTl j ?_,hnd'.1,?_⟩
 ·by_cases hji:j=i
  ·subst hji;simp only [Array.getD_eq_getD_getElem?,Array.getElem?_setIfInBounds_self_of_lt hlt,Option.getD_some];exact ⟨fun h=>absurd h (by simp),fun h=>absurd h hnd'.2⟩
  ·have:=hT j hj;simp only [Array.getD_eq_getD_getElem?,Array.getElem?_setIfInBounds_ne (fun h=>hji h.symm)] at this ⊢;rw [this];simp [hji]
 ·simp only [List.mem_append,List.mem_cons] at hj ⊢;rcases hj with h | h
  ·exact .inl h
  ·exact .inr (.inr h)
 ·intro j hj o' ho' e he hb;have keep:∀ k,listed.getD k false=true→(listed.setIfInBounds i true).getD k false=true:=by
   intro k hk;by_cases hki:k=i
   ·subst hki; simp only [Array.getD_eq_getD_getElem?,Array.getElem?_setIfInBounds_self_of_lt hlt,Option.getD_some]
   ·simp only [Array.getD_eq_getD_getElem?,Array.getElem?_setIfInBounds_ne (fun h=>hki h.symm)] at hk ⊢; exact hk
  by_cases hji:j=i
  ·subst hji;rw [ho] at ho';obtain rfl:=Option.some.inj ho';exact keep _ (hpre e he hb)
  ·refine keep _ (hcl j ?_ o' ho' e he hb);simp only [Array.getD_eq_getD_getElem?,Array.getElem?_setIfInBounds_ne (fun h=>hji h.symm)] at hj ⊢; exact hj
theorem H8.swaps (h:H8 ops listed T)(hA:∀ x∈A,x∈T)(ho:ops[i]?=some o)(hpre:∀ e∈o.after,Region.binds .any e=true→listed.getD e.on false=true)(hP:∀ x∈A,Eg ops s0 x i=true):∀ x∈A,Yv ops s0 x i=true:=by
 intro x hx;have hp:=hP x hx;unfold Eg at hp;simp only [Bool.and_eq_true,Bool.or_eq_true] at hp;have hpi:∀ o',ops[i]?=some o'→∀ e∈o'.after,Region.binds .any e=true→listed.getD e.on false=true:=fun o' ho'=>by rw [ho] at ho'; obtain rfl:=Option.some.inj ho'; exact hpre
 rcases hp.2 with (h' | h') | h'
 ·exact (h.no (hA x hx) (Tn hpi h')).elim
 ·exact h'
 ·exact (h.no (hA x hx) (F4 h.cl ops.size i hpi h')).elim
theorem H8.any {s0:S}(hL0:La s0)(hE:(List.range ops.size).all (Hq ops)=true)(hF:∀ s u m ρ a w,Fin s u m→Rel c s u m ρ a w→Q .normal a w){n:Nat}{T:List Nat}{listed:Array Bool}{s:S}{u m:PH}{ρ:Nat→Nat}{a:Act}{w:World}(h:H8 ops listed T)(hn:T.length=n)
  (hP:T.Pairwise (fun x y=>Eg ops s0 x y=true)) (hag:Ei ops s0 s) (hO:Ob P id ops true Fin T s u m) (hr:Rel c s u m ρ a w):Go.wpAny P .any ops Q n listed a w :=
 Ob.wpAny hL0 hE hF n T listed hn h.sz h.mem h.lt h.nd h.cl hP hag hO hr
theorem H8.perm {T T':List Nat}(h:H8 ops listed T)(hp:T.Perm T'):H8 ops listed T' :=
 ⟨h.sz,fun i hi=>(h.mem i hi).trans hp.mem_iff,fun i hi=>h.lt i (hp.mem_iff.2 hi),hp.nodup_iff.1 h.nd,h.cl⟩
theorem H8.first {t:Nat}(h:H8 ops listed (t::T))(hE:(List.range ops.size).all (Hq ops)=true)(hd:∀ x∈T,dir ops t x=false):t∈Region.ready .any ops listed:=by
 have hp:=h.lt t (by simp);refine O5.2 ⟨hp,(h.mem t hp).2 (by simp),ops[t],Array.getElem?_eq_getElem hp,fun e he hb=>?_⟩;rw [List.all_eq_true] at hE;have hed:=hE t (by simpa using hp);unfold Hq at hed;rw [Array.getElem?_eq_getElem hp] at hed;simp only [List.all_eq_true] at hed;have:=hed e (by simpa using he);simp only [hb,Bool.not_true,Bool.false_or,Bool.and_eq_true,Bool.not_eq_true'] at this;have hlt:e.on < ops.size:=Nat.blt_eq ▸ this.1;have hne:e.on≠t:=fun h=>by rw [h] at this; simp at this
 have hdir:dir ops t e.on=true:=by
  unfold dir;rw [Array.getElem?_eq_getElem hp];simp only [List.any_eq_true,Bool.and_eq_true];exact ⟨e,by simpa using he,hb,by simp⟩
 cases hl:listed.getD e.on true with
 | true =>
  have h1:e.on < listed.size:=by have:=h.sz; omega
  simp only [Array.getD_eq_getD_getElem?,Array.getElem?_eq_getElem h1,Option.getD_some] at hl ⊢; exact hl
 | false =>
  have hm:=(h.mem e.on hlt).1 hl;rcases List.mem_cons.1 hm with hm | hm
  ·exact absurd hm hne
  ·rw [hd _ hm] at hdir; cases hdir
theorem Dc {x y:Nat}(h:Eg ops s0 x y=true):dir ops x y=false:=by
 unfold Eg at h;simp only [Bool.and_eq_true,Bool.not_eq_true'] at h;exact h.1.1
theorem Ob.wpAny2 (hL0:La s0)(hE:(List.range ops.size).all (Hq ops)=true)(hF:∀ s u m ρ a w,Fin s u m→Rel c s u m ρ a w→Q .normal a w){p q:Nat}{post:List Nat}(hpost:∀ y∈post,bef ops ops.size y p=true)(hpq:dir ops p q=false) :
  ∀ (n:Nat) (pre:List Nat) (listed:Array Bool) {s:S} {u m:PH} {ρ:Nat→Nat} {a:Act} {w:World},pre.length+(post.length+2)=n→H8 ops listed (pre++p::q::post) →
   (pre++p::post).Pairwise (fun x y=>Eg ops s0 x y=true)→(pre++q::post).Pairwise (fun x y=>Eg ops s0 x y=true)→Ei ops s0 s →
   Ob P id ops true (fun s u m=>Ob P id ops true Fin (p::q::post) s u m∧Ob P id ops true Fin (q::p::post) s u m) pre s u m→Rel c s u m ρ a w→Go.wpAny P .any ops Q n listed a w:=by
 intro n;induction n with
 | zero=>intro pre listed s u m ρ a w hlen; omega
 | succ n ih =>
  intro pre listed s u m ρ a w hlen hLeft hP1 hP2 hag hO hr;refine ⟨fun hnil=>?_,fun i hi=>?_⟩
  ·exfalso;cases pre with
   | nil =>
    have:=hLeft.first hE fun x hx=>by
     rcases List.mem_cons.1 hx with rfl | hx
     ·exact hpq
     ·exact Dc (List.rel_of_pairwise_cons hP1 hx)
    rw [hnil] at this; cases this
   | cons t T' =>
    have:=H8.first (t:=t) (T:=T'++p::q::post) hLeft hE fun x hx=>by
     simp only [List.mem_append,List.mem_cons] at hx;rcases hx with hx | rfl | rfl | hx
     ·exact Dc (List.rel_of_pairwise_cons hP1 (by simp [hx]))
     ·exact Dc (List.rel_of_pairwise_cons hP1 (by simp))
     ·exact Dc (List.rel_of_pairwise_cons hP2 (by simp))
     ·exact Dc (List.rel_of_pairwise_cons hP1 (by simp [hx]))
    rw [hnil] at this; cases this
  ·obtain ⟨h1,h2,o,ho,hpre⟩:=O5.1 hi;have hm:=(hLeft.mem i h1).1 h2;simp only [List.mem_append,List.mem_cons] at hm;rcases hm with hm | hm | hm | hm
   ·obtain ⟨A,B,rfl⟩:=List.append_of_mem hm;have hLeft':H8 ops listed (A++i::(B++p::q::post)):=by
     rw [List.append_assoc] at hLeft; exact hLeft
    have hP1':(A++i::(B++p::post)).Pairwise (fun x y=>Eg ops s0 x y=true):=by
     rw [List.append_assoc] at hP1; exact hP1
    have hP2':(A++i::(B++q::post)).Pairwise (fun x y=>Eg ops s0 x y=true):=by
     rw [List.append_assoc] at hP2; exact hP2
    have hsw:=hLeft'.swaps (A:=A) (s0:=s0) (fun x hx=>by simp [hx]) ho hpre fun x hx=>(List.pairwise_append.1 hP1').2.2 x hx i (by simp);have hO':=Ob.bubble hL0 A hsw hr.lv hag hO;refine wpOp_mono (fun a' w' ⟨s',u',m',ρ',r1,ra,r2⟩=>?_) (hO'.step (Q:=Q) hr);refine ih (A++B) _ (by simp at hlen ⊢; omega) (by rw [List.append_assoc]; exact hLeft'.next ho hpre) ?_ ?_ (hag.trans ra) r2 r1
    ·rw [List.append_assoc];exact hP1'.sublist (List.Sublist.append_left (List.sublist_cons_self i _) A)
    ·rw [List.append_assoc];exact hP2'.sublist (List.Sublist.append_left (List.sublist_cons_self i _) A)
   ·subst hm;have hsw:=hLeft.swaps (A:=pre) (s0:=s0) (fun x hx=>by simp [hx]) ho hpre fun x hx=>(List.pairwise_append.1 hP1).2.2 x hx i (by simp);have hO':=Ob.bubble hL0 pre hsw hr.lv hag (Ob.append (l2:=i::q::post) (hO.fin fun s u m h=>h.1));refine wpOp_mono (fun a' w' ⟨s',u',m',ρ',r1,ra,r2⟩=>?_) (hO'.step (Q:=Q) hr);exact (hLeft.next ho hpre).any hL0 hE hF (by simp; omega) hP2 (hag.trans ra) r2 r1
   ·subst hm;have hLeft':H8 ops listed (pre++i::p::post):=hLeft.perm ((List.Perm.swap i p post).append_left pre);have hsw:=hLeft'.swaps (A:=pre) (s0:=s0) (fun x hx=>by simp [hx]) ho hpre fun x hx=>(List.pairwise_append.1 hP2).2.2 x hx i (by simp);have hO':=Ob.bubble hL0 pre hsw hr.lv hag (Ob.append (l2:=i::p::post) (hO.fin fun s u m h=>h.2));refine wpOp_mono (fun a' w' ⟨s',u',m',ρ',r1,ra,r2⟩=>?_) (hO'.step (Q:=Q) hr);exact (hLeft'.next ho hpre).any hL0 hE hF (by simp; omega) hP1 (hag.trans ra) r2 r1
   ·exfalso;exact hLeft.no (x:=p) (by simp) (F4 hLeft.cl ops.size i (fun o' ho'=>by rw [ho] at ho'; obtain rfl:=Option.some.inj ho'; exact hpre) (hpost i hm))
def Qi (P:Program)(id:Nat)(ops:Array Oper):List Nat→S→Option S
 | [],s=>some s
 | i::l,s=>match ops[i]? with
  | some o=>match Fw s o with
   | true=>match gv s ops o with
    | some true=>match eff P (id*1000+i) s o.op with
     | some (x,hw)=>Qi P id ops l ((s.put o.dst x).setb hw)
     | none=>none
    | some false=>Qi P id ops l (s.put o.dst (.v undef))
    | none=>none
   | false=>none
  | none=>none
theorem Ob.autos:∀ {l:List Nat} {s s':S} {u m:PH},Qi P id ops l s=some s'→Fin s' u m→Ob P id ops dr Fin l s u m
 | [],s,s',u,m,h,hf=>by
  unfold Qi at h;cases h;exact .nil hf
 | i::l,s,s',u,m,h,hf=>by
  unfold Qi at h;split at h
  ·rename_i o ho;split at h
   ·rename_i hd;split at h
    ·rename_i hg;split at h
     ·rename_i x hw he;exact .auto ho hg hd he (Ob.autos h hf)
     ·cases h
    ·rename_i hg;exact .skip ho hg hd (Ob.autos h hf)
    ·cases h
   ·cases h
  ·cases h
def Ajo (ops:Array Oper)(s:S)(pre:List Nat)(p q:Nat)(post:List Nat):Bool :=
 Nat.beq (pre.length+(post.length+2)) ops.size && (List.range ops.size).all (fun i=>(pre++p::q::post).contains i) && (pre++p::q::post).all (fun i=>Nat.blt i ops.size) && Lk ops s (pre++p::post) && Lk ops s (pre++q::post) &&
  (List.range ops.size).all (Hq ops) && post.all (fun y=>bef ops ops.size y p) && !dir ops p q && !Nat.beq p q
end
section
variable {P:Program} {fn:Func} {Post:B0}
theorem Fb {ops:Array Oper}{s:S}(h:T.Pairwise (fun x y=>Eg ops s x y=true)):T.Nodup:=by
 refine h.imp fun {x y} hxy e=>?_;unfold Eg at hxy;subst e;simp at hxy
theorem Sym.reg_two (hm:P.follows .mixedOrders=true){id:Nat}{ops:Array Oper}{pre post:List Nat}{p q:Nat}{s:S}(hB:Ajo ops s pre p q post=true){k:List KI}{u m:PH}
  (h:Ob P id ops true (fun s u m=>Ob P id ops true (Oq P fn Post k) (p::q::post) s u m∧Ob P id ops true (Oq P fn Post k) (q::p::post) s u m) pre s u m):Oq P fn Post (.code (.region id ops true)::k) s u m:=by
 intro c ρ a w hm0 hr;simp only [Hs,Exit.then];unfold Ajo at hB;simp only [Bool.and_eq_true,Bool.not_eq_true'] at hB;obtain ⟨⟨⟨⟨⟨⟨⟨⟨b1,b2⟩,b3⟩,b4⟩,b5⟩,b6⟩,b7⟩,b8⟩,b9⟩:=hB;have b1:=Nat.eq_of_beq_eq_true b1;rw [List.all_eq_true] at b2 b3 b7;have P1:=D4 b4;have P2:=D4 b5;have n1:=Fb P1;have n2:=Fb P2;have hne:p≠q:=fun e=>by rw [e] at b9; simp at b9
 refine wp_region_any hm ?_;refine Ob.wpAny2 (c:=c) hr.lv b6 (fun s u m ρ a w hf hr=>hf c ρ a w hm0 hr) b7 b8 _ pre _ b1 ⟨by simp,fun i hi=>?_,fun i hi=>Nat.blt_eq ▸ b3 i hi,?_,fun i hi=>?_⟩ P1 P2 (Ei.refl _ _) h hr.drew
 ·have:=b2 i (by simpa using hi);rw [List.contains_iff_mem] at this;simp only [Array.getD_eq_getD_getElem?,Array.getElem?_replicate,hi,if_true,Option.getD_some];exact ⟨fun _=>this,fun _=>trivial⟩
 ·rw [List.nodup_append] at n1 n2 ⊢;simp only [List.nodup_cons,List.mem_cons] at n1 n2 ⊢;obtain ⟨a1,⟨a2,a3⟩,a4⟩:=n1;obtain ⟨c1,⟨c2,c3⟩,c4⟩:=n2;refine ⟨a1,⟨fun e=>e.elim hne a2,c2,c3⟩,fun x hx y hy=>?_⟩;rcases hy with rfl | rfl | hy
  ·exact a4 x hx _ (.inl rfl)
  ·exact c4 x hx _ (.inl rfl)
  ·exact a4 x hx _ (.inr hy)
 ·exfalso;simp only [Array.getD_eq_getD_getElem?] at hi;by_cases hlt:i < ops.size
  ·simp [hlt] at hi
  ·rw [Array.getElem?_eq_none (by simp; omega)] at hi; simp at hi
def Am8 (P:Program)(pre:List Nat)(p q:Nat)(post:List Nat)(st:List KI×S):Bool:=match st with
 | (.code (.region id ops true)::k,s)=>Ajo ops s pre p q post && (Qi P id ops pre s).isSome
 | _=>false
def Kz (P:Program)(pre l:List Nat)(st:List KI×S):List KI×S:=match st with
 | (.code (.region id ops true)::k,s)=>match Qi P id ops pre s with
  | some s'=>(.reg id ops true l::k,s')
  | none=>st
 | _=>st
end
section rules
variable {P:Program} [Ba P] {fn:Func} {Post:B0} {st:List KI×S} {u m:PH}
theorem G.both (pre:List Nat)(p q:Nat)(post:List Nat)(h:Am8 P pre p q post (adv P st)=true)(k1:G P fn Post (Kz P pre (p::q::post) (adv P st)) u m)(k2:G P fn Post (Kz P pre (q::p::post) (adv P st)) u m):G P fn Post st u m:=by
 refine G.stp ⟨?_⟩;generalize adv P st=st' at h k1 k2;unfold Am8 at h;split at h
 ·rename_i id ops k s;rw [Bool.and_eq_true] at h;obtain ⟨h1,h2⟩:=h;obtain ⟨s',hs'⟩:=Option.isSome_iff_exists.1 h2;have e:∀ l,Kz P pre l (.code (.region id ops true)::k,s)=(.reg id ops true l::k,s'):=fun l=>by unfold Kz; simp only [hs']
  rw [e] at k1 k2;exact Sym.reg_two Ba.mx h1 (Ob.autos hs' ⟨k1.out,k2.out⟩)
 ·cases h
end rules
end
section
open Go.RowKit Go.MapKept
section
variable {P:Program} {id:Nat} {ops:Array Oper} {dr:Bool} {Fin:S→PH→PH→Prop} {c:Cx} {Q:Exit→Act→World→Prop} {F:Fence}
end
section rules
variable {P:Program} [Ba P] {fn:Func} {Post:B0} {st:List KI×S} {u m:PH}
end rules
end
section
open Go.RowKit Go.MapKept
theorem ElP.sub {u:PH}{b off:Nat}{e x:Value}{k:Nat}(h:ElP u b off e)(hx:∀ i y,x.cells[i]?=some y→e.cells[k+i]?=some y):ElP u b (off+k) x:=fun i y hy=>by
 obtain ⟨cs,t,fr,h1,h2⟩:=h (k+i) y (hx i y hy);exact ⟨cs,t,fr,h1,by rw [Nat.add_assoc]; exact h2⟩
end
section
open Go.RowKit Go.MapKept
section
variable {P:Program} {l:Nat} {J J':S→PH→PH→Prop} {s:S} {u m:PH}
end
section
variable {P:Program} [Ba P] {fn:Func} {Post:B0} {st:List KI×S} {u m:PH}
end
end
section
open Go.RowKit Go.MapKept
variable {b sz:Nat}{es:List Value}{m m0:PH}{o:Obj}{t:TypeId}{v:Value}
theorem Ae.base (h:Ae m0 m v t sz es)(hb:m0 b≠none):Ae (m0.upd b o) (m.upd b o) v t sz es:=by
 obtain ⟨ho,h⟩:=h;rcases h with ⟨h1,h2,rfl⟩ | ⟨g,cap,rest,h1,rfl,h2,h3,h4,h5⟩
 ·exact ⟨ho,.inl ⟨h1,h2,rfl⟩⟩
 ·have hne:g≠b:=fun e=>by subst e; exact hb h1
  exact ⟨ho,.inr ⟨g,cap,rest,by rw [Ad _ _ hne]; exact h1,Jg _ _ _ hne,h2,h3,h4,h5⟩⟩
theorem Ae.see (h:Ae m0 m v t sz es)(hb:m0 b=some o):m b=some o:=h.le b o hb
end
section
open Go.RowKit Go.MapKept
variable {l:Nat}{m:PH}{o:Obj}
theorem Akp {l b:Nat}(h:b≠l):(m.upd b o).del l=(m.del l).upd b o:=by
 funext k
 by_cases e:k=l
 ·subst e;rw [Ad _ _ (fun e'=>h e'.symm)];simp [PH.del]
 ·by_cases e':k=b
  ·subst e'; rw [Ac]; simp [PH.del,e,Ac]
  ·rw [Ad _ _ e']; simp [PH.del,e,Ad _ _ e']
theorem W3 (h:m l=none):(m.upd l o).del l=m:=by
 funext k
 by_cases e:k=l
 ·subst e; simp [PH.del,h]
 ·simp [PH.del,e,Ad _ _ e]
theorem Aox (m:PH)(l:Nat):PH.le (m.del l) m:=fun g o h=>by
 unfold PH.del at h;split at h
 ·cases h
 ·exact h
theorem Ae.del {m0 m:PH}{v:Value}{t:TypeId}{sz:Nat}{es:List Value}{l:Nat}(h:Ae m0 m v t sz es)(hl:m0 l≠none):Ae (m0.del l) (m.del l) v t sz es:=by
 obtain ⟨ho,h⟩:=h;rcases h with ⟨h1,h2,rfl⟩ | ⟨g,cap,rest,h1,rfl,h2,h3,h4,h5⟩
 ·exact ⟨ho,.inl ⟨h1,h2,rfl⟩⟩
 ·have hne:g≠l:=fun e=>by subst e; exact hl h1
  exact ⟨ho,.inr ⟨g,cap,rest,by unfold PH.del; rw [if_neg hne]; exact h1,Akp hne,h2,h3,h4,h5⟩⟩
end
section
open Go.RowKit Go.MapKept
variable {k:Nat}{v:Value}
theorem Ae.fresh {m0 m:PH}{t:TypeId}{sz:Nat}{es:List Value}{b:Nat}{o:Obj}(h:Ae m0 m v t sz es)(hb:m b=none):Ae (m0.upd b o) (m.upd b o) v t sz es:=by
 obtain ⟨ho,h⟩:=h;rcases h with ⟨h1,h2,rfl⟩ | ⟨g,cap,rest,h1,rfl,h2,h3,h4,h5⟩
 ·exact ⟨ho,.inl ⟨h1,h2,rfl⟩⟩
 ·have hne:g≠b:=fun e=>by subst e; rw [Ac] at hb; cases hb
  exact ⟨ho,.inr ⟨g,cap,rest,by rw [Ad _ _ hne]; exact h1,Jg _ _ _ hne,h2,h3,h4,h5⟩⟩
section
variable {P:Program} [Ba P] {fn:Func} {Post:B0} {st:List KI×S} {u m:PH}
theorem G.appendL (e:TypeId)(sz bt:Nat)(z:Value)(m0:PH)(es xs:List Value)(v:Value)(a:Option Addr)(n c:Nat)(h:Al P (adv P st)=.app (some (e,sz,bt,z)) true [v,.slice a n c])(hz:z.cells.toList.all Be=true)(hzs:z.cells.size=sz)(hsz:0 < sz)
  (ha:Ae m0 m v e sz es) (hx:Ab u (.slice a n c) sz xs) (ho:A3 sz xs) (hb:(es.length+xs.length)*bt≤140737488355328) (hb2:es.length+xs.length≤9223372036854775807)
  (k:∀ v' m',Ae m0 m' v' e sz (es++xs)→G P fn Post (nx (adv P st) v') u m'):G P fn Post st u m:=by
 have hxl:n=xs.length:=by obtain ⟨_,_,e1,_⟩:=hx; cases e1; rfl
 cases xs with
 | nil =>
  simp only [List.length_nil] at hxl;subst hxl;obtain ⟨a1,c1,rfl⟩:=ha.shape;refine G.append0 e sz bt z a1 a es.length c1 c h ha.cap ?_;exact k _ _ (by rw [List.append_nil]; exact ha)
 | cons x xs =>
  obtain ⟨b,off,rfl,_⟩:=Ab.at' hx (j:=0) (e:=x) rfl;subst hxl;exact G.append e sz bt z m0 es (x::xs) v b off _ c h hz hzs hsz ha hx.els ho rfl (by simp) hb hb2 k
end
theorem Ame {u:PH}{L:List Par}{p:Par}(h:Ab u v 2 (L.map An))(hk:L[k]?=some p)(hn:∀ j,j < k→L[j]?≠some p)(hl:L.length≤1000000) :
  Fn0 prog 192 [v,An p] u fun r _=>r=.int .i64 (k:Int):=by
 obtain ⟨a,c,rfl⟩:=h.opn;rw [List.length_map] at h ⊢;obtain ⟨hkl,hkp⟩:=List.getElem?_eq_some_iff.1 hk;refine Fn0.o func192 ?_;refine G.l (ι:=Nat) (fun i=>[(0,.v (.slice a L.length c)),(3,.p 0 0),(7,.v (.int .i64 (L.length:Int))),(8,.v (.int .i64 (i:Int)))]) (fun _=>[(0,⟨79,[.v (.int .i64 p.1),.v (.string (mkS p.2))]⟩)])
  (fun i u' m'=>i≤k∧m'=PH.mt) (fun i=>k+1 - i) 0 ⟨by omega,rfl⟩ ?_
 rintro J i hJ u1 m1 l1 ⟨hi,rfl⟩;refine G.lT (i:Int) (L.length:Int) ?_;have hLi:L[i]?=some L[i]:=List.getElem?_eq_getElem (by omega);obtain ⟨ba,oa,rfl,ea⟩:=Ab.at' (h.mono l1) (j:=i) (e:=An L[i]) (by simp [hLi]);refine G.a ba oa L.length c i 2 (by omega) ?_;refine G.lU (some 2) ba (oa+i*2) (.agg #[.int .i64 L[i].1,.string (mkS L[i].2)]) ea ?_;by_cases he:p=L[i]
 ·have hik:i=k:=by
   rcases Nat.lt_or_ge i k with e | e
   ·exact absurd (by rw [hLi,← he]) (hn i e)
   ·omega
  refine G.eqAgg 79 #[.int .i64 p.1,.string (mkS p.2)] #[.int .i64 L[i].1,.string (mkS L[i].2)] true (by kernel_rfl) (by kernel_rfl) (by kernel_rfl) (fun w=>by rw [← decide_eq_true he]; exact Bt.eq p L[i] w) ?_;exact G.r (.int .i64 (i:Int)) ⟨rfl,by rw [hik]⟩
 ·have hik:i≠k:=fun e=>by subst e; exact he hkp.symm
  refine G.eqAgg 79 #[.int .i64 p.1,.string (mkS p.2)] #[.int .i64 L[i].1,.string (mkS L[i].2)] false (by kernel_rfl) (by kernel_rfl) (by kernel_rfl) (fun w=>by rw [← decide_eq_false he]; exact Bt.eq p L[i] w) ?_;refine G.i i ?_;exact G.b (hJ (i+1) _ _ _ cv l1 ⟨by omega,rfl⟩ (by omega))
def Ab9 (P:List Par)(L:List (Par×Rat)):List (List UInt8):=[49]::P.map fun p=>Af (Bi p L)
theorem Agp (P:List Par):Ab9 P [] = [49]::List.replicate P.length [48]:=by
 unfold Ab9
 congr 1
 have:(fun p:Par=>Af (Bi p []))=fun _=>[48]:=by funext p; unfold Bi; exact Hf
 rw [this,List.map_const']
theorem R4 {κ:Type}[DecidableEq κ]{a:κ}{x:κ×Rat}:∀ {L:List (κ×Rat)},x.1∉L.map (·.1)→Bi a (L++[x])=if a=x.1 then x.2 else Bi a L
 | [],_=>by obtain ⟨b,q⟩:=x; simp [Bi]
 | (b,q)::L,h=>by
  rw [List.map_cons,List.mem_cons,not_or] at h;rw [List.cons_append];unfold Bi;by_cases e:a=b
  ·rw [if_pos e,if_neg (fun e'=>h.1 (by rw [← e',e]))]; simp [e]
  ·rw [if_neg e,R4 h.2];simp [e]
theorem Og {κ:Type}{l:List κ}(h:l.Nodup){i j:Nat}{x:κ}(h1:l[i]?=some x)(h2:l[j]?=some x):i=j:=by
 obtain ⟨a1,a2⟩:=List.getElem?_eq_some_iff.1 h1;obtain ⟨b1,b2⟩:=List.getElem?_eq_some_iff.1 h2;rcases Nat.lt_trichotomy i j with e | e | e
 ·exact absurd (a2.trans b2.symm) (List.pairwise_iff_getElem.1 h i j a1 b1 e)
 ·exact e
 ·exact absurd (b2.trans a2.symm) (List.pairwise_iff_getElem.1 h j i b1 a1 e)
theorem Ae7 {P:List Par}{L:List (Par×Rat)}{x:Par×Rat}(hk:P[k]?=some x.1)(hn:P.Nodup)(hx:x.1∉L.map (·.1)):(Ab9 P L).set (k+1) (Af x.2)=Ab9 P (L++[x]):=by
 unfold Ab9;rw [List.set_cons_succ]
 congr 1
 obtain ⟨hkl,hkp⟩:=List.getElem?_eq_some_iff.1 hk;refine List.ext_getElem (by simp) fun j h1 h2=>?_;rw [List.getElem_set];simp only [List.getElem_map];rw [R4 hx];by_cases e:k=j
 ·subst e; rw [if_pos rfl,if_pos hkp]
 ·rw [if_neg e,if_neg];intro e';simp at h1;exact e (Og hn hk (by rw [List.getElem?_eq_getElem (by simpa using h1),e']))
end
section
open Go.RowKit Go.MapKept
variable {N:Nat}{k:Par×Par}{q:Rat}
def Am5 (T:TypeId):Op→Bool
 | .indexAddr t _ _=>Nat.beq t T
 | _=>false
section
variable {P:Program} [Ba P] {fn:Func} {Post:B0} {st:List KI×S} {u m:PH}
theorem G.addrA (t e:TypeId)(n b off j sz:Nat)(h:Al P (adv P st)=.addr none (.pointer (some ⟨b,off,none⟩)) (.int .i64 (j:Int)))(hq:U6 (Am5 t) (adv P st)=true)(hu:P.underlying t=some (.array n e))(hs:szB P e=some sz)(hj:j < n)
  (k:G P fn Post (nx (adv P st) (.pointer (some ⟨b,off+j*sz,none⟩))) u m):G P fn Post st u m:=by
 refine G.askQ (Am5 t) h hq (by simp) (fun env o hview hQ w _=>?_) k;obtain ⟨t',X,I,e1,e2,e3,_⟩:=Up hview;rw [e1] at hQ;have ht:=Nat.eq_of_beq_eq_true hQ;subst ht;obtain ⟨dst,opp,type,pos,after,guard⟩:=o;simp only at e1; subst e1;have h1:(0:Int)≤j∧(j:Int) < n:=by omega
 simp [execOp,Instr.indexAt,Instr.sureAddr,asIntOf,e2,e3,run_underlying hu,h1,Bf hs,Db];intro hh; omega
end
theorem Aej {m:PH}{b:Nat}{t:TypeId}(h:m b=some (.cells [Value.int .i64 k.1.1,.string (mkS k.1.2),.int .i64 k.2.1,.string (mkS k.2.2)].toArray t (0,0))):ElP m b (0+0*2) (An k.1)∧ElP m b (0+1*2) (An k.2):=by
 have h0:ElP m b 0 (.agg #[.int .i64 k.1.1,.string (mkS k.1.2),.int .i64 k.2.1,.string (mkS k.2.2)]):=Aa3 h rfl;refine ⟨h0.sub (k:=0) fun i y hy=>?_,h0.sub (k:=2) fun i y hy=>?_⟩
 ·match i,hy with
  | 0,hy=>simpa [An,Value.cells] using hy
  | 1,hy=>simpa [An,Value.cells] using hy
  | i+2,hy=>simp [An,Value.cells] at hy
 ·match i,hy with
  | 0,hy=>simpa [An,Value.cells] using hy
  | 1,hy=>simpa [An,Value.cells] using hy
  | i+2,hy=>simp [An,Value.cells] at hy
theorem SB.ten (h:SB q):Sz q 10000000000:=h.sz.mono (by omega)
theorem KO.fix (h:KO k):Ap k.1 k.2=k:=by unfold Ap; rw [if_neg h]
theorem C5.at {κ:Type}[DecidableEq κ]{enc:κ→Value}{K:κ→Prop}{u:PH}{o:Obj}{f:κ→Rat}(h:C5 enc K u o f N) :
  ∃ l:List (κ×Value),Ec enc o l∧(∀ p∈l,QP u p.2 (f p.1)∧K p.1)∧(∀ k,k∉l.map (·.1)→f k=0)∧l.length≤N:=by
 obtain ⟨l,h1,h2,h3,h4⟩:=h;exact ⟨l,h1,fun p hp=>⟨(h2 p hp).1,(h2 p hp).2.1⟩,h3,h4⟩
theorem Ahp {u mf:PH}{F H:CF}{N M:Nat}{vf vg vk:Value}(hf:H6 mf u vf F N)(hg:Ov u vg H M)(hk:QP u vk q)(hq:SB q)(sF:CFS F)(sH:CFS H)(sK:CFS (H.scale q))(sR:CFS (F.add (H.scale q))) :
  Ai prog 65 [vf,vg,vk] u mf fun v u' m'=>H6 m' u' v (F.add (H.scale q)) (N+M):=by
 obtain ⟨b,a,n,c,b',a',n',c',g1,g2,o1,o2,rfl,hF,ne3,rfl,h1,h2⟩:=hf;obtain ⟨wb,wa,wn,wc,wb',wa',wn',wc',w1,w2,p1,p2,rfl,hH,e1,e2,k1,k2⟩:=hg;obtain ⟨kb,ka,kn,kc,ka',kn',kc',rfl,_⟩:=hk.opn;obtain ⟨l1,⟨es1,clk1,rfl,hkv1,hst1⟩,hl1,hz1,hn1⟩:=k1.at;obtain ⟨l2,⟨es2,clk2,rfl,hkv2,hst2⟩,hl2,hz2,hn2⟩:=k2.at;have hnd1:(l1.map (·.1)).Nodup:=Ec.nodup (enc:=An) ⟨es1,clk1,rfl,hkv1,hst1⟩;have hnd2:(l2.map (·.1)).Nodup:=Ec.nodup (enc:=prV) ⟨es2,clk2,rfl,hkv2,hst2⟩;refine Ai.o func65 ?_;refine G.c call34 (Eo hH hk (SB.ten sH.c) hq.ten) ?_;intro v1 u1 le1 r1;obtain ⟨b1,a1,x1,c1,a1',x1',c1',rfl,_⟩:=r1.opn;refine G.c call33 (Lw (hF.mono le1) r1 (SB.ten sF.c) (SB.ten sK.c)) ?_;intro v2 u2 le2 r2;obtain ⟨b2,a2,x2,c2,a2',x2',c2',rfl,_⟩:=r2.opn;have le12:=le1.trans le2;obtain ⟨m2,hm2,hg2,hh2⟩:∃ m2:PH,m2=(PH.mt.upd g1 o1).upd g2 o2∧m2 g1=some o1∧m2 g2=some o2:=⟨_,rfl,by rw [Ad _ _ ne3,Ac],Ac _ _ _⟩;rw [← hm2];refine G.mapRange w1 es1 clk1 79 68 (by kernel_rfl) (.inl (le12 _ _ e1)) ?_;intro it him hiu;have i1:g1≠it:=fun e=>by subst e; rw [him] at hg2; cases hg2
 have i2:g2≠it:=fun e=>by subst e; rw [him] at hh2; cases hh2
 refine G.l (ι:=List MapEntry×List (Par×Value)) (fun _=>[(3,.p 0 0),(4,.p 1 0),(5,.p 2 0),(6,.p 3 0),(21,.v (.pointer (some ⟨it,0,none⟩)))])
  (fun _=>[(0,⟨136,[.v (.bool b2),.v (.slice a2 x2 c2),.v (.bool false),.v (.slice a2' x2' c2'),.v (.map (some g1)),.v (.map (some g2))]⟩),(1,⟨136,[.v (.bool wb),.v (.slice wa wn wc),.v (.bool wb'),.v (.slice wa' wn' wc'),.v (.map (some w1)),.v (.map (some w2))]⟩),(2,⟨68,[.v (.bool kb),.v (.slice ka kn kc),.v (.bool false),.v (.slice ka' kn' kc')]⟩),(3,⟨136,[.v (.bool false),.v (.slice none 0 0),.v (.bool false),.v (.slice none 0 0),.v (.map none),.v (.map none)]⟩)])
  (fun i u' m'=>Eq An es1 l1 i.1 i.2∧m' it=some (.mapIter (some w1) clk1 (Ar i.1) clk1)∧m' g2=some o2∧∃ o1',m' g1=some o1'∧C5 An KT u' o1' (Dd F.s H.s q (i.2.map (·.1))) (N+i.2.length))
  (fun i=>l1.length - i.2.length) ([],[])
  ⟨Eq.nil _ _,Ac _ _ _,by rw [Ad _ _ i2]; exact hh2,o1,by rw [Ad _ _ i1]; exact hg2,by
   have:Dd F.s H.s q (([]:List (Par×Value)).map (·.1))=F.s:=by funext k; simp [Dd]
   dsimp only; rw [this]; exact h1.mono le12⟩ ?_
 rintro J ⟨D,L⟩ hJ u3 m3 le3 ⟨hS,hit,hm2g,o1',hg1,hR⟩;simp only at hS hit hm2g hg1 hR hJ;have le13:=le12.trans le3;refine G.mapNextL Bt.inj it w1 es1 clk1 l1 D L (by kernel_rfl) (by kernel_rfl) hit (.inl (le13 _ _ e1)) hst1 hkv1 hnd1 hS ?done1 ?next1
 case next1 =>
  rintro ⟨k,xv⟩ e hp hkn he hek hev hS';simp only at hkn hek hev;have hx:=(hl1 _ hp).1;simp only at hx;obtain ⟨yb,ya,yn,yc,ya',yn',yc',rfl,_⟩:=hx.opn;refine G.mapEntry it w1 es1 clk1 D e (by kernel_rfl) (Ac _ _ _) (.inl (le13 _ _ e1)) hst1 he ?_;rw [hek,hev];refine G.c call34 (Eo (hx.mono le13) (hk.mono le13) (SB.ten (sH.s k)) hq.ten) ?_;intro v4 u4 le4 r4;obtain ⟨b4,a4,x4,c4,a4',x4',c4',rfl,_⟩:=r4.opn;refine G.callG _ _ (by kernel_rfl) (by kernel_rfl) call137 (g:=g1) (o:=o1') (by rw [Ad _ _ i1]; exact hg1)
   (Lp (g2:=some g2) (y1:=b2) (y2:=(a2,x2,c2)) (y3:=false) (y4:=(a2',x2',c2')) (hR.mono le4) r4 (sK.s k) (Md sF.s sR.s k) (by
    have:Dd F.s H.s q (L.map (·.1)) k=F.s k:=by unfold Dd; rw [if_neg hkn]
    rw [this,Rat.add_comm]; exact sR.s k)) ?_
  intro v5 u5 o5 le5 r5;rw [He _ _ _ hkn] at r5;refine G.b (hJ (D++[e],L++[(k,_)]) _ _ _ cv ((le3.trans le4).trans le5)
   ⟨hS',by rw [Ad _ _ (Ne.symm i1),Ac],by rw [Ad _ _ (Ne.symm ne3),Ad _ _ i2]; exact hm2g,o5,Ac _ _ _,by
    simpa [Nat.add_assoc] using r5⟩ (by have:=hS'.len; simp at this; dsimp only; simp; omega))
 case done1 =>
 intro hall;have hF1:Dd F.s H.s q (L.map (·.1))=(F.add (H.scale q)).s:=I4 _ _ _ fun k hk=>hz1 k fun hm=>hk (by
  obtain ⟨p,hp,rfl⟩:=List.mem_map.1 hm;exact List.mem_map.2 ⟨p,hall p hp,rfl⟩)
 rw [hF1] at hR;have hLl:=hS.len;refine G.mapRange w2 es2 clk2 206 68 (by kernel_rfl) (.inl (le13 _ _ e2)) ?_;intro it2 him2 hiu2;have j1:g1≠it2:=fun e=>by subst e; rw [him2] at hg1; cases hg1
 have j2:g2≠it2:=fun e=>by subst e; rw [him2] at hm2g; cases hm2g
 refine G.l (ι:=List MapEntry×List ((Par×Par)×Value)) (fun _=>[(3,.p 0 0),(4,.p 1 0),(5,.p 2 0),(6,.p 3 0),(35,.v (.pointer (some ⟨it2,0,none⟩)))])
  (fun _=>[(0,⟨136,[.v (.bool b2),.v (.slice a2 x2 c2),.v (.bool false),.v (.slice a2' x2' c2'),.v (.map (some g1)),.v (.map (some g2))]⟩),(1,⟨136,[.v (.bool wb),.v (.slice wa wn wc),.v (.bool wb'),.v (.slice wa' wn' wc'),.v (.map (some w1)),.v (.map (some w2))]⟩),(2,⟨68,[.v (.bool kb),.v (.slice ka kn kc),.v (.bool false),.v (.slice ka' kn' kc')]⟩),(3,⟨136,[.v (.bool false),.v (.slice none 0 0),.v (.bool false),.v (.slice none 0 0),.v (.map none),.v (.map none)]⟩)])
  (fun i u' m'=>Eq prV es2 l2 i.1 i.2∧m' it2=some (.mapIter (some w2) clk2 (Ar i.1) clk2)∧m' g1=some o1'∧∃ o2',m' g2=some o2'∧C5 prV KO u' o2' (Dd F.t H.t q (i.2.map (·.1))) (N+i.2.length))
  (fun i=>l2.length - i.2.length) ([],[])
  ⟨Eq.nil _ _,Ac _ _ _,by rw [Ad _ _ j1]; exact hg1,o2,by rw [Ad _ _ j2]; exact hm2g,by
   have:Dd F.t H.t q (([]:List ((Par×Par)×Value)).map (·.1))=F.t:=by funext k; simp [Dd]
   dsimp only; rw [this]; exact h2.mono le13⟩ ?_
 rintro J2 ⟨D2,L2⟩ hJ2 u6 m6 le6 ⟨hS2,hit2,hm1g,o2',hg22,hR2⟩;simp only at hS2 hit2 hm1g hg22 hR2 hJ2;have le16:=le13.trans le6;refine G.mapNextL G1.inj it2 w2 es2 clk2 l2 D2 L2 (by kernel_rfl) (by kernel_rfl) hit2 (.inl (le16 _ _ e2)) hst2 hkv2 hnd2 hS2 ?done2 ?next2
 case next2 =>
  rintro ⟨k,xv⟩ e hp hkn he hek hev hS';simp only at hkn hek hev;obtain ⟨hx,hko⟩:=hl2 _ hp;simp only at hx hko;have hfix:=hko.fix;obtain ⟨yb,ya,yn,yc,ya',yn',yc',rfl,_⟩:=hx.opn;refine G.mapEntry it2 w2 es2 clk2 D2 e (by kernel_rfl) (Ac _ _ _) (.inl (le16 _ _ e2)) hst2 he ?_;rw [hek,hev];refine G.pub 8003 206 [.int .i64 k.1.1,.string (mkS k.1.2),.int .i64 k.2.1,.string (mkS k.2.2)] (by kernel_rfl) (by kernel_rfl) ?_;intro bq hq1 hq2;have q1:g1≠bq:=fun e=>by subst e; rw [Ad _ _ j1,hm1g] at hq2; cases hq2
  have q2:g2≠bq:=fun e=>by subst e; rw [Ad _ _ j2,hg22] at hq2; cases hq2
  have q3:it2≠bq:=fun e=>by subst e; rw [Ac] at hq2; cases hq2
  obtain ⟨pe1,pe2⟩:=Aej (m:=(m6.upd it2 (.mapIter (some w2) clk2 (Ar (D2++[e])) clk2)).upd bq (.cells [Value.int .i64 k.1.1,.string (mkS k.1.2),.int .i64 k.2.1,.string (mkS k.2.2)].toArray 206 (0,0))) (Ac _ _ _);refine G.addrA 206 79 2 bq 0 0 2 (by kernel_rfl) (by kernel_rfl) (by kernel_rfl) (by kernel_rfl) (by omega) ?_;refine G.lM (some 2) bq (0+0*2) (.agg #[.int .i64 k.1.1,.string (mkS k.1.2)]) pe1 ?_;refine G.addrA 206 79 2 bq 0 1 2 (by kernel_rfl) (by kernel_rfl) (by kernel_rfl) (by kernel_rfl) (by omega) ?_;refine G.lM (some 2) bq (0+1*2) (.agg #[.int .i64 k.2.1,.string (mkS k.2.2)]) pe2 ?_;refine G.c call34 (Eo (hx.mono le16) (hk.mono le16) (SB.ten (sH.t k)) hq.ten) ?_;intro v4 u4 le4 r4;obtain ⟨b4,a4,x4,c4,a4',x4',c4',rfl,_⟩:=r4.opn;refine G.callG _ _ (by kernel_rfl) (by kernel_rfl) call138 (g:=g2) (o:=o2') (by rw [Ad _ _ q2,Ad _ _ j2]; exact hg22)
   (F7 (g1:=some g1) (y1:=b2) (y2:=(a2,x2,c2)) (y3:=false) (y4:=(a2',x2',c2')) (p:=k.1) (r:=k.2) (hR2.mono le4) r4 (sK.t k) (by rw [hfix]; exact Md sF.t sR.t k) (by
    have:Dd F.t H.t q (L2.map (·.1)) k=F.t k:=by unfold Dd; rw [if_neg hkn]
    rw [hfix,this,Rat.add_comm]; exact sR.t k)) ?_
  intro v5 u5 o5 le5 r5;rw [hfix,He _ _ _ hkn] at r5;refine G.b (hJ2 (D2++[e],L2++[(k,_)]) _ _ _ cv ((le6.trans le4).trans le5)
   ⟨hS',by rw [Ad _ _ (Ne.symm j2),Ad _ _ q3,Ac],by rw [Ad _ _ ne3,Ad _ _ q1,Ad _ _ j1]; exact hm1g,o5,Ac _ _ _,by
    simpa [Nat.add_assoc] using r5⟩ (by have:=hS'.len; simp at this; dsimp only; simp; omega))
 case done2 =>
 intro hall2;have hF2:Dd F.t H.t q (L2.map (·.1))=(F.add (H.scale q)).t:=I4 _ _ _ fun k hk=>hz2 k fun hm=>hk (by
  obtain ⟨p,hp,rfl⟩:=List.mem_map.1 hm;exact List.mem_map.2 ⟨p,hall2 p hp,rfl⟩)
 rw [hF2] at hR2;have hLl2:=hS2.len;refine G.drop ((PH.mt.upd g1 o1').upd g2 o2') (by kernel_rfl) (fun g o hg=>by
  by_cases e:g=g2
  ·subst e; rw [Ac] at hg; cases hg; exact hg22
  ·rw [Ad _ _ e] at hg;by_cases e:g=g1
   ·subst e; rw [Ac] at hg; cases hg; exact hm1g
   ·rw [Ad _ _ e] at hg; cases hg) ?_
 exact G.r (.agg #[.bool b2,.slice a2 x2 c2,.bool false,.slice a2' x2' c2',.map (some g1),.map (some g2)]) ⟨_,_,_,_,_,_,_,_,g1,g2,o1',o2',rfl,r2.mono (le3.trans le6),ne3,rfl,(hR.mono le6).up (by omega),hR2.up (by omega)⟩
end
section
open Go.RowKit Go.MapKept
theorem Ajm {u:PH}{F H:CF}{N M:Nat}{v w:Value}(hv:Ov u v F N)(hw:Ov u w H M)(ok:Am4 F H) :
  Ai prog 139 [v,w] u PH.mt fun v' u' m'=>H6 m' u' v' (F.mul H) (M+N+N*M):=by
 obtain ⟨vb,va,vn,vc,vb',va',vn',vc',v1,v2,q1,q2,rfl,hvc,f1,f2,s1,s2⟩:=id hv;obtain ⟨wb,wa,wn,wc,wb',wa',wn',wc',w1,w2,p1,p2,rfl,hwc,e1,e2,t1,t2⟩:=id hw;obtain ⟨lv,⟨esv,clv,rfl,hkv,hsv⟩,hlv,hzv,hnv⟩:=s1.at;obtain ⟨lw,⟨esw,clw,rfl,hkw,hsw⟩,hlw,hzw,hnw⟩:=t1.at;obtain ⟨kv,⟨fsv,dlv,rfl,hkv2,hsv2⟩,hlv2,hzv2,hnv2⟩:=s2.at;obtain ⟨kw,⟨fsw,dlw,rfl,hkw2,hsw2⟩,hlw2,hzw2,hnw2⟩:=t2.at;have hndv:(lv.map (·.1)).Nodup:=Ec.nodup (enc:=An) ⟨esv,clv,rfl,hkv,hsv⟩;have hndw:(lw.map (·.1)).Nodup:=Ec.nodup (enc:=An) ⟨esw,clw,rfl,hkw,hsw⟩;have hndv2:(kv.map (·.1)).Nodup:=Ec.nodup (enc:=prV) ⟨fsv,dlv,rfl,hkv2,hsv2⟩;have hndw2:(kw.map (·.1)).Nodup:=Ec.nodup (enc:=prV) ⟨fsw,dlw,rfl,hkw2,hsw2⟩;refine Ai.o func139 ?_;refine G.callO _ _ (by kernel_rfl) call63 (Hi (n:=0) (by omega) (by omega)) ?_;rintro v3 u3 m3 l3 ⟨b,a,n,c,b',a',n',c',g1,g2,o1,o2,rfl,_,ne3,rfl,h1,h2⟩ _;rw [C2];refine G.c call34 (Eo (hvc.mono l3) (hwc.mono l3) (SB.ten ok.a.c) (SB.ten ok.b.c)) ?_;intro v5 u5 l5 r5;obtain ⟨b2,a2,x2,c2,a2',x2',c2',rfl,_⟩:=r5.opn;have le5:=l3.trans l5;obtain ⟨m5,hm5,hg5,hh5⟩:∃ m5:PH,m5=(PH.mt.upd g1 o1).upd g2 o2∧m5 g1=some o1∧m5 g2=some o2:=⟨_,rfl,by rw [Ad _ _ ne3,Ac],Ac _ _ _⟩;rw [← hm5];have hc1:CFS (F.scale H.c):=ok.d;have hc2:CFS (H.scale F.c):=ok.c;have hsum:∀ k,SB ((F.scale H.c).s k+H.s k*F.c):=fun k=>by rw [Rat.add_comm]; exact ok.e.s k
 have hsumt:∀ k,SB ((F.scale H.c).t k+H.t k*F.c):=fun k=>by rw [Rat.add_comm]; exact ok.e.t k
 have hz1:∀ k:Par,SB ((fun _:Par=>(0:Rat)) k+F.s k*H.c):=fun k=>by show SB (0+F.s k*H.c); rw [Rat.zero_add]; exact hc1.s k
 have hz2:∀ k:Par×Par,SB ((fun _:Par×Par=>(0:Rat)) k+F.t k*H.c):=fun k=>by show SB (0+F.t k*H.c); rw [Rat.zero_add]; exact hc1.t k
 have hS0:C5 An KT u5 o1 (fun _=>0) 0:=h1.mono l5;have hP0:C5 prV KO u5 o2 (fun _=>0) 0:=h2.mono l5;have le0:=le5;refine G.mapRange v1 esv clv 79 68 (by kernel_rfl) (.inl (le5 _ _ f1)) ?_;intro itA himA hiuA;have i1A:g1≠itA:=fun e=>by subst e; rw [himA] at hg5; cases hg5
 have i2A:g2≠itA:=fun e=>by subst e; rw [himA] at hh5; cases hh5
 refine G.l (ι:=List MapEntry×List ((Par)×Value)) (fun _=>[(2,.p 0 0),(3,.p 1 0),(4,.p 2 0),(5,.p 1001 0),(28,.v (.pointer (some ⟨itA,0,none⟩)))])
  (fun _=>[(0,⟨136,[.v (.bool vb),.v (.slice va vn vc),.v (.bool vb'),.v (.slice va' vn' vc'),.v (.map (some v1)),.v (.map (some v2))]⟩),(1,⟨136,[.v (.bool wb),.v (.slice wa wn wc),.v (.bool wb'),.v (.slice wa' wn' wc'),.v (.map (some w1)),.v (.map (some w2))]⟩),(2,⟨136,[.v (.bool false),.v (.slice none 0 0),.v (.bool false),.v (.slice none 0 0),.v (.map none),.v (.map none)]⟩),(1001,⟨136,[.v (.bool b2),.v (.slice a2 x2 c2),.v (.bool false),.v (.slice a2' x2' c2'),.v (.map (some g1)),.v (.map (some g2))]⟩)])
  (fun i u' m'=>Eq An esv lv i.1 i.2∧m' itA=some (.mapIter (some v1) clv (Ar i.1) clv)∧m' g2=some o2∧∃ oo,m' g1=some oo∧C5 An KT u' oo (Dd (fun _=>0) F.s H.c (i.2.map (·.1))) (0+i.2.length))
  (fun i=>lv.length - i.2.length) ([],[])
  ⟨Eq.nil _ _,Ac _ _ _,by rw [Ad _ _ i2A]; exact hh5,_,by rw [Ad _ _ i1A]; exact hg5,by
   have:Dd (fun _=>0) F.s H.c (([]:List ((Par)×Value)).map (·.1))=(fun _=>0):=by funext k; simp [Dd]
   dsimp only; rw [this]; exact hS0⟩ ?_
 rintro JA ⟨D,LA⟩ hJA uA mA lA ⟨hS,hit,hothA,oA,hooA,hRA⟩;simp only at hS hit hothA hooA hRA hJA;have leA:=le5.trans lA;refine G.mapNextL Bt.inj itA v1 esv clv lv D LA (by kernel_rfl) (by kernel_rfl) hit (.inl (leA _ _ f1)) hsv hkv hndv hS ?doneA ?nextA
 case nextA =>
  rintro ⟨k,xv⟩ e hp hkn he hek hev hS';simp only at hkn hek hev;obtain ⟨hx,hko⟩:=hlv _ hp;simp only at hx hko;obtain ⟨yb,ya,yn,yc,ya',yn',yc',rfl,_⟩:=hx.opn;refine G.mapEntry itA v1 esv clv D e (by kernel_rfl) (Ac _ _ _) (.inl (leA _ _ f1)) hsv he ?_;rw [hek,hev];refine G.c call34 (Eo (hx.mono leA) (hwc.mono leA) (SB.ten (ok.a.s k)) (SB.ten ok.b.c)) ?_;intro v4 u4 le4 r4;obtain ⟨b4,a4,x4,c4,a4',x4',c4',rfl,_⟩:=r4.opn;refine G.callG _ _ (by kernel_rfl) (by kernel_rfl) call137 (g:=g1) (o:=oA) (by rw [Ad _ _ i1A]; exact hooA)
   (Lp (g2:=some g2) (y1:=b2) (y2:=(a2,x2,c2)) (y3:=false) (y4:=(a2',x2',c2')) (hRA.mono le4) r4 (hc1.s k) (Md (fun _=>SB.zero) hz1 k) (by
    have:Dd (fun _=>0) F.s H.c (LA.map (·.1)) k=(fun _=>0) k:=by unfold Dd; rw [if_neg hkn]
    rw [this,Rat.add_comm]; exact hz1 k)) ?_
  intro v5 u5 o5 le5' r5';rw [He _ _ _ hkn] at r5';refine G.b (hJA (D++[e],LA++[(k,_)]) _ _ _ cv ((lA.trans le4).trans le5')
   ⟨hS',by rw [Ad _ _ (Ne.symm i1A),Ac],by rw [Ad _ _ (Ne.symm ne3),Ad _ _ i2A]; exact hothA,o5,Ac _ _ _,by
    simpa [Nat.add_assoc] using r5'⟩ (by have:=hS'.len; simp at this; dsimp only; simp; omega))
 case doneA =>
 intro hall;rw [I4 _ _ _ fun k hk=>hzv k fun hm=>hk (by
  obtain ⟨p,hp,rfl⟩:=List.mem_map.1 hm;exact List.mem_map.2 ⟨p,hall p hp,rfl⟩)] at hRA
 have hLlA:=hS.len;have hSA:=hRA.congr (f':=(F.scale H.c).s) (fun k=>by show 0+F.s k*H.c=F.s k*H.c; rw [Rat.zero_add]);have hPA:=hP0.mono lA;clear hJA hS hit hall hRA;refine G.mapRange w1 esw clw 79 68 (by kernel_rfl) (.inl (leA _ _ e1)) ?_;intro itB himB hiuB;have i1B:g1≠itB:=fun e=>by subst e; rw [himB] at hooA; cases hooA
 have i2B:g2≠itB:=fun e=>by subst e; rw [himB] at hothA; cases hothA
 refine G.l (ι:=List MapEntry×List ((Par)×Value)) (fun _=>[(2,.p 0 0),(3,.p 1 0),(4,.p 2 0),(5,.p 1001 0),(43,.v (.pointer (some ⟨itB,0,none⟩)))])
  (fun _=>[(0,⟨136,[.v (.bool vb),.v (.slice va vn vc),.v (.bool vb'),.v (.slice va' vn' vc'),.v (.map (some v1)),.v (.map (some v2))]⟩),(1,⟨136,[.v (.bool wb),.v (.slice wa wn wc),.v (.bool wb'),.v (.slice wa' wn' wc'),.v (.map (some w1)),.v (.map (some w2))]⟩),(2,⟨136,[.v (.bool false),.v (.slice none 0 0),.v (.bool false),.v (.slice none 0 0),.v (.map none),.v (.map none)]⟩),(1001,⟨136,[.v (.bool b2),.v (.slice a2 x2 c2),.v (.bool false),.v (.slice a2' x2' c2'),.v (.map (some g1)),.v (.map (some g2))]⟩)])
  (fun i u' m'=>Eq An esw lw i.1 i.2∧m' itB=some (.mapIter (some w1) clw (Ar i.1) clw)∧m' g2=some o2∧∃ oo,m' g1=some oo∧C5 An KT u' oo (Dd (F.scale H.c).s H.s F.c (i.2.map (·.1))) (0+LA.length+i.2.length))
  (fun i=>lw.length - i.2.length) ([],[])
  ⟨Eq.nil _ _,Ac _ _ _,by rw [Ad _ _ i2B]; exact hothA,_,by rw [Ad _ _ i1B]; exact hooA,by
   have:Dd (F.scale H.c).s H.s F.c (([]:List ((Par)×Value)).map (·.1))=(F.scale H.c).s:=by funext k; simp [Dd]
   dsimp only; rw [this]; exact hSA⟩ ?_
 rintro JB ⟨D,LB⟩ hJB uB mB lB ⟨hS,hit,hothB,oB,hooB,hRB⟩;simp only at hS hit hothB hooB hRB hJB;have leB:=leA.trans lB;refine G.mapNextL Bt.inj itB w1 esw clw lw D LB (by kernel_rfl) (by kernel_rfl) hit (.inl (leB _ _ e1)) hsw hkw hndw hS ?doneB ?nextB
 case nextB =>
  rintro ⟨k,xv⟩ e hp hkn he hek hev hS';simp only at hkn hek hev;obtain ⟨hx,hko⟩:=hlw _ hp;simp only at hx hko;obtain ⟨yb,ya,yn,yc,ya',yn',yc',rfl,_⟩:=hx.opn;refine G.mapEntry itB w1 esw clw D e (by kernel_rfl) (Ac _ _ _) (.inl (leB _ _ e1)) hsw he ?_;rw [hek,hev];refine G.c call34 (Eo (hx.mono leB) (hvc.mono leB) (SB.ten (ok.b.s k)) (SB.ten ok.a.c)) ?_;intro v4 u4 le4 r4;obtain ⟨b4,a4,x4,c4,a4',x4',c4',rfl,_⟩:=r4.opn;refine G.callG _ _ (by kernel_rfl) (by kernel_rfl) call137 (g:=g1) (o:=oB) (by rw [Ad _ _ i1B]; exact hooB)
   (Lp (g2:=some g2) (y1:=b2) (y2:=(a2,x2,c2)) (y3:=false) (y4:=(a2',x2',c2')) (hRB.mono le4) r4 (hc2.s k) (Md hc1.s hsum k) (by
    have:Dd (F.scale H.c).s H.s F.c (LB.map (·.1)) k=(F.scale H.c).s k:=by unfold Dd; rw [if_neg hkn]
    rw [this,Rat.add_comm]; exact hsum k)) ?_
  intro v5 u5 o5 le5' r5';rw [He _ _ _ hkn] at r5';refine G.b (hJB (D++[e],LB++[(k,_)]) _ _ _ cv ((lB.trans le4).trans le5')
   ⟨hS',by rw [Ad _ _ (Ne.symm i1B),Ac],by rw [Ad _ _ (Ne.symm ne3),Ad _ _ i2B]; exact hothB,o5,Ac _ _ _,by
    simpa [Nat.add_assoc] using r5'⟩ (by have:=hS'.len; simp at this; dsimp only; simp; omega))
 case doneB =>
 intro hall;rw [I4 _ _ _ fun k hk=>hzw k fun hm=>hk (by
  obtain ⟨p,hp,rfl⟩:=List.mem_map.1 hm;exact List.mem_map.2 ⟨p,hall p hp,rfl⟩)] at hRB
 have hLlB:=hS.len;have hSB:=hRB.congr (f':=(F.mul H).s) (fun k=>by show F.s k*H.c+H.s k*F.c=H.s k*F.c+F.s k*H.c; rw [Rat.add_comm]);have hPB:=hPA.mono lB;clear hJB hS hit hall hRB;refine G.mapRange v2 fsv dlv 206 68 (by kernel_rfl) (.inl (leB _ _ f2)) ?_;intro itC himC hiuC;have i1C:g1≠itC:=fun e=>by subst e; rw [himC] at hooB; cases hooB
 have i2C:g2≠itC:=fun e=>by subst e; rw [himC] at hothB; cases hothB
 refine G.l (ι:=List MapEntry×List ((Par×Par)×Value)) (fun _=>[(2,.p 0 0),(3,.p 1 0),(4,.p 2 0),(5,.p 1001 0),(58,.v (.pointer (some ⟨itC,0,none⟩)))])
  (fun _=>[(0,⟨136,[.v (.bool vb),.v (.slice va vn vc),.v (.bool vb'),.v (.slice va' vn' vc'),.v (.map (some v1)),.v (.map (some v2))]⟩),(1,⟨136,[.v (.bool wb),.v (.slice wa wn wc),.v (.bool wb'),.v (.slice wa' wn' wc'),.v (.map (some w1)),.v (.map (some w2))]⟩),(2,⟨136,[.v (.bool false),.v (.slice none 0 0),.v (.bool false),.v (.slice none 0 0),.v (.map none),.v (.map none)]⟩),(1001,⟨136,[.v (.bool b2),.v (.slice a2 x2 c2),.v (.bool false),.v (.slice a2' x2' c2'),.v (.map (some g1)),.v (.map (some g2))]⟩)])
  (fun i u' m'=>Eq prV fsv kv i.1 i.2∧m' itC=some (.mapIter (some v2) dlv (Ar i.1) dlv)∧m' g1=some oB∧∃ oo,m' g2=some oo∧C5 prV KO u' oo (Dd (fun _=>0) F.t H.c (i.2.map (·.1))) (0+i.2.length))
  (fun i=>kv.length - i.2.length) ([],[])
  ⟨Eq.nil _ _,Ac _ _ _,by rw [Ad _ _ i1C]; exact hooB,_,by rw [Ad _ _ i2C]; exact hothB,by
   have:Dd (fun _=>0) F.t H.c (([]:List ((Par×Par)×Value)).map (·.1))=(fun _=>0):=by funext k; simp [Dd]
   dsimp only; rw [this]; exact hPB⟩ ?_
 rintro JC ⟨D,LC⟩ hJC uC mC lC ⟨hS,hit,hothC,oC,hooC,hRC⟩;simp only at hS hit hothC hooC hRC hJC;have leC:=leB.trans lC;refine G.mapNextL G1.inj itC v2 fsv dlv kv D LC (by kernel_rfl) (by kernel_rfl) hit (.inl (leC _ _ f2)) hsv2 hkv2 hndv2 hS ?doneC ?nextC
 case nextC =>
  rintro ⟨k,xv⟩ e hp hkn he hek hev hS';simp only at hkn hek hev;obtain ⟨hx,hko⟩:=hlv2 _ hp;simp only at hx hko;obtain ⟨yb,ya,yn,yc,ya',yn',yc',rfl,_⟩:=hx.opn;refine G.mapEntry itC v2 fsv dlv D e (by kernel_rfl) (Ac _ _ _) (.inl (leC _ _ f2)) hsv2 he ?_;rw [hek,hev];have hfix:=hko.fix;refine G.pub 13003 206 [.int .i64 k.1.1,.string (mkS k.1.2),.int .i64 k.2.1,.string (mkS k.2.2)] (by kernel_rfl) (by kernel_rfl) ?_;intro bq hq1 hq2;have q1:g1≠bq:=fun e=>by subst e; rw [Ad _ _ i1C,hothC] at hq2; cases hq2
  have q2:g2≠bq:=fun e=>by subst e; rw [Ad _ _ i2C,hooC] at hq2; cases hq2
  have q3:itC≠bq:=fun e=>by subst e; rw [Ac] at hq2; cases hq2
  obtain ⟨pe1,pe2⟩:=Aej (m:=(mC.upd itC (.mapIter (some v2) dlv (Ar (D++[e])) dlv)).upd bq (.cells [Value.int .i64 k.1.1,.string (mkS k.1.2),.int .i64 k.2.1,.string (mkS k.2.2)].toArray 206 (0,0))) (Ac _ _ _);refine G.addrA 206 79 2 bq 0 0 2 (by kernel_rfl) (by kernel_rfl) (by kernel_rfl) (by kernel_rfl) (by omega) ?_;refine G.lM (some 2) bq (0+0*2) (.agg #[.int .i64 k.1.1,.string (mkS k.1.2)]) pe1 ?_;refine G.addrA 206 79 2 bq 0 1 2 (by kernel_rfl) (by kernel_rfl) (by kernel_rfl) (by kernel_rfl) (by omega) ?_;refine G.lM (some 2) bq (0+1*2) (.agg #[.int .i64 k.2.1,.string (mkS k.2.2)]) pe2 ?_;refine G.c call34 (Eo (hx.mono leC) (hwc.mono leC) (SB.ten (ok.a.t k)) (SB.ten ok.b.c)) ?_;intro v4 u4 le4 r4;obtain ⟨b4,a4,x4,c4,a4',x4',c4',rfl,_⟩:=r4.opn;refine G.callG _ _ (by kernel_rfl) (by kernel_rfl) call138 (g:=g2) (o:=oC) (by rw [Ad _ _ q2,Ad _ _ i2C]; exact hooC)
   (F7 (g1:=some g1) (y1:=b2) (y2:=(a2,x2,c2)) (y3:=false) (y4:=(a2',x2',c2')) (p:=k.1) (r:=k.2) (hRC.mono le4) r4 (hc1.t k) (by rw [hfix]; exact Md (fun _=>SB.zero) hz2 k) (by
    have:Dd (fun _=>0) F.t H.c (LC.map (·.1)) k=(fun _=>0) k:=by unfold Dd; rw [if_neg hkn]
    rw [hfix,this,Rat.add_comm]; exact hz2 k)) ?_
  intro v5 u5 o5 le5' r5';rw [hfix,He _ _ _ hkn] at r5';refine G.b (hJC (D++[e],LC++[(k,_)]) _ _ _ cv ((lC.trans le4).trans le5')
   ⟨hS',by rw [Ad _ _ (Ne.symm i2C),Ad _ _ q3,Ac],by rw [Ad _ _ ne3,Ad _ _ q1,Ad _ _ i1C]; exact hothC,o5,Ac _ _ _,by
    simpa [Nat.add_assoc] using r5'⟩ (by have:=hS'.len; simp at this; dsimp only; simp; omega))
 case doneC =>
 intro hall;rw [I4 _ _ _ fun k hk=>hzv2 k fun hm=>hk (by
  obtain ⟨p,hp,rfl⟩:=List.mem_map.1 hm;exact List.mem_map.2 ⟨p,hall p hp,rfl⟩)] at hRC
 have hLlC:=hS.len;have hPC:=hRC.congr (f':=(F.scale H.c).t) (fun k=>by show 0+F.t k*H.c=F.t k*H.c; rw [Rat.zero_add]);have hSC:=hSB.mono lC;clear hJC hS hit hall hRC;refine G.mapRange w2 fsw dlw 206 68 (by kernel_rfl) (.inl (leC _ _ e2)) ?_;intro itD himD hiuD;have i1D:g1≠itD:=fun e=>by subst e; rw [himD] at hothC; cases hothC
 have i2D:g2≠itD:=fun e=>by subst e; rw [himD] at hooC; cases hooC
 refine G.l (ι:=List MapEntry×List ((Par×Par)×Value)) (fun _=>[(2,.p 0 0),(3,.p 1 0),(4,.p 2 0),(5,.p 1001 0),(76,.v (.pointer (some ⟨itD,0,none⟩)))])
  (fun _=>[(0,⟨136,[.v (.bool vb),.v (.slice va vn vc),.v (.bool vb'),.v (.slice va' vn' vc'),.v (.map (some v1)),.v (.map (some v2))]⟩),(1,⟨136,[.v (.bool wb),.v (.slice wa wn wc),.v (.bool wb'),.v (.slice wa' wn' wc'),.v (.map (some w1)),.v (.map (some w2))]⟩),(2,⟨136,[.v (.bool false),.v (.slice none 0 0),.v (.bool false),.v (.slice none 0 0),.v (.map none),.v (.map none)]⟩),(1001,⟨136,[.v (.bool b2),.v (.slice a2 x2 c2),.v (.bool false),.v (.slice a2' x2' c2'),.v (.map (some g1)),.v (.map (some g2))]⟩)])
  (fun i u' m'=>Eq prV fsw kw i.1 i.2∧m' itD=some (.mapIter (some w2) dlw (Ar i.1) dlw)∧m' g1=some oB∧∃ oo,m' g2=some oo∧C5 prV KO u' oo (Dd (F.scale H.c).t H.t F.c (i.2.map (·.1))) (0+LC.length+i.2.length))
  (fun i=>kw.length - i.2.length) ([],[])
  ⟨Eq.nil _ _,Ac _ _ _,by rw [Ad _ _ i1D]; exact hothC,_,by rw [Ad _ _ i2D]; exact hooC,by
   have:Dd (F.scale H.c).t H.t F.c (([]:List ((Par×Par)×Value)).map (·.1))=(F.scale H.c).t:=by funext k; simp [Dd]
   dsimp only; rw [this]; exact hPC⟩ ?_
 rintro JD ⟨D,LD⟩ hJD uD mD lD ⟨hS,hit,hothD,oD,hooD,hRD⟩;simp only at hS hit hothD hooD hRD hJD;have leD:=leC.trans lD;refine G.mapNextL G1.inj itD w2 fsw dlw kw D LD (by kernel_rfl) (by kernel_rfl) hit (.inl (leD _ _ e2)) hsw2 hkw2 hndw2 hS ?doneD ?nextD
 case nextD =>
  rintro ⟨k,xv⟩ e hp hkn he hek hev hS';simp only at hkn hek hev;obtain ⟨hx,hko⟩:=hlw2 _ hp;simp only at hx hko;obtain ⟨yb,ya,yn,yc,ya',yn',yc',rfl,_⟩:=hx.opn;refine G.mapEntry itD w2 fsw dlw D e (by kernel_rfl) (Ac _ _ _) (.inl (leD _ _ e2)) hsw2 he ?_;rw [hek,hev];have hfix:=hko.fix;refine G.pub 17003 206 [.int .i64 k.1.1,.string (mkS k.1.2),.int .i64 k.2.1,.string (mkS k.2.2)] (by kernel_rfl) (by kernel_rfl) ?_;intro bq hq1 hq2;have q1:g1≠bq:=fun e=>by subst e; rw [Ad _ _ i1D,hothD] at hq2; cases hq2
  have q2:g2≠bq:=fun e=>by subst e; rw [Ad _ _ i2D,hooD] at hq2; cases hq2
  have q3:itD≠bq:=fun e=>by subst e; rw [Ac] at hq2; cases hq2
  obtain ⟨pe1,pe2⟩:=Aej (m:=(mD.upd itD (.mapIter (some w2) dlw (Ar (D++[e])) dlw)).upd bq (.cells [Value.int .i64 k.1.1,.string (mkS k.1.2),.int .i64 k.2.1,.string (mkS k.2.2)].toArray 206 (0,0))) (Ac _ _ _);refine G.addrA 206 79 2 bq 0 0 2 (by kernel_rfl) (by kernel_rfl) (by kernel_rfl) (by kernel_rfl) (by omega) ?_;refine G.lM (some 2) bq (0+0*2) (.agg #[.int .i64 k.1.1,.string (mkS k.1.2)]) pe1 ?_;refine G.addrA 206 79 2 bq 0 1 2 (by kernel_rfl) (by kernel_rfl) (by kernel_rfl) (by kernel_rfl) (by omega) ?_;refine G.lM (some 2) bq (0+1*2) (.agg #[.int .i64 k.2.1,.string (mkS k.2.2)]) pe2 ?_;refine G.c call34 (Eo (hx.mono leD) (hvc.mono leD) (SB.ten (ok.b.t k)) (SB.ten ok.a.c)) ?_;intro v4 u4 le4 r4;obtain ⟨b4,a4,x4,c4,a4',x4',c4',rfl,_⟩:=r4.opn;refine G.callG _ _ (by kernel_rfl) (by kernel_rfl) call138 (g:=g2) (o:=oD) (by rw [Ad _ _ q2,Ad _ _ i2D]; exact hooD)
   (F7 (g1:=some g1) (y1:=b2) (y2:=(a2,x2,c2)) (y3:=false) (y4:=(a2',x2',c2')) (p:=k.1) (r:=k.2) (hRD.mono le4) r4 (hc2.t k) (by rw [hfix]; exact Md hc1.t hsumt k) (by
    have:Dd (F.scale H.c).t H.t F.c (LD.map (·.1)) k=(F.scale H.c).t k:=by unfold Dd; rw [if_neg hkn]
    rw [hfix,this,Rat.add_comm]; exact hsumt k)) ?_
  intro v5 u5 o5 le5' r5';rw [hfix,He _ _ _ hkn] at r5';refine G.b (hJD (D++[e],LD++[(k,_)]) _ _ _ cv ((lD.trans le4).trans le5')
   ⟨hS',by rw [Ad _ _ (Ne.symm i2D),Ad _ _ q3,Ac],by rw [Ad _ _ ne3,Ad _ _ q1,Ad _ _ i1D]; exact hothD,o5,Ac _ _ _,by
    simpa [Nat.add_assoc] using r5'⟩ (by have:=hS'.len; simp at this; dsimp only; simp; omega))
 case doneD =>
 intro hall;rw [I4 _ _ _ fun k hk=>hzw2 k fun hm=>hk (by
  obtain ⟨p,hp,rfl⟩:=List.mem_map.1 hm;exact List.mem_map.2 ⟨p,hall p hp,rfl⟩)] at hRD
 have hLlD:=hS.len;have hPD:=hRD.congr (f':=((H.scale F.c).add (F.scale H.c)).t) (fun k=>by show F.t k*H.c+H.t k*F.c=H.t k*F.c+F.t k*H.c; rw [Rat.add_comm]);have hSD:=hSC.mono lD;clear hJD hS hit hall hRD;obtain ⟨base,hbase⟩:∃ base:Par×Par→Rat,base=((H.scale F.c).add (F.scale H.c)).t:=⟨_,rfl⟩;have hacc:=ok.acc;rw [← hbase] at hPD hacc;have okp:=ok.pr;have okc:=ok.con;refine G.mapRange v1 esv clv 79 68 (by kernel_rfl) (.inl (leD _ _ f1)) ?_;intro it him hiu;have i1:g1≠it:=fun e=>by subst e; rw [him] at hothD; cases hothD
 have i2:g2≠it:=fun e=>by subst e; rw [him] at hooD; cases hooD
 refine G.l (ι:=List MapEntry×List (Par×Value)) (fun _=>[(2,.p 0 0),(3,.p 1 0),(4,.p 2 0),(5,.p 1001 0),(94,.v (.pointer (some ⟨it,0,none⟩)))])
  (fun _=>[(0,⟨136,[.v (.bool vb),.v (.slice va vn vc),.v (.bool vb'),.v (.slice va' vn' vc'),.v (.map (some v1)),.v (.map (some v2))]⟩),(1,⟨136,[.v (.bool wb),.v (.slice wa wn wc),.v (.bool wb'),.v (.slice wa' wn' wc'),.v (.map (some w1)),.v (.map (some w2))]⟩),(2,⟨136,[.v (.bool false),.v (.slice none 0 0),.v (.bool false),.v (.slice none 0 0),.v (.map none),.v (.map none)]⟩),(1001,⟨136,[.v (.bool b2),.v (.slice a2 x2 c2),.v (.bool false),.v (.slice a2' x2' c2'),.v (.map (some g1)),.v (.map (some g2))]⟩)])
  (fun i u' m'=>Eq An esv lv i.1 i.2∧m' it=some (.mapIter (some v1) clv (Ar i.1) clv)∧m' g1=some oB∧∃ Ps:List (Par×Par),Ps.Nodup∧(∀ x:Par×Par,x∈Ps↔x.1∈i.2.map (·.1)∧x.2∈lw.map (·.1))∧∃ o2',m' g2=some o2'∧C5 prV KO u' o2' (fun k=>base k+Dj F H Ps k) (0+LC.length+LD.length+i.2.length*lw.length))
  (fun i=>lv.length - i.2.length) ([],[])
  ⟨Eq.nil _ _,Ac _ _ _,by rw [Ad _ _ i1]; exact hothD,[],by simp,by simp,oD,by rw [Ad _ _ i2]; exact hooD,(hPD.congr fun k=>by simp only [Dj]; grind).up (by simp)⟩ ?_
 rintro J ⟨D,L⟩ hJ u6 m6 l6 ⟨hS,hit,hm1g,Ps,hPn,hPm,o2',hg2,hR⟩;simp only at hS hit hm1g hPm hg2 hR hJ;have le6:=leD.trans l6;refine G.mapNextL Bt.inj it v1 esv clv lv D L (by kernel_rfl) (by kernel_rfl) hit (.inl (le6 _ _ f1)) hsv hkv hndv hS ?done1 ?next1
 case next1 =>
  rintro ⟨p,xv⟩ e hp hpn he hek hev hS';simp only at hpn hek hev;have hx:=(hlv _ hp).1;simp only at hx;obtain ⟨yb,ya,yn,yc,ya',yn',yc',rfl,_⟩:=hx.opn;refine G.mapEntry it v1 esv clv D e (by kernel_rfl) (Ac _ _ _) (.inl (le6 _ _ f1)) hsv he ?_;rw [hek,hev];refine G.mapRange w1 esw clw 79 68 (by kernel_rfl) (.inl (le6 _ _ e1)) ?_;intro it2 him2 hiu2;have j1:g1≠it2:=fun e=>by subst e; rw [Ad _ _ i1,hm1g] at him2; cases him2
  have j2:g2≠it2:=fun e=>by subst e; rw [Ad _ _ i2,hg2] at him2; cases him2
  have k1:it≠it2:=fun e=>by subst e; rw [Ac] at him2; cases him2
  refine G.l (ι:=List MapEntry×List (Par×Value)) (fun _=>[(2,.p 0 0),(3,.p 1 0),(4,.p 2 0),(5,.p 1001 0),(14,.p 21003 0),(15,.p 21004 0),(94,.v (.pointer (some ⟨it,0,none⟩))),(102,.v (.pointer (some ⟨it2,0,none⟩)))])
   (fun _=>[(0,⟨136,[.v (.bool vb),.v (.slice va vn vc),.v (.bool vb'),.v (.slice va' vn' vc'),.v (.map (some v1)),.v (.map (some v2))]⟩),(1,⟨136,[.v (.bool wb),.v (.slice wa wn wc),.v (.bool wb'),.v (.slice wa' wn' wc'),.v (.map (some w1)),.v (.map (some w2))]⟩),(2,⟨136,[.v (.bool false),.v (.slice none 0 0),.v (.bool false),.v (.slice none 0 0),.v (.map none),.v (.map none)]⟩),(1001,⟨136,[.v (.bool b2),.v (.slice a2 x2 c2),.v (.bool false),.v (.slice a2' x2' c2'),.v (.map (some g1)),.v (.map (some g2))]⟩),(21003,⟨79,[.v (.int .i64 p.1),.v (.string (mkS p.2))]⟩),(21004,⟨68,[.v (.bool yb),.v (.slice ya yn yc),.v (.bool false),.v (.slice ya' yn' yc')]⟩)])
   (fun i u' m'=>Eq An esw lw i.1 i.2∧m' it2=some (.mapIter (some w1) clw (Ar i.1) clw)∧m' it=some (.mapIter (some v1) clv (Ar (D++[e])) clv)∧m' g1=some oB∧∃ Qs:List (Par×Par),Qs.Nodup∧(∀ x:Par×Par,x∈Qs↔(x.1∈L.map (·.1)∧x.2∈lw.map (·.1))∨(x.1=p∧x.2∈i.2.map (·.1)))∧∃ oi,m' g2=some oi∧C5 prV KO u' oi (fun k=>base k+Dj F H Qs k) (0+LC.length+LD.length+L.length*lw.length+i.2.length))
   (fun i=>lw.length - i.2.length) ([],[])
   ⟨Eq.nil _ _,Ac _ _ _,by rw [Ad _ _ k1,Ac],by rw [Ad _ _ j1,Ad _ _ i1]; exact hm1g,Ps,hPn,by intro x; rw [hPm]; simp,o2',by rw [Ad _ _ j2,Ad _ _ i2]; exact hg2,hR⟩ ?_
  rintro J2 ⟨D2,L2⟩ iJ ui mi ile ⟨iS,iit2,iit,ig1,Qs,hQn,hQm,oi,ig2,iR⟩;simp only at iS iit2 iit ig1 hQm ig2 iR iJ;have lei:=le6.trans ile;refine G.mapNextL Bt.inj it2 w1 esw clw lw D2 L2 (by kernel_rfl) (by kernel_rfl) iit2 (.inl (lei _ _ e1)) hsw hkw hndw iS ?done2 ?next2
  case next2 =>
   rintro ⟨k,yv⟩ e2 hk hkn he2 hek2 hev2 iS';simp only at hkn hek2 hev2;have hy:=(hlw _ hk).1;simp only at hy;obtain ⟨zb,za,zn,zc,za',zn',zc',rfl,_⟩:=hy.opn;have hnew:(p,k)∉Qs:=fun h=>by
    rcases (hQm _).1 h with h | h
    ·exact hpn h.1
    ·exact hkn h.2
   have hQn':(Qs++[(p,k)]).Nodup:=by
    rw [List.nodup_append];exact ⟨hQn,by simp,fun a ha b hb e'=>hnew (by simp at hb; rw [← hb,← e']; exact ha)⟩
   have hQm':∀ x:Par×Par,x∈Qs++[(p,k)]↔(x.1∈L.map (·.1)∧x.2∈lw.map (·.1))∨(x.1=p∧x.2∈(L2++[(k,Value.agg #[.bool zb,.slice za zn zc,.bool false,.slice za' zn' zc'])]).map (·.1)):=fun x=>by
    obtain ⟨x1,x2⟩:=x;rw [List.mem_append,hQm];simp only [List.map_append,List.mem_append,List.map_cons,List.map_nil,List.mem_singleton,Prod.mk.injEq];constructor
    ·rintro ((h | ⟨h1,h2⟩) | ⟨h1,h2⟩)
     ·exact .inl h
     ·exact .inr ⟨h1,.inl h2⟩
     ·exact .inr ⟨h1,.inr h2⟩
    ·rintro (h | ⟨h1,h2 | h2⟩)
     ·exact .inl (.inl h)
     ·exact .inl (.inr ⟨h1,h2⟩)
     ·exact .inr ⟨h1,h2⟩
   refine G.mapEntry it2 w1 esw clw D2 e2 (by kernel_rfl) (Ac _ _ _) (.inl (lei _ _ e1)) hsw he2 ?_;rw [hek2,hev2];refine G.c call34 (Eo (hx.mono lei) (hy.mono lei) (SB.ten (ok.a.s p)) (SB.ten (ok.b.s k))) ?_;intro v9 u9 l9 r9;obtain ⟨b9,a9,n9,c9,a9',n9',c9',rfl,_⟩:=r9.opn;by_cases hpk:p=k
   ·have hcon:con F H (p,k)=F.s p*H.s k+F.s p*H.s k:=by unfold con; rw [if_pos hpk]
    refine G.eqAgg 79 #[.int .i64 p.1,.string (mkS p.2)] #[.int .i64 k.1,.string (mkS k.2)] true (by kernel_rfl) (by kernel_rfl) (by kernel_rfl) (fun w=>by rw [← decide_eq_true hpk]; exact Bt.eq p k w) ?_;refine G.c call33 (Lw r9 r9 (SB.ten (okp p k)) (SB.ten (okp p k))) ?_;intro v10 u10 l10 r10;obtain ⟨b10,a10,n10,c10,a10',n10',c10',rfl,_⟩:=r10.opn;refine G.callG _ _ (by kernel_rfl) (by kernel_rfl) call138 (g:=g2) (o:=oi) (by rw [Ad _ _ j2]; exact ig2)
     (F7 (g1:=some g1) (y1:=b2) (y2:=(a2,x2,c2)) (y3:=false) (y4:=(a2',x2',c2')) (p:=p) (r:=k) (iR.mono (l9.trans l10)) r10 (by have:=okc (p,k); rw [hcon] at this; exact this) (hacc Qs hQn _) (by
      have:=hacc (Qs++[(p,k)]) hQn' (Ap p k);rw [Ht,if_pos rfl,hcon] at this;rw [show (F.s p*H.s k+F.s p*H.s k)+(base (Ap p k)+Dj F H Qs (Ap p k))=base (Ap p k)+((F.s p*H.s k+F.s p*H.s k)+Dj F H Qs (Ap p k)) by grind]; exact this)) ?_
    intro v8 u8 o8 l8 r8;refine G.b (iJ (D2++[e2],L2++[(k,_)]) _ _ _ cv ((ile.trans (l9.trans l10)).trans l8)
     ⟨iS',by rw [Ad _ _ (Ne.symm j2),Ac],by rw [Ad _ _ (Ne.symm i2),Ad _ _ k1]; exact iit,by rw [Ad _ _ ne3,Ad _ _ j1]; exact ig1,Qs++[(p,k)],hQn',hQm',o8,Ac _ _ _,?_⟩ (by have:=iS'.len; simp at this; dsimp only; simp; omega))
    refine (r8.congr fun j=>?_).up (by simp [Nat.add_assoc]);rw [Ht,hcon];unfold Hb;by_cases e:j=Ap p k
    ·rw [if_pos e,if_pos e,e]; grind
    ·rw [if_neg e,if_neg e]
   ·have hcon:con F H (p,k)=F.s p*H.s k:=by unfold con; rw [if_neg hpk]
    refine G.eqAgg 79 #[.int .i64 p.1,.string (mkS p.2)] #[.int .i64 k.1,.string (mkS k.2)] false (by kernel_rfl) (by kernel_rfl) (by kernel_rfl) (fun w=>by rw [← decide_eq_false hpk]; exact Bt.eq p k w) ?_;refine G.callG _ _ (by kernel_rfl) (by kernel_rfl) call138 (g:=g2) (o:=oi) (by rw [Ad _ _ j2]; exact ig2)
     (F7 (g1:=some g1) (y1:=b2) (y2:=(a2,x2,c2)) (y3:=false) (y4:=(a2',x2',c2')) (p:=p) (r:=k) (iR.mono (l9)) r9 (by have:=okc (p,k); rw [hcon] at this; exact this) (hacc Qs hQn _) (by
      have:=hacc (Qs++[(p,k)]) hQn' (Ap p k);rw [Ht,if_pos rfl,hcon] at this;rw [show (F.s p*H.s k)+(base (Ap p k)+Dj F H Qs (Ap p k))=base (Ap p k)+((F.s p*H.s k)+Dj F H Qs (Ap p k)) by grind]; exact this)) ?_
    intro v8 u8 o8 l8 r8;refine G.b (iJ (D2++[e2],L2++[(k,_)]) _ _ _ cv ((ile.trans (l9)).trans l8)
     ⟨iS',by rw [Ad _ _ (Ne.symm j2),Ac],by rw [Ad _ _ (Ne.symm i2),Ad _ _ k1]; exact iit,by rw [Ad _ _ ne3,Ad _ _ j1]; exact ig1,Qs++[(p,k)],hQn',hQm',o8,Ac _ _ _,?_⟩ (by have:=iS'.len; simp at this; dsimp only; simp; omega))
    refine (r8.congr fun j=>?_).up (by simp [Nat.add_assoc]);rw [Ht,hcon];unfold Hb;by_cases e:j=Ap p k
    ·rw [if_pos e,if_pos e,e]; grind
    ·rw [if_neg e,if_neg e]
  case done2 =>
  intro hall2;refine G.b (hJ (D++[e],L++[(p,_)]) _ _ _ cv (l6.trans ile) ⟨hS',iit,ig1,Qs,hQn,fun x=>?_,oi,ig2,iR.up ?_⟩ (by have:=hS'.len; simp at this; dsimp only; simp; omega))
  ·rw [hQm];simp only [List.map_append,List.mem_append,List.map_cons,List.map_nil,List.mem_singleton];constructor
   ·rintro (h | ⟨h1,h2⟩)
    ·exact ⟨.inl h.1,h.2⟩
    ·obtain ⟨y,hy,e'⟩:=List.mem_map.1 h2;exact ⟨.inr h1,List.mem_map.2 ⟨y,iS.sub y hy,e'⟩⟩
   ·rintro ⟨h1 | h1,h2⟩
    ·exact .inl ⟨h1,h2⟩
    ·obtain ⟨y,hy,e'⟩:=List.mem_map.1 h2;exact .inr ⟨h1,List.mem_map.2 ⟨y,hall2 y hy,e'⟩⟩
  ·have:=iS.len;simp only [List.length_append,List.length_cons,List.length_nil,Nat.add_mul];omega
 case done1 =>
 intro hall;refine G.drop ((PH.mt.upd g1 oB).upd g2 o2') (by kernel_rfl) (fun g o hg=>?_) ?_
 ·by_cases e:g=g2
  ·subst e; rw [Ac] at hg; cases hg; exact hg2
  ·rw [Ad _ _ e] at hg;by_cases e:g=g1
   ·subst e; rw [Ac] at hg; cases hg; exact hm1g
   ·rw [Ad _ _ e] at hg; cases hg
 refine G.r (.agg #[.bool b2,.slice a2 x2 c2,.bool false,.slice a2' x2' c2',.map (some g1),.map (some g2)]) ⟨b2,a2,x2,c2,false,a2',x2',c2',g1,g2,oB,o2',rfl,r5.mono ((((lA.trans lB).trans lC).trans lD).trans l6),ne3,rfl,(hSD.mono l6).up (by omega),(hR.congr fun k=>?_).up ?_⟩
 ·rw [Aev F H hPn (fun p q h1 h2=>(hPm _).2 ⟨?_,?_⟩) k,hbase]
  ·rfl
  ·have:p∈lv.map (·.1):=Classical.byContradiction fun h=>h1 (hzv p h);obtain ⟨y,hy,e'⟩:=List.mem_map.1 this;exact List.mem_map.2 ⟨y,hall y hy,e'⟩
  ·exact Classical.byContradiction fun h=>h2 (hzw q h)
 ·have h1:=hS.len;have h2:L.length*lw.length≤N*M:=Nat.mul_le_mul (by omega) hnw;omega
end
section
open Go.RowKit Go.MapKept
variable {p q:Par×Par}{κ:Type}
theorem Ai1 {κ:Type}{c:κ→κ→Int}(hc:Ord c){S:List (κ×Rat)}{k:κ}{q:Rat}{n:Nat}(hS:Ef c (S.map (·.1)))(hk:k∉S.map (·.1))
  (h1:∀ j x,j < n→S[j]?=some x→c x.1 k < 0) (h2:∀ x,S[n]?=some x→¬ c x.1 k < 0):Ef c ((S.take n++[(k,q)]++S.drop n).map (·.1)):=by
 have hS':Ef c ((S.take n).map (·.1)++(S.drop n).map (·.1)):=by rw [← List.map_append,List.take_append_drop]; exact hS
 unfold Ef at hS' ⊢;rw [List.pairwise_append] at hS';obtain ⟨p1,p2,p3⟩:=hS';have hA:∀ a∈(S.take n).map (·.1),c a k < 0:=fun a ha=>by
  obtain ⟨x,hx,rfl⟩:=List.mem_map.1 ha;obtain ⟨j,hj,rfl⟩:=List.getElem_of_mem hx;rw [List.length_take] at hj;refine h1 j _ (by omega) ?_;rw [List.getElem_take,List.getElem?_eq_getElem (by omega)]
 have hB:∀ b∈(S.drop n).map (·.1),c k b < 0:=by
  cases hd:S.drop n with
  | nil=>intro b hb; simp at hb
  | cons x B =>
   rw [hd,List.map_cons,List.pairwise_cons] at p2;have hx:S[n]?=some x:=by
    have:=congrArg (fun l=>l[0]?) hd;simpa using this
   have hne:x.1≠k:=fun e=>hk (List.mem_map.2 ⟨x,List.mem_of_getElem? hx,e⟩);have h3:=h2 x hx;have h0:c k x.1 < 0:=by
    have hs:=hc.sym k x.1;have hz:c x.1 k≠0:=fun e=>hne (hc.eq _ _ e);rw [hs]; omega
   intro b hb;rw [List.map_cons,List.mem_cons] at hb;rcases hb with rfl | hb
   ·exact h0
   ·exact hc.trans _ _ _ h0 (p2.1 b hb)
 rw [List.map_append,List.map_append,List.pairwise_append,List.pairwise_append];refine ⟨⟨p1,by simp,fun a ha b hb=>?_⟩,p2,fun a ha b hb=>?_⟩
 ·simp at hb; subst hb; exact hA a ha
 ·rcases List.mem_append.1 ha with ha | ha
  ·exact p3 a ha b hb
  ·simp at ha; subst ha; exact hB b hb
theorem Qz {α:Type}{S:List α}{x y:α}{n:Nat}:y∈S.take n++[x]++S.drop n↔y∈S∨y=x:=by
 have h:y∈S↔y∈S.take n∨y∈S.drop n:=by rw [← List.mem_append,List.take_append_drop]
 rw [h];simp only [List.mem_append,List.mem_singleton];constructor
 ·rintro ((a | a) | a)
  ·exact .inl (.inl a)
  ·exact .inr a
  ·exact .inl (.inr a)
 ·rintro ((a | a) | a)
  ·exact .inl (.inl a)
  ·exact .inr a
  ·exact .inl (.inr a)
structure Ox {κ:Type}(c:κ→κ→Int)(f:κ→Rat)(L:List κ)(S:List (κ×Rat)):Prop where
 srt:Ef c (S.map (·.1))
 val:∀ p∈S,p.2=f p.1∧p.2≠0
 mem:∀ k,k∈S.map (·.1)↔k∈L∧f k≠0
theorem Ox.nil {κ:Type}{c:κ→κ→Int}{f:κ→Rat}:Ox c f [] []:=⟨List.Pairwise.nil,fun p hp=>by simp at hp,fun k=>by simp⟩
theorem Ox.skip {c:κ→κ→Int}{f:κ→Rat}{L:List κ}{S:List (κ×Rat)}{k:κ}(h:Ox c f L S)(h0:f k=0):Ox c f (L++[k]) S:=⟨h.srt,h.val,fun j=>by
 rw [h.mem,List.mem_append,List.mem_singleton];constructor
 ·rintro ⟨a,b⟩; exact ⟨.inl a,b⟩
 ·rintro ⟨a | rfl,b⟩
  ·exact ⟨a,b⟩
  ·exact absurd h0 b⟩
theorem Ox.put {κ:Type}{c:κ→κ→Int}(hc:Ord c){f:κ→Rat}{L:List κ}{S:List (κ×Rat)}{k:κ}{n:Nat}(h:Ox c f L S)(h0:f k≠0)(hk:k∉L)
  (h1:∀ j x,j < n→S[j]?=some x→c x.1 k < 0) (h2:∀ x,S[n]?=some x→¬ c x.1 k < 0):Ox c f (L++[k]) (S.take n++[(k,f k)]++S.drop n) :=
 ⟨Ai1 hc h.srt (fun e=>hk ((h.mem k).1 e).1) h1 h2,fun p hp=>by
  rcases Qz.1 hp with e | rfl
  ·exact h.val p e
  ·exact ⟨rfl,h0⟩,fun j=>by
  have:=h.mem j;constructor
  ·intro hj;obtain ⟨p,hp,rfl⟩:=List.mem_map.1 hj;rcases Qz.1 hp with e | rfl
   ·obtain ⟨a,b⟩:=this.1 (List.mem_map.2 ⟨p,e,rfl⟩);exact ⟨List.mem_append_left _ a,b⟩
   ·exact ⟨by simp,h0⟩
  ·rintro ⟨a,b⟩;rcases List.mem_append.1 a with e | e
   ·obtain ⟨p,hp,e2⟩:=List.mem_map.1 (this.2 ⟨e,b⟩);exact List.mem_map.2 ⟨p,Qz.2 (.inl hp),e2⟩
   ·rw [List.mem_singleton] at e;exact List.mem_map.2 ⟨(k,f k),Qz.2 (.inr rfl),e.symm⟩⟩
theorem Ox.can {c:κ→κ→Int}{f:κ→Rat}{L:List κ}{S:List (κ×Rat)}(h:Ox c f L S)(hL:∀ k,k∉L→f k=0):Can c f S:=⟨h.srt,h.val,fun k hk=>by
 rcases Classical.em (k∈L) with e | e
 ·exact Classical.byContradiction fun hn=>hk ((h.mem k).2 ⟨e,hn⟩)
 ·exact hL k e⟩
theorem Akz (h:A8 p.1 q.1 < 0):Lg p q < 0:=by unfold Lg; rw [if_pos (by omega)]; exact h
theorem Akv (h:¬ A8 p.1 q.1 < 0)(h':p.1≠q.1):¬ Lg p q < 0:=by
 have hz:A8 p.1 q.1≠0:=fun e=>h' (Dp.eq _ _ e);unfold Lg; rw [if_pos hz]; exact h
theorem Amm (h:p.1=q.1):Lg p q=A8 p.2 q.2:=by unfold Lg; rw [h,Dp.refl,if_neg (by simp)]
theorem Mw {u:PH}(x y:(Par×Par)×Rat)(r:Bool)(h:decide (Lg x.1 y.1 < 0)=r):Fn0 prog 142 [Da x,Da y] u fun v _=>v=.bool r:=by
 obtain ⟨⟨⟨a1,a2⟩,b1,b2⟩,q⟩:=x;obtain ⟨⟨⟨c1,c2⟩,d1,d2⟩,q'⟩:=y;refine Fn0.o func142 ?_;by_cases h1:A8 (a1,a2) (c1,c2) < 0
 ·rw [decide_eq_true (Akz h1)] at h;subst h;refine G.c call93 (Dq (a1,a2) (c1,c2) true (decide_eq_true h1)) ?_;rintro v1 u1 l1 rfl;exact G.r (.bool true) ⟨rfl,rfl⟩
 ·refine G.c call93 (Dq (a1,a2) (c1,c2) false (decide_eq_false h1)) ?_;rintro v1 u1 l1 rfl;by_cases h2:((a1,a2):Par)=(c1,c2)
  ·refine G.eqAgg 79 #[.int .i64 a1,.string (mkS a2)] #[.int .i64 c1,.string (mkS c2)] true (by kernel_rfl) (by kernel_rfl) (by kernel_rfl) (fun w=>by rw [← decide_eq_true h2]; exact Bt.eq (a1,a2) (c1,c2) w) ?_;rw [Amm h2] at h;refine G.c call93 (Dq (b1,b2) (d1,d2) r h) ?_;rintro v2 u2 l2 rfl;cases r with
   | true=>exact G.r (.bool true) ⟨rfl,rfl⟩
   | false=>exact G.r (.bool false) ⟨rfl,rfl⟩
  ·rw [decide_eq_false (Akv h1 h2)] at h;subst h;refine G.eqAgg 79 #[.int .i64 a1,.string (mkS a2)] #[.int .i64 c1,.string (mkS c2)] false (by kernel_rfl) (by kernel_rfl) (by kernel_rfl) (fun w=>by rw [← decide_eq_false h2]; exact Bt.eq (a1,a2) (c1,c2) w) ?_;exact G.r (.bool false) ⟨rfl,rfl⟩
section
variable {P:Program} [Ba P] {fn:Func} {Post:B0} {st:List KI×S} {u m:PH}
theorem G.sliceFromG (a:Option Addr)(n c k sz:Nat)(h:Al P (adv P st)=.slice (some sz) (.slice a n c) (some (.int .i64 (k:Int))) none none)(hk:k≤n)(hn:n≤c)
  (g:G P fn Post (nx (adv P st) (.slice (if c=k then a else a.map (·.add (k*sz))) (n - k) (c - k))) u m):G P fn Post st u m:=by
 refine G.ask h (by simp) (fun env o hview w hp=>?_) g;obtain ⟨t,X,L,H,M,e1,e2,e3,e4,e5,hsz⟩:=H4 hview;obtain ⟨dst,opp,type,pos,after,guard⟩:=o;simp only at e1; subst e1;unfold Kq at hsz;split at hsz
 ·rename_i e hu;have h1:(0:Int)≤k∧(k:Int)≤n:=by omega
  simp only [execOp,e2,e3,e4,e5];simp only [Instr.sliceAt,Sem.run_bind,run_underlying hu,Result.andThen_ok,Instr.slice,Instr.sliceBounds,Instr.sliceBound,asIntOf,Sem.run_pure,if_true,Option.isSome,Sem.run_ite,Bf hsz,h1,and_self,Int.toNat_natCast]
 ·cases hsz
end
end
section
open Go.RowKit Go.MapKept
theorem ElP.fld {u:PH}{b off j:Nat}{xs:Array Value}{x:Value}(h:ElP u b off (.agg xs))(hx:xs[j]?=some x)(hc:x.cells = #[x]):ElP u b (off+j) x:=h.sub fun i y hy=>by
 rw [hc] at hy
 match i,hy with
 | 0,hy=>simp at hy; subst hy; exact hx
 | i+1,hy=>simp at hy
def Xy (P:Program):List KI×S→List Value→List KI×S
 | st,[]=>st
 | st,v::l=>Xy P (nx (adv P st) v) l
section
variable {P:Program} [Ba P] {fn:Func} {Post:B0} {st:List KI×S} {u m:PH}
theorem G.joinF {ι:Type}(f:List KI×S→List KI×S)(T:ι→List (Nat×SV))(B:ι→List (Nat×Blk))(Inv:ι→PH→PH→Prop)(hl:∀ i,Qm (T i) (B i)=true)(hn:Fd (Fn P 200 (f st)).1=true)
  (tail:∀ i u' m',PH.le u u'→Inv i u' m'→G P fn Post ((Fn P 200 (f st)).1,S.of (Fn P 200 (f st)).2.n (T i) (B i)) u' m')
  (k:(∀ i st' u' m',(Fn P 200 st').1=(Fn P 200 (f st)).1→Cov (Fn P 200 (f st)).2.n (Fn P 200 st').2 (T i) (B i)→PH.le u u'→Inv i u' m'→G P fn Post st' u' m')→G P fn Post st u m):G P fn Post st u m:=by
 refine k fun i st' u' m' h1 h2 h3 h4=>?_;have hc:Cov (Fn P 200 st').2.n (Fn P 200 st').2 (T i) (B i):=⟨rfl,h2.t,h2.b⟩;refine G.canon (T i) (B i) (by rw [h1]; exact hn) (hl i) hc ?_;rw [h1,h2.n];exact tail i u' m' h3 h4
end
theorem Aam {L:List (List UInt8)}(h:L.Nodup){i k:Nat}{x y:List UInt8}(hx:L[i]?=some x)(hy:L[k]?=some y)(hne:k≠i):y≠x:=fun e=>by
 subst e;obtain ⟨a1,a2⟩:=List.getElem?_eq_some_iff.1 hx;obtain ⟨b1,b2⟩:=List.getElem?_eq_some_iff.1 hy;rcases Nat.lt_or_gt_of_ne hne with e | e
 ·exact absurd (b2.trans a2.symm) (List.pairwise_iff_getElem.1 h k i b1 a1 e)
 ·exact absurd (a2.trans b2.symm) (List.pairwise_iff_getElem.1 h i k a1 b1 e)
theorem Nt {u:PH}{s:List UInt8}(h:Gw s=true):Fn0 prog 135 [.string (mkS s)] u fun v _=>v=.bool true:=by
 obtain ⟨hl1,hl2⟩:=Ux h;obtain ⟨c0,hc0⟩:∃ c,s[0]?=some c:=⟨_,List.getElem?_eq_getElem (by omega)⟩;have hw0:=Rj h hc0;refine Fn0.o func135 ?_;refine G.eF (s.length:Int) 0 ?_;refine G.gF (s.length:Int) 12 ?_;refine G.idxS s 0 c0 (by kernel_rfl) hc0 ?_;refine G.cmpG .lss .u8 (c0.toNat:Int) 97 false (by kernel_rfl) rfl (by simp only [B4,decide_eq_false_iff_not]; omega) ?_;refine G.idxS s 0 c0 (by kernel_rfl) hc0 ?_;refine G.cmpG .gtr .u8 (c0.toNat:Int) 122 false (by kernel_rfl) rfl (by simp only [B4,decide_eq_false_iff_not]; omega) ?_;refine G.l (ι:=Nat) (fun i=>[(0,.v (.string (mkS s))),(3,.v (.int .i64 (i:Int)))]) (fun _=>[])
  (fun i u' m'=>i≤s.length∧m'=PH.mt) (fun i=>s.length - i) 0 ⟨by omega,rfl⟩ ?_
 rintro J i hJ u2 m2 l2 ⟨hi,rfl⟩;by_cases hlt:i < s.length
 ·refine G.lT (i:Int) (s.length:Int) ?_;obtain ⟨b,hsi⟩:∃ b,s[i]?=some b:=⟨_,List.getElem?_eq_getElem hlt⟩;have hw:=Rj h hsi;refine G.idxS s i b (by kernel_rfl) hsi ?_;by_cases h97:97≤b.toNat
  ·refine G.cmpG .geq .u8 (b.toNat:Int) 97 true (by kernel_rfl) rfl (by simp only [B4,decide_eq_true_eq]; omega) ?_;refine G.idxS s i b (by kernel_rfl) hsi ?_;refine G.cmpG .leq .u8 (b.toNat:Int) 122 true (by kernel_rfl) rfl (by simp only [B4,decide_eq_true_eq]; omega) ?_;refine G.i i ?_;exact G.b (hJ (i+1) _ _ _ cv l2 ⟨by omega,rfl⟩ (by omega))
  ·refine G.cmpG .geq .u8 (b.toNat:Int) 97 false (by kernel_rfl) rfl (by simp only [B4,decide_eq_false_iff_not]; omega) ?_;refine G.idxS s i b (by kernel_rfl) hsi ?_;by_cases h48:48≤b.toNat
   ·refine G.cmpG .geq .u8 (b.toNat:Int) 48 true (by kernel_rfl) rfl (by simp only [B4,decide_eq_true_eq]; omega) ?_;refine G.idxS s i b (by kernel_rfl) hsi ?_;refine G.cmpG .leq .u8 (b.toNat:Int) 57 true (by kernel_rfl) rfl (by simp only [B4,decide_eq_true_eq]; omega) ?_;refine G.i i ?_;exact G.b (hJ (i+1) _ _ _ cv l2 ⟨by omega,rfl⟩ (by omega))
   ·refine G.cmpG .geq .u8 (b.toNat:Int) 48 false (by kernel_rfl) rfl (by simp only [B4,decide_eq_false_iff_not]; omega) ?_;refine G.idxS s i b (by kernel_rfl) hsi ?_;refine G.cmpG .eql .u8 (b.toNat:Int) 45 true (by kernel_rfl) rfl (by simp only [B4,decide_eq_true_eq]; omega) ?_;refine G.i i ?_;exact G.b (hJ (i+1) _ _ _ cv l2 ⟨by omega,rfl⟩ (by omega))
 ·obtain rfl:i=s.length:=by omega
  refine G.lF (s.length:Int) (s.length:Int) ?_;exact G.r (.bool true) ⟨rfl,rfl⟩
theorem Pf {u:PH}{v:Value}{T:List (List UInt8×Nat)}{R:List Bk}{F:List Ao}{lab:Int}(h:F1 u v T R F lab)(ok:Bn u T R F lab) :
  Fn0 prog 62 [v] u fun r _=>r=.int .i64 0:=by
 obtain ⟨xa,xc,xb,xd,xe,xf,rfl,hT,hR,hF⟩:=h;have t1:=ok.t1;have t2:=ok.t2;have r1:=ok.r1;have r2:=ok.r2;have f2:=ok.f2;have lo:=ok.l1;have hi:lab < T.length:=by
  rcases Int.lt_or_le lab 0 with hlt | hge
  ·omega
  ·obtain ⟨n,hn⟩:=ok.l2 lab.toNat (by omega);obtain ⟨hk,_⟩:=List.getElem?_eq_some_iff.1 hn;omega
 refine Fn0.o func62 ?_;refine G.eF (T.length:Int) 0 ?_;refine G.gF (T.length:Int) 12 ?_;refine G.eF (R.length:Int) 0 ?_;refine G.gF (R.length:Int) 6 ?_;refine G.gF (F.length:Int) 8 ?_;refine G.l (ι:=Nat) (fun i=>[(1,.p 0 0),(49,.v (.slice xa T.length xc)),(50,.v (.int .i64 (T.length:Int))),(51,.v (.int .i64 (i:Int)))])
  (fun _=>[(0,⟨31,[.v (.slice xa T.length xc),.v (.slice xb R.length xd),.v (.slice xe F.length xf),.v (.int .i64 lab)]⟩)])
  (fun i u' m'=>i≤T.length∧m'=PH.mt) (fun i=>T.length - i) 0 ⟨by omega,rfl⟩ ?_
 rintro J i hJ u1 m1 l1 ⟨hi1,rfl⟩;by_cases hlt:i < T.length
 ·refine G.lT (i:Int) (T.length:Int) ?_;obtain ⟨x,hTi⟩:∃ x,T[i]?=some x:=⟨_,List.getElem?_eq_getElem hlt⟩;have hxm:=List.mem_of_getElem? hTi;obtain ⟨hk1,hk3⟩:=ok.att.kind x hxm;have hword:=ok.att.names.word x.1 (List.mem_map.2 ⟨x,hxm,rfl⟩);have hnx:(T.map (·.1))[i]?=some x.1:=by rw [List.getElem?_map,hTi]; rfl
  obtain ⟨ba,oa,rfl,ea⟩:=Ab.at' (hT.mono l1) (j:=i) (e:=D0 x) (by simp [hTi]);obtain ⟨xn,xk⟩:=x;simp only at hk1 hk3 hword hnx;refine G.a ba oa T.length xc i 2 hlt ?_;refine G.lU (some 2) ba (oa+i*2) (.agg #[.string (mkS xn),.int .i64 (xk:Int)]) ea ?_;refine G.c call135 (Nt hword) ?_;rintro v2 u2 l2 rfl;refine G.l (ι:=Nat) (fun k=>[(1,.p 0 0),(3,.v (.int .i64 (i:Int))),(4,.p 5003 0),(5,.v (.int .i64 (k:Int))),(49,.v (.slice (some ⟨ba,oa,none⟩) T.length xc)),(50,.v (.int .i64 (T.length:Int))),(51,.v (.int .i64 (i:Int)))])
   (fun _=>[(0,⟨31,[.v (.slice (some ⟨ba,oa,none⟩) T.length xc),.v (.slice xb R.length xd),.v (.slice xe F.length xf),.v (.int .i64 lab)]⟩),(5003,⟨92,[.v (.string (mkS xn)),.v (.int .i64 (xk:Int))]⟩)])
   (fun k u' m'=>k≤i∧m'=PH.mt) (fun k=>i - k) 0 ⟨by omega,rfl⟩ ?_
  rintro J2 k hJ2 u3 m3 l3 ⟨hk,rfl⟩;by_cases hlk:k < i
  ·refine G.lT (k:Int) (i:Int) ?_;obtain ⟨y,hTk⟩:∃ y,T[k]?=some y:=⟨_,List.getElem?_eq_getElem (by omega)⟩;have hny:(T.map (·.1))[k]?=some y.1:=by rw [List.getElem?_map,hTk]; rfl
   have hne:=Aam ok.att.names.nodup hnx hny (by omega);obtain ⟨_,_,e',ek⟩:=Ab.at' (hT.mono ((l1.trans l2).trans l3)) (j:=k) (e:=D0 y) (by simp [hTk]);cases e';refine G.a ba oa T.length xc k 2 (by omega) ?_;refine G.f 92 ba (oa+k*2) 0 0 ?_;refine G.lU none ba (oa+k*2+0) (.string (mkS y.1)) (ek.fld rfl rfl) ?_;refine G.w y.1 xn hne ?_;refine G.i k ?_;exact G.b (hJ2 (k+1) _ _ _ cv l3 ⟨by omega,rfl⟩ (by omega))
  ·obtain rfl:k=i:=by omega
   refine G.lF (k:Int) (k:Int) ?_;refine G.lF (xk:Int) 1 ?_;refine G.gF (xk:Int) 3 ?_;refine G.i k ?_;exact G.b (hJ (k+1) _ _ _ cv ((l1.trans l2).trans l3) ⟨by omega,rfl⟩ (by omega))
 obtain rfl:i=T.length:=by omega
 refine G.lF (T.length:Int) (T.length:Int) ?_;clear hJ;refine G.make 4 1 1 (.bool false) T.length (by kernel_rfl) rfl rfl (by omega) (by omega) (by omega) ?_;rintro v1 mA hA1 ⟨ad,rfl⟩;obtain ⟨g,rfl,_⟩:=hA1.some';refine G.l (ι:=Nat×List Bool) (fun i=>[(1,.p 0 0),(6,.v (.slice (some ⟨g,0,none⟩) T.length T.length)),(88,.v (.slice xb R.length xd)),(89,.v (.int .i64 (R.length:Int))),(90,.v (.int .i64 (i.1:Int)))])
  (fun _=>[(0,⟨31,[.v (.slice xa T.length xc),.v (.slice xb R.length xd),.v (.slice xe F.length xf),.v (.int .i64 lab)]⟩)])
  (fun i u' m'=>i.1≤R.length∧i.2.length=T.length∧(∀ r∈R.take i.1,∀ q∈r.2.1,i.2[q]?=some true)∧Ae PH.mt m' (.slice (some ⟨g,0,none⟩) T.length T.length) 4 1 (i.2.map Value.bool)) (fun i=>R.length - i.1) (0,List.replicate T.length false)
  ⟨by simp,by simp,by simp,by rw [List.map_replicate]; exact hA1⟩ ?_
 rintro J ⟨i,L⟩ hJ u2 m2 l2 ⟨hi2,hL,hall,hA2⟩;simp only at hi2 hL hall hA2 hJ;have le2:=l1.trans l2;by_cases hlt2:i < R.length
 ·refine G.lT (i:Int) (R.length:Int) ?_;obtain ⟨q,hRi⟩:∃ q,R[i]?=some q:=⟨_,List.getElem?_eq_getElem hlt2⟩;have hmem:=List.mem_of_getElem? hRi;have htk2:R.take (i+1)=R.take i++[q]:=by rw [List.take_add_one,hRi]; rfl
  have hword:=ok.rel.names.word q.1 (List.mem_map.2 ⟨q,hmem,rfl⟩);have hnx:(R.map (·.1))[i]?=some q.1:=by rw [List.getElem?_map,hRi]; rfl
  obtain ⟨ba,oa,rfl,ea⟩:=Ab.at' (hR.mono le2) (j:=i) (e:=Gb q) (by simp [hRi]);obtain ⟨qs,ql,qa,qc⟩:=q;have hne:ql≠[]:=ok.rel.ne _ hmem;have hlq:∀ p∈ql,p < T.length:=ok.rel.lt _ hmem;have hql:ql.length≤1000:=ok.rel.len _ hmem;have hasc:∀ (k:Nat) x y,ql[k]?=some x→ql[k+1]?=some y→x < y:=ok.rel.asc _ hmem;have hqat:Ab u2 (.slice qa ql.length qc) 1 (Ag ql):=(ok.rel.at' _ hmem).mono le2;have hq0:0 < ql.length:=List.length_pos_iff.2 hne;simp only at hword hnx;refine G.a ba oa R.length xd i 2 hlt2 ?_;refine G.lU (some 2) ba (oa+i*2) (.agg #[.string (mkS qs),.slice qa ql.length qc]) ea ?_;refine G.c call135 (Nt hword) ?_;rintro v3 u3 l3 rfl;refine G.l (ι:=Nat) (fun k=>[(1,.p 0 0),(6,.v (.slice (some ⟨g,0,none⟩) T.length T.length)),(7,.v (.int .i64 (i:Int))),(8,.p 19003 0),(9,.v (.int .i64 (k:Int))),(88,.v (.slice (some ⟨ba,oa,none⟩) R.length xd)),(89,.v (.int .i64 (R.length:Int))),(90,.v (.int .i64 (i:Int)))])
   (fun _=>[(0,⟨31,[.v (.slice xa T.length xc),.v (.slice (some ⟨ba,oa,none⟩) R.length xd),.v (.slice xe F.length xf),.v (.int .i64 lab)]⟩),(19003,⟨94,[.v (.string (mkS qs)),.v (.slice qa ql.length qc)]⟩)])
   (fun k u' m'=>k≤i∧m'=m2) (fun k=>i - k) 0 ⟨by omega,rfl⟩ ?_
  rintro J2 k hJ2 u4 m4 l4 ⟨hk,rfl⟩;by_cases hlk:k < i
  ·refine G.lT (k:Int) (i:Int) ?_;obtain ⟨y,hTk⟩:∃ y,R[k]?=some y:=⟨_,List.getElem?_eq_getElem (by omega)⟩;have hny:(R.map (·.1))[k]?=some y.1:=by rw [List.getElem?_map,hTk]; rfl
   have hne2:=Aam ok.rel.names.nodup hnx hny (by omega);obtain ⟨_,_,e',ek⟩:=Ab.at' (hR.mono ((le2.trans l3).trans l4)) (j:=k) (e:=Gb y) (by simp [hTk]);cases e';refine G.a ba oa R.length xd k 2 (by omega) ?_;refine G.f 94 ba (oa+k*2) 0 0 ?_;refine G.lU none ba (oa+k*2+0) (.string (mkS y.1)) (ek.fld rfl rfl) ?_;refine G.w y.1 qs hne2 ?_;refine G.i k ?_;exact G.b (hJ2 (k+1) _ _ _ cv l4 ⟨by omega,rfl⟩ (by omega))
  obtain rfl:k=i:=by omega
  refine G.lF (k:Int) (k:Int) ?_;clear hJ2;refine G.eF (ql.length:Int) 0 ?_;refine G.l (ι:=Nat×List Bool) (fun j=>[(1,.p 0 0),(6,.v (.slice (some ⟨g,0,none⟩) T.length T.length)),(8,.p 19003 0),(88,.v (.slice (some ⟨ba,oa,none⟩) R.length xd)),(89,.v (.int .i64 (R.length:Int))),(90,.v (.int .i64 (k:Int))),(118,.v (.slice qa ql.length qc)),(119,.v (.int .i64 (ql.length:Int))),(120,.v (.int .i64 (j.1:Int)))])
   (fun _=>[(0,⟨31,[.v (.slice xa T.length xc),.v (.slice (some ⟨ba,oa,none⟩) R.length xd),.v (.slice xe F.length xf),.v (.int .i64 lab)]⟩),(19003,⟨94,[.v (.string (mkS qs)),.v (.slice qa ql.length qc)]⟩)])
   (fun j u' m'=>j.1≤ql.length∧j.2.length=T.length∧(∀ r∈R.take k,∀ q∈r.2.1,j.2[q]?=some true)∧(∀ q∈ql.take j.1,j.2[q]?=some true)∧Ae PH.mt m' (.slice (some ⟨g,0,none⟩) T.length T.length) 4 1 (j.2.map Value.bool)) (fun j=>ql.length - j.1) (0,L)
   ⟨by simp,hL,hall,by simp,hA2⟩ ?_
  rintro J2 ⟨j,L2⟩ hJ2 u6 m6 l6 ⟨hj,hL2,hall2,hrow2,hA6⟩;simp only at hj hL2 hall2 hrow2 hA6 hJ2;have le6:=(l3.trans l4).trans l6;have hqat6:=hqat.mono le6;by_cases hltj:j < ql.length
  ·refine G.lT (j:Int) (ql.length:Int) ?_;obtain ⟨p,hqj⟩:∃ p,ql[j]?=some p:=⟨_,List.getElem?_eq_getElem hltj⟩;have hpn:p < T.length:=hlq _ (List.mem_of_getElem? hqj);have htkj:ql.take (j+1)=ql.take j++[p]:=by rw [List.take_add_one,hqj]; rfl
   obtain ⟨bq,oq,rfl,eq⟩:=Ab.at' hqat6 (j:=j) (e:=.int .i64 (p:Int)) (by simp [Ag,hqj]);refine G.a bq oq ql.length qc j 1 hltj ?_;refine G.lU none bq (oq+j*1) (.int .i64 (p:Int)) eq ?_;refine G.lF (p:Int) 0 ?_;refine G.hF (p:Int) (T.length:Int) ?_;refine G.a g 0 T.length T.length p 1 hpn ?_;refine G.storeA 1 PH.mt (L2.map Value.bool) g T.length T.length p (.bool true) (by kernel_rfl) hA6 (by rw [List.length_map]; omega) rfl rfl ?_;intro m7 hA7;rw [Ow] at hA7;refine G.i j ?_;have hkeep:∀ q,L2[q]?=some true→(L2.set p true)[q]?=some true:=fun q hq=>by
    rw [List.getElem?_set];split
    ·subst_vars; rw [if_pos (by omega)]
    ·exact hq
   exact G.b (hJ2 (j+1,L2.set p true) _ _ _ cv l6 ⟨by dsimp only; omega,by simp [hL2],fun r hr q hq=>hkeep q (hall2 r hr q hq),by
    intro q hq;dsimp only at hq ⊢;rw [htkj,List.mem_append,List.mem_singleton] at hq;rcases hq with hq | rfl
    ·exact hkeep q (hrow2 q hq)
    ·rw [List.getElem?_set]; simp; omega,hA7⟩ (by dsimp only; omega))
  obtain rfl:j=ql.length:=by omega
  refine G.lF (ql.length:Int) (ql.length:Int) ?_;clear hJ2;rw [List.take_length] at hrow2;refine G.l (ι:=Nat) (fun j=>[(1,.p 0 0),(6,.v (.slice (some ⟨g,0,none⟩) T.length T.length)),(8,.p 19003 0),(12,.v (.int .i64 ((j+1:Nat):Int))),(88,.v (.slice (some ⟨ba,oa,none⟩) R.length xd)),(89,.v (.int .i64 (R.length:Int))),(90,.v (.int .i64 (k:Int)))])
   (fun _=>[(0,⟨31,[.v (.slice xa T.length xc),.v (.slice (some ⟨ba,oa,none⟩) R.length xd),.v (.slice xe F.length xf),.v (.int .i64 lab)]⟩),(19003,⟨94,[.v (.string (mkS qs)),.v (.slice qa ql.length qc)]⟩)])
   (fun j u' m'=>j+1≤ql.length∧m'=m6) (fun j=>ql.length - j) 0
   ⟨by omega,rfl⟩ ?_
  rintro J3 j hJ3 u8 m8 l8 ⟨hj3,rfl⟩;have hqat8:=hqat6.mono l8;by_cases hltk:j+1 < ql.length
  ·refine G.lT ((j+1:Nat):Int) (ql.length:Int) ?_;obtain ⟨p1,hq1⟩:∃ p,ql[j]?=some p:=⟨_,List.getElem?_eq_getElem (by omega)⟩;obtain ⟨p2,hq2⟩:∃ p,ql[j+1]?=some p:=⟨_,List.getElem?_eq_getElem hltk⟩;have hlt3:=hasc j _ _ hq1 hq2;obtain ⟨bq,oq,rfl,eq2⟩:=Ab.at' hqat8 (j:=j+1) (e:=.int .i64 (p2:Int)) (by simp [Ag,hq2]);obtain ⟨_,_,e',eq1⟩:=Ab.at' hqat8 (j:=j) (e:=.int .i64 (p1:Int)) (by simp [Ag,hq1]);cases e';refine G.a bq oq ql.length qc (j+1) 1 hltk ?_;refine G.lU none bq (oq+(j+1)*1) (.int .i64 (p2:Int)) eq2 ?_;refine G.s ((j+1:Nat):Int) 1 (j:Int) ?_;refine G.a bq oq ql.length qc j 1 (by omega) ?_;refine G.lU none bq (oq+j*1) (.int .i64 (p1:Int)) eq1 ?_;refine G.kF (p2:Int) (p1:Int) ?_;refine G.p ((j+1:Nat):Int) 1 ((j+1+1:Nat):Int) ?_;exact G.b (hJ3 (j+1) _ _ _ cv l8 ⟨by omega,rfl⟩ (by omega))
  ·refine G.lF ((j+1:Nat):Int) (ql.length:Int) ?_;refine G.i k ?_;exact G.b (hJ (k+1,L2) _ _ _ cv ((l2.trans le6).trans l8) ⟨by dsimp only; omega,hL2,by
    intro r hr q hq;dsimp only at hr hq ⊢;rw [htk2,List.mem_append,List.mem_singleton] at hr;rcases hr with hr | rfl
    ·exact hall2 r hr q hq
    ·exact hrow2 q hq,hA6⟩ (by dsimp only; omega))
 obtain rfl:i=R.length:=by omega
 refine G.lF (R.length:Int) (R.length:Int) ?_;clear hJ;rw [List.take_length] at hall;refine G.l (ι:=Nat) (fun i=>[(1,.p 0 0),(6,.v (.slice (some ⟨g,0,none⟩) T.length T.length)),(156,.v (.slice (some ⟨g,0,none⟩) T.length T.length)),(157,.v (.int .i64 (T.length:Int))),(158,.v (.int .i64 (i:Int)))])
  (fun _=>[(0,⟨31,[.v (.slice xa T.length xc),.v (.slice xb R.length xd),.v (.slice xe F.length xf),.v (.int .i64 lab)]⟩)])
  (fun i u' m'=>i≤T.length∧m'=m2) (fun i=>T.length - i) 0 ⟨by omega,rfl⟩ ?_
 rintro J i hJ u3 m3 l3 ⟨hi3,rfl⟩;by_cases hlt3:i < T.length
 ·refine G.lT (i:Int) (T.length:Int) ?_;have hLi:L[i]?=some true:=by
   obtain ⟨r,hr,hq⟩:=ok.rel.all i hlt3;exact hall r hr i hq
  refine G.a g 0 T.length T.length i 1 hlt3 ?_;refine G.lM none g (0+i*1) (.bool true) (hA2.el (by rw [List.getElem?_map,hLi]; rfl)) ?_;refine G.i i ?_;exact G.b (hJ (i+1) _ _ _ cv l3 ⟨by omega,rfl⟩ (by omega))
 obtain rfl:i=T.length:=by omega
 refine G.lF (T.length:Int) (T.length:Int) ?_;clear hJ;have le3:=le2.trans l3;refine G.l (ι:=Nat) (fun i=>[(1,.p 0 0),(6,.v (.slice (some ⟨g,0,none⟩) T.length T.length)),(166,.v (.slice xe F.length xf)),(167,.v (.int .i64 (F.length:Int))),(168,.v (.int .i64 (i:Int)))])
  (fun _=>[(0,⟨31,[.v (.slice xa T.length xc),.v (.slice xb R.length xd),.v (.slice xe F.length xf),.v (.int .i64 lab)]⟩)])
  (fun i u' m'=>i≤F.length∧m'=m3) (fun i=>F.length - i) 0 ⟨by omega,rfl⟩ ?_
 rintro J i hJ u4 m4 l4 ⟨hi4,rfl⟩;have le4:=le3.trans l4;by_cases hlt4:i < F.length
 ·refine G.lT (i:Int) (F.length:Int) ?_;obtain ⟨f,hFi⟩:∃ f,F[i]?=some f:=⟨_,List.getElem?_eq_getElem hlt4⟩;have hfm:=List.mem_of_getElem? hFi;obtain ⟨fn,fk,hfk,hkind,hfl⟩:=ok.feat.ok f hfm;obtain ⟨hf1,_⟩:=List.getElem?_eq_some_iff.1 hfk;have hnx:(F.map (·.1))[i]?=some f.1:=by rw [List.getElem?_map,hFi]; rfl
  obtain ⟨fb,fo,rfl,ef⟩:=Ab.at' (hF.mono le4) (j:=i) (e:=B6 f) (by simp [hFi]);obtain ⟨ab,ao,rfl,ea⟩:=Ab.at' (hT.mono le4) (j:=f.1) (e:=D0 (fn,fk)) (by simp [hfk]);obtain ⟨p1,p2,p3⟩:=f;simp only at hkind hfl hf1 hnx ea;refine G.a fb fo F.length xf i 3 hlt4 ?_;refine G.lU (some 3) fb (fo+i*3) (.agg #[.int .i64 (p1:Int),.int .i64 (p2:Int),.int .i64 (p3:Int)]) ef ?_;refine G.lF (p1:Int) 0 ?_;refine G.hF (p1:Int) (T.length:Int) ?_;refine G.joinF (ι:=Unit) (fun st=>Kh prog (Xy prog st [.bool false,.bool true,.bool true,undef,undef,undef,.bool true])) (fun _=>[(1,.p 0 0),(6,.v (.slice (some ⟨g,0,none⟩) T.length T.length)),(15,.v (.int .i64 (i:Int))),(16,.p 50003 0),(166,.v (.slice (some ⟨fb,fo,none⟩) F.length xf)),(167,.v (.int .i64 (F.length:Int))),(168,.v (.int .i64 (i:Int)))])
   (fun _=>[(0,⟨31,[.v (.slice (some ⟨ab,ao,none⟩) T.length xc),.v (.slice xb R.length xd),.v (.slice (some ⟨fb,fo,none⟩) F.length xf),.v (.int .i64 lab)]⟩),(50003,⟨144,[.v (.int .i64 (p1:Int)),.v (.int .i64 (p2:Int)),.v (.int .i64 (p3:Int))]⟩)])
   (fun _ u' m'=>u'=u4∧m'=m4) (fun _=>by kernel_rfl) (by kernel_rfl) ?tail ?way
  case way =>
   intro hjoin;rcases hkind with ⟨rfl,rfl,hp3⟩ | ⟨rfl,rfl,rfl⟩
   ·refine G.eT ((1:Nat):Int) 1 ?_;rcases (by omega:p3=0∨p3=1) with rfl | rfl
    ·refine G.eT ((0:Nat):Int) 0 ?_;refine G.a ab ao T.length xc p1 2 hf1 ?_;refine G.f 92 ab (ao+p1*2) 1 1 ?_;refine G.lU none ab (ao+p1*2+1) (.int .i64 ((2:Nat):Int)) (I6 ea) ?_;refine G.eT ((2:Nat):Int) 2 ?_;refine G.eF ((1:Nat):Int) 2 ?_;refine G.pastI ?_;exact hjoin () _ _ _ (by kernel_rfl) cv (PH.le_refl _) ⟨rfl,rfl⟩
    ·refine G.eF ((1:Nat):Int) 0 ?_;refine G.eT ((1:Nat):Int) 1 ?_;refine G.a ab ao T.length xc p1 2 hf1 ?_;refine G.f 92 ab (ao+p1*2) 1 1 ?_;refine G.lU none ab (ao+p1*2+1) (.int .i64 ((2:Nat):Int)) (I6 ea) ?_;refine G.eT ((2:Nat):Int) 2 ?_;refine G.eF ((1:Nat):Int) 2 ?_;refine G.pastI ?_;exact hjoin () _ _ _ (by kernel_rfl) cv (PH.le_refl _) ⟨rfl,rfl⟩
   ·refine G.eF ((2:Nat):Int) 1 ?_;refine G.eT ((2:Nat):Int) 2 ?_;refine G.eT ((0:Nat):Int) 0 ?_;refine G.a ab ao T.length xc p1 2 hf1 ?_;refine G.f 92 ab (ao+p1*2) 1 1 ?_;refine G.lU none ab (ao+p1*2+1) (.int .i64 ((3:Nat):Int)) (I6 ea) ?_;refine G.eT ((3:Nat):Int) 3 ?_;refine G.pastI ?_;exact hjoin () _ _ _ (by kernel_rfl) cv (PH.le_refl _) ⟨rfl,rfl⟩
  rintro _ u5 m5 _ ⟨rfl,rfl⟩;refine G.l (ι:=Nat) (fun k=>[(1,.p 0 0),(6,.v (.slice (some ⟨g,0,none⟩) T.length T.length)),(15,.v (.int .i64 (i:Int))),(16,.p 50003 0),(19,.v (.int .i64 (k:Int))),(166,.v (.slice (some ⟨fb,fo,none⟩) F.length xf)),(167,.v (.int .i64 (F.length:Int))),(168,.v (.int .i64 (i:Int)))])
   (fun _=>[(0,⟨31,[.v (.slice (some ⟨ab,ao,none⟩) T.length xc),.v (.slice xb R.length xd),.v (.slice (some ⟨fb,fo,none⟩) F.length xf),.v (.int .i64 lab)]⟩),(50003,⟨144,[.v (.int .i64 (p1:Int)),.v (.int .i64 (p2:Int)),.v (.int .i64 (p3:Int))]⟩)])
   (fun k u' m'=>k≤i∧m'=m5) (fun k=>i - k) 0 ⟨by omega,rfl⟩ ?_
  rintro J2 k hJ2 u6 m6 l6 ⟨hk,rfl⟩;by_cases hlk:k < i
  ·refine G.lT (k:Int) (i:Int) ?_;obtain ⟨y,hFk⟩:∃ y,F[k]?=some y:=⟨_,List.getElem?_eq_getElem (by omega)⟩;have hny:(F.map (·.1))[k]?=some y.1:=by rw [List.getElem?_map,hFk]; rfl
   have hne:y.1≠p1:=fun e=>Nat.ne_of_lt hlk (Og ok.feat.nodup hny (by rw [hnx,e]));obtain ⟨_,_,e',ek⟩:=Ab.at' (hF.mono (le4.trans l6)) (j:=k) (e:=B6 y) (by simp [hFk]);cases e';refine G.a fb fo F.length xf k 3 (by omega) ?_;refine G.f 144 fb (fo+k*3) 0 0 ?_;refine G.lU none fb (fo+k*3+0) (.int .i64 (y.1:Int)) (ek.fld rfl rfl) ?_;refine G.eF (y.1:Int) (p1:Int) ?_;refine G.i k ?_;exact G.b (hJ2 (k+1) _ _ _ cv l6 ⟨by omega,rfl⟩ (by omega))
  ·obtain rfl:k=i:=by omega
   refine G.lF (k:Int) (k:Int) ?_;refine G.eF' (p1:Int) lab hfl ?_;refine G.i k ?_;exact G.b (hJ (k+1) _ _ _ cv (l4.trans l6) ⟨by omega,rfl⟩ (by omega))
 obtain rfl:i=F.length:=by omega
 refine G.lF (F.length:Int) (F.length:Int) ?_;refine G.drop PH.mt (by kernel_rfl) (PH.mt_le _) ?_;refine G.lF lab (-1) ?_;refine G.hF lab (T.length:Int) ?_;rcases Int.lt_or_le lab 0 with hneg | hge
 ·refine G.hF lab 0 ?_;exact G.r (.int .i64 0) ⟨rfl,rfl⟩
 ·refine G.hT lab 0 ?_;obtain ⟨l,rfl⟩:∃ l:Nat,lab=(l:Int):=⟨lab.toNat,by omega⟩;obtain ⟨n,hn⟩:=ok.l2 l rfl;obtain ⟨bb,ob,rfl,eb⟩:=Ab.at' (hT.mono le4) (j:=l) (e:=D0 (n,2)) (by simp [hn]);refine G.a bb ob T.length xc l 2 (by omega) ?_;refine G.f 92 bb (ob+l*2) 1 1 ?_;refine G.lU none bb (ob+l*2+1) (.int .i64 ((2:Nat):Int)) (I6 eb) ?_;refine G.nF ((2:Nat):Int) 2 ?_;exact G.r (.int .i64 0) ⟨rfl,rfl⟩
end
section
open Go.RowKit Go.MapKept
variable {u:PH}
theorem Akm {l:List Nat}{i:Nat}(h:i < l.length):l.drop i=l.getD i 0::l.drop (i+1):=by
 rw [List.drop_eq_getElem_cons h];simp [List.getD_eq_getElem?_getD,List.getElem?_eq_getElem h]
theorem Yq (l:List Nat):∀ k,val (l.drop k)≤val l:=by
 induction l with
 | nil=>intro k; simp
 | cons a l ih =>
  intro k;cases k with
  | zero=>simp
  | succ k =>
   have:=ih k;simp only [List.drop_succ_cons,val];omega
theorem L4 {z:Int}(hz:z.natAbs < 1000000000000000000):Fn0 prog 209 [.string (mkS (Lib.itoa z))] u fun v _=>v=.tuple #[.int .i64 z,.bool true]:=by
 have hd:=Me hz;refine Fn0.o func209 ?_;refine G.c call166 (Py hd) ?_;rintro v1 u1 l1 rfl;refine G.c call83 (Ks hd) ?_;intro v2 u2 l2 k2;obtain ⟨b,a,n,c,rfl,hb,hi⟩:=k2.opn;obtain ⟨rfl,hc⟩:=hi.len;refine G.c call79 (Te (n:=4611686018427387904) (by omega) (by omega)) ?_;intro v3 u3 l3 k3;obtain ⟨b',a',n',c',rfl,hb',hi'⟩:=k3.opn;obtain ⟨rfl,hc'⟩:=hi'.len;have hnl:nl z.natAbs≤400:=Bs hd;have hnl2:nl (4611686018427387904:Int).natAbs≤400:=Bs (by decide +kernel);refine G.c call172 (Jb (hi.mono l3) hi' (by omega) (by omega)) ?_;rintro v4 u4 l4 rfl;have hs:sgn (((z.natAbs:Nat):Int) - (((4611686018427387904:Int).natAbs:Nat):Int))≤0:=by
  unfold sgn;have:((4611686018427387904:Int).natAbs:Int)=4611686018427387904:=by decide
  split
  ·omega
  ·split <;> omega
 refine G.gF (sgn (((z.natAbs:Nat):Int) - (((4611686018427387904:Int).natAbs:Nat):Int))) 0 ?_;have hnl':(Aa z.natAbs).length≤400:=hnl;refine G.s ((Aa z.natAbs).length:Int) 1 ((Aa z.natAbs).length - 1:Int) ?_;refine G.l (ι:=Int×Nat) (fun i=>[(4,.p 3002 0),(6,.v (.int .i64 (i.2:Int))),(7,.v (.int .i64 i.1))]) (fun _=>[(3002,⟨66,[.v (.bool b),.v (.slice a (Aa z.natAbs).length c)]⟩)])
  (fun i u' m'=>-1≤i.1∧i.1 < (Aa z.natAbs).length∧i.2=val ((Aa z.natAbs).drop (i.1+1).toNat)∧m'=PH.mt) (fun i=>(i.1+1).toNat) (((Aa z.natAbs).length - 1:Int),0) ⟨by dsimp only; omega,by dsimp only; omega,by
   dsimp only;rw [show (((Aa z.natAbs).length:Int) - 1+1).toNat=(Aa z.natAbs).length by omega,List.drop_length]; rfl,rfl⟩ ?_
 rintro J ⟨i,s⟩ hJ u5 m5 l5 ⟨h1,h2,hsv,rfl⟩;simp only at h1 h2 hsv hJ;have hvz:=Aj z.natAbs;by_cases hi0:0≤i
 ·obtain ⟨k,rfl⟩:∃ k:Nat,i=(k:Int):=⟨i.toNat,by omega⟩;have hkl:k < (Aa z.natAbs).length:=by omega
  rw [show ((k:Int)+1).toNat=k+1 by omega] at hsv;have hdr:=Akm hkl;have hle:=Yq (Aa z.natAbs) k;rw [hvz,hdr] at hle;simp only [val] at hle;rw [← hsv] at hle;refine G.hT (k:Int) 0 ?_;refine G.mul (s:Int) 1000000000 ((s*1000000000:Nat):Int) (by kernel_rfl) (by omega) (by omega) (by omega) ?_;obtain ⟨bb,off,rfl,e⟩:=(hi.mono ((l3.trans l4).trans l5)).at hkl;refine G.a bb off (Aa z.natAbs).length c k 1 hkl ?_;refine G.lU none bb (off+k*1) (.int .i64 ((Aa z.natAbs).getD k 0:Nat)) e ?_;generalize hg:(Aa z.natAbs).getD k 0=d at hdr hle;refine G.p ((s*1000000000:Nat):Int) (d:Int) ((s*1000000000+d:Nat):Int) ?_;refine G.s (k:Int) 1 ((k:Int) - 1) ?_;exact G.b (hJ ((k:Int) - 1,s*1000000000+d) _ _ _ cv l5 ⟨by dsimp only; omega,by dsimp only; omega,by
   dsimp only;rw [show ((k:Int) - 1+1).toNat=k by omega,hdr];simp only [val];rw [← hsv]; omega,rfl⟩ (by dsimp only; omega))
 ·obtain rfl:i = -1:=by omega
  refine G.hF (-1) 0 ?_;have hs2:s=z.natAbs:=by rw [hsv,show ((-1:Int)+1).toNat=0 by decide,List.drop_zero,hvz]
  subst hs2;cases b with
  | true =>
   have hneg:z < 0:=by simpa using hb.symm
   refine G.neg ((z.natAbs:Nat):Int) z (by kernel_rfl) (by omega) (by omega) (by omega) ?_;exact G.r (.tuple #[.int .i64 z,.bool true]) ⟨rfl,rfl⟩
  | false =>
   have hnn:¬ z < 0:=by simpa using hb.symm
   have hzz:((z.natAbs:Nat):Int)=z:=by omega
   refine G.r (.tuple #[.int .i64 ((z.natAbs:Nat):Int),.bool true]) ⟨rfl,by rw [hzz]⟩
theorem Aov (z:Int):Af (z:Rat)=Lib.itoa z:=by
 unfold Af; simp
theorem Agh {x:List UInt8×Nat}{t:List UInt8}(h1:1≤x.2)(h3:x.2≤3)(hv:Ii x.2 t):Fn0 prog 136 [D0 x,.string (mkS t)] u fun v _=>v=.bool true:=by
 obtain ⟨s,k⟩:=x;simp only at h1 h3 hv;refine Fn0.o func136 ?_;refine G.lF (k:Int) 1 ?_;refine G.gF (k:Int) 3 ?_;by_cases ht:t = []
 ·refine G.q t [] ht ?_;exact G.r (.bool true) ⟨rfl,rfl⟩
 refine G.w t [] ht ?_;rcases hv with e | ⟨rfl,hw⟩ | ⟨rfl,z,hz,rfl⟩ | ⟨rfl,q,hq,rfl⟩
 ·exact absurd e ht
 ·refine G.eT ((3:Nat):Int) 3 ?_;refine G.c call135 (Nt (Ag0 hw)) ?_;rintro v1 u1 l1 rfl;exact G.r (.bool true) ⟨rfl,rfl⟩
 ·refine G.eF ((1:Nat):Int) 3 ?_;have hp:=Pt (u:=u) (q:=(z:Rat)) ⟨Me (by simpa using (by omega:z.natAbs < 1000000000000000000)),by simp; decide +kernel⟩;rw [Aov] at hp;simp only [Rat.num_intCast,Rat.den_intCast] at hp;refine G.c call81 hp ?_;rintro v1 u1 l1 rfl;refine G.eT ((1:Nat):Int) 1 ?_;refine G.y (Lib.itoa ((1:Nat):Int)) [49] (by decide +kernel) ?_;refine G.c call209 (L4 (z:=z) (by omega)) ?_;rintro v2 u2 l2 rfl;refine G.c call209 (L4 (z:=((1:Nat):Int)) (by omega)) ?_;rintro v3 u3 l3 rfl;refine G.hT z (-1000000000) ?_;refine G.kT z 1000000000 ?_;refine G.kT ((1:Nat):Int) 12 ?_;exact G.r (.bool true) ⟨rfl,rfl⟩
 ·have hdt:=hq.dat;have hn:=hdt.num;have hdn:=hdt.den;refine G.eF ((2:Nat):Int) 3 ?_;refine G.c call81 (Pt hdt.tx) ?_;rintro v1 u1 l1 rfl;refine G.eF ((2:Nat):Int) 1 ?_;refine G.c call209 (L4 (z:=q.num) (by omega)) ?_;rintro v2 u2 l2 rfl;refine G.c call209 (L4 (z:=(q.den:Int)) (by omega)) ?_;rintro v3 u3 l3 rfl;refine G.hT q.num (-1000000000) ?_;refine G.kT q.num 1000000000 ?_;refine G.kT (q.den:Int) 12 ?_;exact G.r (.bool true) ⟨rfl,rfl⟩
theorem Afu {v tv:Value}{T:List (List UInt8×Nat)}{R:List Bk}{F:List Ao}{lab:Int}{ss:List (List UInt8)}(h:Af5 u v tv T R F lab ss) :
  Fn0 prog 64 [v,tv] u fun r _=>r=.int .i64 0:=by
 have hck:=fun (u':PH) (l:PH.le u u')=>Pf (h.sch.mono l) (h.ok.mono l);obtain ⟨⟨xa,xc,xb,xd,xe,xf,rfl,hTL,hRL,hFL⟩,ok,hS,hT⟩:=h;obtain ⟨ya,yc,rfl⟩:=hS.opn;rw [List.length_map] at hS ⊢;have hlen:=hT.len;have t2:=ok.t2;refine Fn0.o func64 ?_;refine G.c call62 (hck u (PH.le_refl _)) ?_;rintro v1 u1 l1 rfl;refine G.nF 0 0 ?_;refine G.nF (ss.length:Int) (T.length:Int) ?_;refine G.l (ι:=Nat) (fun i=>[(2,.p 0 0),(19,.v (.slice ya ss.length yc)),(20,.v (.int .i64 (ss.length:Int))),(21,.v (.int .i64 (i:Int)))])
  (fun _=>[(0,⟨31,[.v (.slice xa T.length xc),.v (.slice xb R.length xd),.v (.slice xe F.length xf),.v (.int .i64 lab)]⟩)])
  (fun i u' m'=>i≤ss.length∧m'=PH.mt) (fun i=>ss.length - i) 0 ⟨by omega,rfl⟩ ?_
 rintro J i hJ u2 m2 l2 ⟨hi,rfl⟩;have le2:=l1.trans l2;by_cases hlt:i < ss.length
 ·refine G.lT (i:Int) (ss.length:Int) ?_;obtain ⟨b,off,rfl,e⟩:=Adx (hS.mono le2) hlt;refine G.a b off ss.length yc i 1 hlt ?_;refine G.lU none b (off+i*1) (.string (mkS (ss.getD i []))) e ?_;have hTi:T[i]?=some T[i]:=List.getElem?_eq_getElem (by omega);have hk:=ok.att.kind T[i] (List.getElem_mem (by omega));have hv:=hT.val i _ _ hTi (List.getElem?_eq_getElem hlt);rw [show ss[i]=ss.getD i [] by simp [List.getD_eq_getElem?_getD,List.getElem?_eq_getElem hlt]] at hv;obtain ⟨ba,oa,rfl,ea⟩:=Ab.at' (hTL.mono le2) (j:=i) (e:=D0 T[i]) (by simp [hTi]);generalize T[i]=x at hTi hk hv ea;refine G.a ba oa T.length xc i 2 (by omega) ?_;refine G.lU (some 2) ba (oa+i*2) (D0 x) ea ?_;refine G.c call136 (Agh hk.1 hk.2 hv) ?_;rintro v3 u3 l3 rfl;refine G.i i ?_;exact G.b (hJ (i+1) _ _ _ cv (l2.trans l3) ⟨by omega,rfl⟩ (by omega))
 ·obtain rfl:i=ss.length:=by omega
  refine G.lF (ss.length:Int) (ss.length:Int) ?_;exact G.r (.int .i64 0) ⟨rfl,rfl⟩
end
end Go.Proofs.YtanfagpabkdmiaaGreatDoor
