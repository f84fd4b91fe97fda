import Derived.Test.YtemmheaocgmebaaGreatDoorV08
import Derived.RangeFuncIn
import Derived.OrdersIn
import Derived.ChangeKeysEq
set_option linter.defProp false
set_option linter.unusedVariables false
set_option linter.unusedSimpArgs false
set_option linter.unusedSectionVars false
set_option maxHeartbeats 16000000
namespace Go.Proofs.YtemmheaocgmebaaGreatDoor
open Go.Proofs.Tryz
open Go.RowKit Go.MapKept
def A6f:=@List.pairwise_singleton
def A6v:=@List.mem_append_right
def A9x:=@List.mem_of_mem_erase
def A3a:=@List.erase_cons_head
def A5e:=@List.erase_cons_tail
def A92:=@List.getElem?_zipIdx
def A5r:=@List.perm_append_comm
section
variable {F:List Al}{R:List Br}{T:zC}{a:zP}{c k n:Nat}{l:zK}{m m0 u:PH}
def nmA (j:Nat):zB:=[97]++[Zq j]
def nmR (j:Nat):zB:=[114]++[Zq j]
def Axx (h:n<=6):Rc ((List.range n).map nmA):=by
 have e:∀ n:Fin 7,(((List.range n.val).map nmA).all Hn&&decide ((List.range n.val).map nmA).Nodup)=true:=jV
 exact Sc (e ⟨n,oV⟩)
def Ayn (h:n<=6):Rc ((List.range n).map nmR):=by
 have e:∀ n:Fin 7,(((List.range n.val).map nmR).all Hn&&decide ((List.range n.val).map nmR).Nodup)=true:=jV
 exact Sc (e ⟨n,oV⟩)
structure TOK (T:zC):Prop where
 nm:T.map (·.1)=(List.range T.length).map nmA
 kd:∀ a∈T,1<=a.2/\a.2<=3
 le:T.length<=6
def TOK.nil:TOK []:=⟨rfl,fun a e=>by simp at e,mV⟩
def TOK.snoc (h:TOK T)(j:1<=k)(t:k<=3)(E:T.length<6):TOK (T++[(nmA T.length,k)]):=by
 refine⟨?_,fun a C=>?_,gV⟩
 ·rw[A1i,h.nm,A1d,A20,A5d,A1i];rfl
 rcases A1h.1 C with e|e
 ·exact h.kd a e
 obtain rfl:=A12.1 e;exact⟨j,t⟩
structure TOM (N:Nat)(T:zC):Prop extends TOK T where
 lem:T.length<=N
def TOM.nil (N:Nat):TOM N []:=⟨TOK.nil,A1t _⟩
def TOM.snocm {N:Nat}(h:TOM N T)(e:1<=k)(j:k<=3)(C:T.length<N)(t:N<=6):TOM N (T++[(nmA T.length,k)]) :=
 ⟨h.toTOK.snoc e j oV,by rw[A1d,A20];omega⟩
def TOK.att (h:TOK T):Aq4 T:=⟨by rw[h.nm];exact Axx h.le,h.kd⟩
structure LOK (l:zK)(n:Nat):Prop where
 asc:l.Pairwise (· < ·)
 lt:∀ a∈l,a<n
 len:l.length<=n
def LOK.nil:LOK [] 0:=⟨List.Pairwise.nil,fun a e=>by simp at e,mV⟩
def LOK.up (h:LOK l n):LOK l (n+1):=⟨h.asc,fun a e=>by have:=h.lt a e;omega,by have:=h.len;omega⟩
def LOK.snoc (h:LOK l n):LOK (l++[n]) (n+1):=by
 refine⟨A35.2 ⟨h.asc,A6f _ _,fun a j b t=>?_⟩,fun a j=>?_,by simp;have:=h.len;omega⟩
 ·obtain rfl:=A12.1 t;exact h.lt a j
 rcases A1h.1 j with e|e
 ·have:=h.lt a e;omega
 obtain rfl:=A12.1 e;omega
def LOK.zero (h:0<n):LOK [0] n:=⟨A6f _ _,fun a e=>by
 obtain rfl:=A12.1 e;exact h,gV⟩
structure ROK (u:PH)(n:Nat)(R:List Br):Prop where
 nm:R.map (·.1)=(List.range R.length).map nmR
 ne:∀ r∈R,r.2.1≠[]
 ok:∀ r∈R,LOK r.2.1 n
 all:∀ a<n,∃ r∈R,a∈r.2.1
 at':∀ r∈R,Ac u (.slice r.2.2.1 r.2.1.length r.2.2.2) 1 (Ai r.2.1)
def ROK.nil :ROK u 0 []:=⟨rfl,fun a e=>by simp at e,fun a e=>by simp at e,fun a e=>oV,fun a e=>by simp at e⟩
def ROK.mono {u e:PH}{n:Nat}{R:List Br}(h:ROK u n R)(j:PH.le u e):ROK e n R:=⟨h.nm,h.ne,h.ok,h.all,fun r t=>(h.at' r t).mono j⟩
def ROK.snoc {n C:Nat}(h:ROK u n R)(L:n<=C)(J:LOK l C)(I:l≠[])(t:∀ a,n<=a->a<C->a∈l)(H:Ac u (.slice a l.length c) 1 (Ai l)):ROK u C (R++[(nmR R.length,l,(a,c))]):=by
 refine⟨?_,fun r j=>?_,fun r j=>?_,fun a E=>?_,fun r j=>?_⟩
 ·rw[A1i,h.nm,A1d,A20,A5d,A1i];rfl
 ·rcases A1h.1 j with e|e
  ·exact h.ne r e
  obtain rfl:=A12.1 e;exact I
 ·rcases A1h.1 j with e|e
  ·have:=h.ok r e;exact⟨this.asc,fun a E=>by have:=this.lt a E;omega,by have:=this.len;omega⟩
  obtain rfl:=A12.1 e;exact J
 ·rcases A2e a n with e|e
  ·obtain⟨r,j,K⟩:=h.all a e;exact⟨r,A24 _ j,K⟩
  exact⟨_,A6v _ (A12.2 rfl),t a e E⟩
 rcases A1h.1 j with e|e
 ·exact h.at' r e
 obtain rfl:=A12.1 e;exact H
def ROK.rel (h:ROK u n R)(I:n<=6)(C:R.length<=6):Py u n R:=by
 refine⟨by rw[h.nm];exact Ayn C,h.ne,fun r e=>(h.ok r e).lt,fun r e=>by have:=(h.ok r e).len;omega,fun r e k x y E H=>?_,h.all,h.at'⟩;obtain⟨j,rfl⟩:=A05.1 E;obtain⟨t,rfl⟩:=A05.1 H;exact A3n.1 (h.ok r e).asc k (k+1) j t oV
structure FOK (T:zC)(F:List Al)(lab:Int)(a:Nat):Prop where
 feat:Da T F lab
 lt:∀ f∈F,f.1<a
 len:F.length<=a
 l1:-1<=lab
 l2:∀ l:Nat,lab=(l:Int)->l<a/\∃ n,T[l]?=some (n,2)
def FOK.nil :FOK T [] (-1) 0:=⟨⟨fun f e=>by simp at e,mV⟩,fun f e=>by simp at e,mV,oV,fun l h=>oV⟩
def FOK.skip {lab:Int}{a:Nat}(h:FOK T F lab a):FOK T F lab (a+1):=⟨h.feat,fun f j=>by have:=h.lt f j;omega,by have:=h.len;omega,h.l1,fun l t=>by
 obtain⟨C,e⟩:=h.l2 l t;exact⟨oV,e⟩⟩
def FOK.lab {lab:Int}{a:Nat}{n:zB}(h:FOK T F lab a)(C:T[a]?=some (n,2)):FOK T F (a:Int) (a+1):=by
 refine⟨⟨fun f e=>?_,h.feat.nodup⟩,fun f e=>by have:=h.lt f e;omega,by have:=h.len;omega,oV,fun l H=>?_⟩
 ·obtain⟨n,k,j,t,E⟩:=h.feat.ok f e;exact⟨n,k,j,t,by have:=h.lt f e;omega⟩
 obtain rfl:l=a:=oV;exact⟨oV,n,C⟩
def FOK.put {lab:Int}{a k:Nat}{n:zB}{g:Nat×Nat}(h:FOK T F lab a)(C:T[a]?=some (n,k))(E:(g.1=1/\k=2/\g.2<=1)\/(g.1=2/\k=3/\g.2=0)):FOK T (F++[(a,g)]) lab (a+1):=by
 refine⟨⟨fun f j=>?_,?_⟩,fun f j=>?_,by simp;have:=h.len;omega,h.l1,fun l H=>?_⟩
 ·rcases A1h.1 j with e|e
  ·exact h.feat.ok f e
  obtain rfl:=A12.1 e;refine⟨n,k,C,E,fun e=>?_⟩;have:=(h.l2 a e.symm).1;omega
 ·rw[A1i];refine A4p.2 ⟨h.feat.nodup,mV,fun x I y J=>?_⟩;obtain⟨f,j,rfl⟩:=A1b.1 I;have:=h.lt f j;simp at J;omega
 ·rcases A1h.1 j with e|e
  ·have:=h.lt f e;omega
  obtain rfl:=A12.1 e;show a<a+1;omega
 obtain⟨K,t⟩:=h.l2 l H;exact⟨oV,t⟩
def Aw6 {lab:Int}(hT:TOK T)(j:ROK u T.length R)(hF:FOK T F lab T.length)(h0:0<T.length)(h:0<R.length)(e:R.length<=6):Bl u T R F lab :=
 ⟨hT.att,j.rel hT.le e,hF.feat,h0,by have:=hT.le;omega,h,e,by have:=hF.len;have:=hT.le;omega,hF.l1,fun l t=>(hF.l2 l t).2⟩
def Acx (a:zP)(c:Nat)(T:zC):Arr:=⟨.slice a T.length c,96,2,T.map D9⟩
def Zn (a:zP)(c:Nat)(R:List Br):Arr:=⟨.slice a R.length c,98,2,R.map Hs⟩
def W3 (a:zP)(c:Nat)(F:List Al):Arr:=⟨.slice a F.length c,100,3,F.map Cm⟩
def Agt (a:zP)(c:Nat)(l:zK):Arr:=⟨.slice a l.length c,3,1,Ai l⟩
def Ath :(Acx a c T).At m0 m=Af m0 m (.slice a T.length c) 96 2 (T.map D9):=rfl
theorem Aj5 :(Zn a c R).At m0 m=Af m0 m (.slice a R.length c) 98 2 (R.map Hs):=rfl
def Acb :(W3 a c F).At m0 m=Af m0 m (.slice a F.length c) 100 3 (F.map Cm):=rfl
def Aca :(Agt a c l).At m0 m=Af m0 m (.slice a l.length c) 3 1 (Ai l):=rfl
def Ak2 (x:zB×Nat):A9 2 [D9 x]:=by
 intro e h;simp at h;subst h;exact⟨rfl,fun y j=>by simp[D9,Value.cells]at j;rcases j with rfl|rfl<;>rfl⟩
def Sh (x:Br):A9 2 [Hs x]:=by
 intro e h;simp at h;subst h;exact⟨rfl,fun y j=>by simp[Hs,Value.cells]at j;rcases j with rfl|rfl<;>rfl⟩
def Kg (x:Al):A9 3 [Cm x]:=by
 intro e h;simp at h;subst h;exact⟨rfl,fun y j=>by simp[Cm,Value.cells]at j;rcases j with rfl|rfl|rfl<;>rfl⟩
end
section
variable {A T post:zK}{i x y:Nat}{listed:Array Bool}{o:Oper}{s s0:S}
variable [Cl] [Co]
section
variable {P:Program} {id:Nat} {ops:Array Oper} {dr:Bool} {Fin:S->PH->PH->Prop} {c:Cx} {Q:Exit->Act->World->Prop}
def Ob.append {l2:zK}:∀ {e:zK} {s:S} {u m:PH},Ob P id ops dr (fun s u m=>Ob P id ops dr Fin l2 s u m) e s u m->Ob P id ops dr Fin (e++l2) s u m
 |[],s,u,m,h=>by
  cases h with
  |nil h=>exact h
 |i::e,s,u,m,h=>by
  cases h with
  |auto ho hg hd he hl=>exact .auto ho hg hd he hl.append
  |skip ho hg hd hl=>exact .skip ho hg hd hl.append
  |ask ho hg hd hv hs hal hw hl=>exact .ask ho hg hd hv hs hal hw hl.append
  |big ho hg hd hv hs hf hk hw hl=>exact .big ho hg hd hv hs hf hk hw fun v E C j t=>(hl v E C j t).append
def Ob.fin {e:S->PH->PH->Prop}(j:∀ s u m,Fin s u m->e s u m):∀ {l:zK} {s:S} {u m:PH},Ob P id ops dr Fin l s u m->Ob P id ops dr e l s u m
 |[],s,u,m,h=>by
  cases h with
  |nil h=>exact .nil (j _ _ _ h)
 |i::l1,s,u,m,h=>by
  cases h with
  |auto ho hg hd he hl=>exact .auto ho hg hd he (hl.fin j)
  |skip ho hg hd hl=>exact .skip ho hg hd (hl.fin j)
  |ask ho hg hd hv hs hal hw hl=>exact .ask ho hg hd hv hs hal hw (hl.fin j)
  |big ho hg hd hv hs hf' hk hw hl=>exact .big ho hg hd hv hs hf' hk hw fun v F E t C=>(hl v F E t C).fin j
structure Km (ops:Array Oper)(listed:Array Bool)(T:zK):Prop where
 sz:listed.size=ops.size
 mem:∀ i,i<ops.size->(listed.getD i true=false↔i∈T)
 lt:∀ i∈T,i<ops.size
 nd:T.Nodup
 cl:Ag7 ops listed
theorem Tz :i∈Region.ready .any ops listed↔i<ops.size/\listed.getD i true=false/\∃ o,ops[i]?=some o/\∀ e∈o.after,Region.binds .any e=true->listed.getD e.on false=true:=by
 simp only[Region.ready,A7a,A6q,A1m,A3w];refine and_congr_right fun hi=>and_congr_right fun _=>?_;have h:ops[i]?=some ops[i]:=A2v hi;rw[h];simp only[A4c,A4w,Bab];constructor
 ·grind
 grind
theorem Km.no (h:Km ops listed T)(t:x∈T):listed.getD x false=true->False:=by
 intro e;have j:=h.lt x t;have:=(h.mem x j).2 t;have C:x<listed.size:=by grind
 simp only[A2t,A2v C,A4w]at e this;rw[this]at e;cases e
theorem Km.next {A B:zK}(h:Km ops listed (A++i::B))(Y:ops[i]?=some o)(U:∀ e∈o.after,Region.binds .any e=true->listed.getD e.on false=true):Km ops (listed.setIfInBounds i true) (A++B):=by
 obtain⟨L,hT,H,X,I⟩:=h;have E:(A++B).Nodup/\i∉A++B:=by grind
 refine⟨by simpa using L,fun j C=>?_,fun j C=>H j ?_,E.1,?_⟩
 ·by_cases t:j=i
  ·simp_all
  have:=hT j C;simp only[A2t,A2m (fun h=>t h.symm)]at this⊢;rw[this];simp[t]
 ·grind
 intro j C o' K e W V;have F:∀ k,listed.getD k false=true->(listed.setIfInBounds i true).getD k false=true:=by
  intro k R;by_cases J:k=i
  ·grind
  simp only[A2t,A2m (fun h=>J h.symm)]at R⊢;exact R
 by_cases t:j=i
 ·grind
 refine F _ (I j ?_ o' K e W V);simp only[A2t,A2m (fun h=>t h.symm)]at C⊢;exact C
def Km.swaps (h:Km ops listed T)(H:∀ x∈A,x∈T)(J:ops[i]?=some o)(E:∀ e∈o.after,Region.binds .any e=true->listed.getD e.on false=true)(I:∀ x∈A,Ge ops s0 x i=true):∀ x∈A,Aga ops s0 x i=true:=by
 intro x F;have hp:=I x F;unfold Ge at hp;simp only[A1m,A4b]at hp;have C:∀ o',ops[i]?=some o'->∀ e∈o'.after,Region.binds .any e=true->listed.getD e.on false=true:=fun o' t=>by rw[J]at t;obtain rfl:=A28 t;exact E
 rcases hp.2 with (j|j)|j
 ·exact (h.no (H x F) (Xi C j)).elim
 ·exact j
 exact (h.no (H x F) (Ib h.cl ops.size i C j)).elim
def Km.any {s0:S}(e:On s0)(t:(List.range ops.size).all (Kd ops)=true)(hF:∀ s u m ρ a w,Fin s u m->Rel c s u m ρ a w->Q .normal a w){n:Nat}{T:zK}{listed:Array Bool}{s:S}{u m:PH}{ρ:Nat->Nat}{a:Act}{w:World}(h:Km ops listed T)(F:T.length=n)
 (E:T.Pairwise (fun x y=>Ge ops s0 x y=true)) (j:Gb ops s0 s) (C:Ob P id ops true Fin T s u m) (H:Rel c s u m ρ a w):Go.wpAny P .any ops Q n listed a w :=
 Ob.wpAny e t hF n T listed F h.sz h.mem h.lt h.nd h.cl E j C H
def Km.perm {T e:zK}(h:Km ops listed T)(hp:T.Perm e):Km ops listed e :=
 ⟨h.sz,fun i hi=>(h.mem i hi).trans hp.mem_iff,fun i hi=>h.lt i (hp.mem_iff.2 hi),hp.nodup_iff.1 h.nd,h.cl⟩
theorem Km.first {t:Nat}(h:Km ops listed (t::T))(F:(List.range ops.size).all (Kd ops)=true)(R:∀ x∈T,dir ops t x=false):t∈Region.ready .any ops listed:=by
 have hp:=h.lt t mV;refine Tz.2 ⟨hp,(h.mem t hp).2 mV,ops[t],A2v hp,fun e J H=>?_⟩;rw[A1o]at F;have j:=F t (by simpa using hp);unfold Kd at j;rw[A2v hp]at j;simp only[A1o]at j;have:=j e (by simpa using J);simp only[H,A72,A80,A1m]at this;have C:e.on<ops.size:=A8f▸this.1;have L:e.on≠t:=fun h=>by rw[h]at this;simp at this
 have I:dir ops t e.on=true:=by
  unfold dir;rw[A2v hp];simp only[A5h,A1m];exact⟨e,by simpa using J,H,mV⟩
 cases hl:listed.getD e.on true with
 |true =>
  have K:e.on<listed.size:=by have:=h.sz;omega
  simp only[A2t,A2v K]at hl⊢;exact hl
 |false =>
  have E:=(h.mem e.on C).1 hl;rcases A1g.1 E with E|E
  ·grind
  grind
def Gq (h:Ge ops s0 x y=true):dir ops x y=false:=by
 unfold Ge at h;simp only[A1m,A3w]at h;exact h.1.1
def Qh (P:Program)(id:Nat)(ops:Array Oper)(post:zK)(Fin:S->PH->PH->Prop):Nat->zK->S->PH->PH->Prop
 |0,_,s,u,m=>Ob P id ops true Fin post s u m
 |n+1,A,s,u,m=>∀ a∈A,(∀ b∈A,b≠a->bef ops ops.size a b=false)->Ob P id ops true (Qh P id ops post Fin n (A.erase a)) [a] s u m
theorem Ob.wpAnyT (R:On s0)(hE:(List.range ops.size).all (Kd ops)=true)(hF:∀ s u m ρ a w,Fin s u m->Rel c s u m ρ a w->Q .normal a w){post A0:zK}(a0:∀ y∈post,∀ a∈A0,bef ops ops.size y a=true)(a5:∀ a∈A0,∀ y∈post,dir ops a y=false) :
 ∀ (n k:Nat) (A pre:zK) (listed:Array Bool) {s:S} {u m:PH} {ρ:Nat->Nat} {a:Act} {w:World},A.length=k->(∀ x∈A,x∈A0)->A.Pairwise (fun x y=>dir ops x y=false)->pre.length+(k+post.length)=n->Km ops listed (pre++(A++post)) ->
  (pre++post).Pairwise (fun x y=>Ge ops s0 x y=true)->(∀ x∈pre,∀ y∈A,Ge ops s0 x y=true)->Gb ops s0 s->Ob P id ops true (Qh P id ops post Fin k A) pre s u m->Rel c s u m ρ a w->Go.wpAny P .any ops Q n listed a w:=by
 intro n;induction n with
 |zero =>
  intro k A pre listed s u m ρ a w Z L W U j hP J H hO hr;obtain rfl:k=0:=oV;obtain rfl:=A2l Z;exact j.any R hE hF (by simp only[A1d,A30];omega) hP H (Ob.append hO) hr
 |succ n ih =>
  intro k A pre listed s u m ρ a w Z L W U j hP J H hO hr;cases A with
  |nil =>
   simp at Z;subst Z;exact j.any R hE hF gV hP H (Ob.append hO) hr
  |cons b A' =>
   obtain⟨k,rfl⟩:∃ k',k=k'+1:=⟨k-1,by simp at Z;omega⟩;refine⟨fun V=>?_,fun i hi=>?_⟩
   ·cases pre with
    |nil =>
     have:=Km.first (t:=b) (T:=A'++post) j hE fun x E=>by
      rcases A1h.1 E with E|E
      ·simp_all
      grind
     rw[V]at this;cases this
    |cons t T' =>
     have:=Km.first (t:=t) (T:=T'++(b::A'++post)) j hE fun x E=>by
      rcases A1h.1 E with E|E
      ·exact Gq (A34 hP (by simp[E]))
      rcases A1h.1 E with E|E
      ·exact Gq (J t mV x E)
      exact Gq (A34 hP (by simp[E]))
     rw[V]at this;cases this
   obtain⟨h1,h2,o,ho,F⟩:=Tz.1 hi;have I:=(j.mem i h1).1 h2;rcases A1h.1 I with I|I
   ·obtain⟨A1,B1,rfl⟩:=A6k I;have C:Km ops listed (A1++i::(B1++(b::A'++post))):=by grind
    have a2:(A1++i::(B1++post)).Pairwise (fun x y=>Ge ops s0 x y=true):=by grind
    have a1:=C.swaps (A:=A1) (s0:=s0) (fun x E=>by simp[E]) ho F fun x E=>(A35.1 a2).2.2 x E i mV;have X:=Ob.bubble R A1 a1 hr.lv H hO;refine wpOp_mono (fun a' w' ⟨s',u',m',ρ',r1,ra,r2⟩=>?_) (X.step (Q:=Q) hr);refine ih (k+1) (b::A') (A1++B1) _ Z L W (by simp at U⊢;omega) (by rw[A2k];exact C.next ho F) ?_ (fun x E y hy=>J x (by simp at E⊢;rcases E with h|h<;>simp[h]) y hy) (H.trans ra) r2 r1
    rw[A2k];exact a2.sublist (List.Sublist.append_left (List.sublist_cons_self i _) A1)
   rcases A1h.1 I with I|I
   ·have a4:(pre++(b::A'++post)).Perm (pre++i::((b::A').erase i++post)):=by
     refine List.Perm.append_left pre ?_;rw[<-A4x];exact (List.perm_cons_erase I).append_right post
    have C:=j.perm a4;have a1:=C.swaps (A:=pre) (s0:=s0) (fun x E=>by simp[E]) ho F fun x E=>J x E i I;have Y:∀ b'∈b::A',b'≠i->bef ops ops.size i b'=false:=fun b' a3 a6=>by
     cases e:bef ops ops.size i b' with
     |false=>rfl
     |true=>exact (j.no (x:=b') (by simp at a3⊢;rcases a3 with h|h<;>simp[h]) (Ib j.cl ops.size i (fun o' K=>by rw[ho]at K;obtain rfl:=A28 K;exact F) e)).elim
    have X:=Ob.bubble (B:=[]) R pre a1 hr.lv H (Ob.append (l2:=[i]) (hO.fin fun s u m h=>h i I Y));refine wpOp_mono (fun a' w' ⟨s',u',m',ρ',r1,ra,r2⟩=>?_) (X.step (Q:=Q) hr);rw[A1x]at r2;exact ih k ((b::A').erase i) pre _ (by rw[List.length_erase_of_mem I];simp at Z⊢;omega) (fun x E=>L x (A9x E)) (W.sublist List.erase_sublist) oV (C.next ho F) hP (fun x E y hy=>J x E y (A9x hy)) (H.trans ra) r2 r1
   exfalso;exact j.no (x:=b) mV (Ib j.cl ops.size i (fun o' K=>by rw[ho]at K;obtain rfl:=A28 K;exact F) (a0 i I b (L b mV)))
def Akn (ops:Array Oper):zK->Bool
 |[]=>true
 |x::l=>l.all (fun y=>!dir ops x y)&&Akn ops l
def W6:∀ {l:zK},Akn ops l=true->l.Pairwise (fun x y=>dir ops x y=false)
 |[],_=>.nil
 |x::l,h=>by
  unfold Akn at h;rw[A1m,A1o]at h;exact .cons (fun y e=>by simpa using h.1 y e) (W6 h.2)
def Alo (ops:Array Oper)(s:S)(pre A post:zK):Bool :=
 Nat.beq (pre.length+(A.length+post.length)) ops.size&&(List.range ops.size).all (fun i=>(pre++(A++post)).contains i)&&(pre++(A++post)).all (fun i=>Nat.blt i ops.size)&&decide ((pre++(A++post)).Nodup)&&Qp ops s (pre++post) &&
  pre.all (fun x=>A.all fun y=>Ge ops s x y)&&Akn ops A&&(List.range ops.size).all (Kd ops)&&post.all (fun y=>A.all fun a=>bef ops ops.size y a)&&A.all (fun a=>post.all fun y=>!dir ops a y)
def Ob.uncons {l:zK}{u m:PH}(h:Ob P id ops dr Fin (i::l) s u m):Ob P id ops dr (fun s u m=>Ob P id ops dr Fin l s u m) [i] s u m:=by
 cases h with
 |auto ho hg hd he hl=>exact .auto ho hg hd he (.nil hl)
 |skip ho hg hd hl=>exact .skip ho hg hd (.nil hl)
 |ask ho hg hd hv hs hal hw hl=>exact .ask ho hg hd hv hs hal hw (.nil hl)
 |big ho hg hd hv hs hf hk hw hl=>exact .big ho hg hd hv hs hf hk hw fun v C t e j=>.nil (hl v C t e j)
def Qh.one {u m:PH}(h:Ob P id ops true Fin (x::post) s u m):Qh P id ops post Fin 1 [x] s u m:=fun a e _=>by
 obtain rfl:a=x:=by simpa using e
 rw[A3a];exact h.uncons
def Qh.two {u m:PH}(h:Ob P id ops true Fin (x::y::post) s u m)(j:bef ops ops.size y x=false->Ob P id ops true Fin (y::x::post) s u m):Qh P id ops post Fin 2 [x,y] s u m:=fun a t C=>by
 by_cases e:a=x
 ·subst e;rw[A3a];exact h.uncons.fin fun _ _ _ h=>.one h
 obtain rfl:a=y:=by simpa[e] using t
 rw[A5e (by simpa using fun h=>e h.symm),A3a];exact (j (C x mV fun h=>e h.symm)).uncons.fin fun _ _ _ h=>.one h
def Qh.three {x y z:Nat}{u m:PH}(h:Ob P id ops true Fin (x::y::z::post) s u m)(j:bef ops ops.size z y=true)(t:Ob P id ops true (fun s u m=>Ob P id ops true Fin (x::z::post) s u m/\Ob P id ops true Fin (z::x::post) s u m) [y] s u m):Qh P id ops post Fin 3 [x,y,z] s u m:=fun a C E=>by
 by_cases e:a=x
 ·subst e;rw[A3a];exact h.uncons.fin fun _ _ _ h=>.two h fun h=>by rw[j]at h;cases h
 by_cases f:a=y
 ·subst f;rw[A5e (by simpa using fun h=>e h.symm),A3a];exact t.fin fun _ _ _ h=>.two h.1 fun _=>h.2
 obtain rfl:a=z:=by simpa[e,f] using C
 have:=E y mV fun h=>f h.symm;rw[j]at this;cases this
def Ru (P:Program)(id:Nat)(ops:Array Oper):zK->S->Option S
 |[],s=>some s
 |i::l,s=>match ops[i]? with
  |some o=>match Fb s o with
   |true=>match gv s ops o with
    |some true=>match eff P (id*1000+i) s o.op with
     |some (x,hw)=>Ru P id ops l ((s.put o.dst x).setb hw)
     |none=>none
    |some false=>Ru P id ops l (s.put o.dst (.v undef))
    |none=>none
   |false=>none
  |none=>none
def Ob.autos:∀ {l:zK} {s e:S} {u m:PH},Ru P id ops l s=some e->Fin e u m->Ob P id ops dr Fin l s u m
 |[],s,e,u,m,h,hf=>by
  unfold Ru at h;cases h;exact .nil hf
 |i::l,s,e,u,m,h,hf=>by
  unfold Ru at h;split at h
  ·rename_i o ho;split at h
   ·rename_i hd;split at h
    ·rename_i hg;split at h
     ·rename_i x hw he;exact .auto ho hg hd he (Ob.autos h hf)
     cases h
    ·rename_i hg;exact .skip ho hg hd (Ob.autos h hf)
    cases h
   cases h
  cases h
end
section
variable {P:Program} {fn:Func} {Post:Ce}
theorem Sym.reg_tree (Z:P.follows .mixedOrders=true){id:Nat}{ops:Array Oper}{pre A post:zK}{s:S}(F:Alo ops s pre A post=true){k:List KI}{u m:PH}
 (h:Ob P id ops true (Qh P id ops post (Hm P fn Post k) A.length A) pre s u m):Hm P fn Post (.code (.region id ops true)::k) s u m:=by
 intro c ρ a w I t;unfold Alo at F;simp only[A1m]at F;obtain⟨⟨⟨⟨⟨⟨⟨⟨⟨C,R⟩,J⟩,E⟩,U⟩,K⟩,V⟩,W⟩,L⟩,e⟩:=F;have C:=A1y C;rw[A1o]at R J K L e;have E:=of_decide_eq_true E;refine wp_region_any Z ?_;refine Ob.wpAnyT (c:=c) (A0:=A) t.lv W (fun s u m ρ a w X t=>X c ρ a w I t) (fun y j a H=>by have:=L y j;rw[A1o]at this;exact this a H) (fun a H y j=>by have:=e a H;rw[A1o]at this;simpa using this y j) _ A.length A pre _ rfl (fun _ h=>h) (W6 V) C
  ⟨mV,fun i hi=>?_,fun i hi=>A8f▸J i hi,E,fun i hi=>?_⟩ (G0 U) (fun x hx y j=>by have:=K x hx;rw[A1o]at this;exact this y j) (Gb.refl _ _) h t.drew
 ·simp_all
 simp only[A2t]at hi;by_cases Y:i<ops.size
 ·grind
 grind
def Aw2 (P:Program)(pre:zK)(p q:Nat)(post:zK)(st:List KI×S):Bool:=match st with
 |(.code (.region id ops true)::k,s)=>Alo ops s pre [p,q] post&&(Ru P id ops pre s).isSome
 |_=>false
def Akz (P:Program)(pre l:zK)(st:List KI×S):List KI×S:=match st with
 |(.code (.region id ops true)::k,s)=>match Ru P id ops pre s with
  |some s'=>(.reg id ops true l::k,s')
  |none=>st
 |_=>st
end
section rules
variable {P:Program} [A6 P] {fn:Func} {Post:Ce} {st:List KI×S} {u m:PH}
def G.both (pre:zK)(p q:Nat)(post:zK)(h:Aw2 P pre p q post (adv P st)=true)(t:G P fn Post (Akz P pre (p::q::post) (adv P st)) u m)(C:G P fn Post (Akz P pre (q::p::post) (adv P st)) u m):G P fn Post st u m:=by
 refine G.stp ⟨?_⟩;generalize adv P st=st' at h t C;unfold Aw2 at h;split at h
 ·rename_i id ops k s;rw[A1m]at h;obtain⟨E,F⟩:=h;obtain⟨H,j⟩:=A6a.1 F;have e:∀ l,Akz P pre l (.code (.region id ops true)::k,s)=(.reg id ops true l::k,H):=fun l=>by unfold Akz;simp only[j]
  rw[e]at t C;exact Sym.reg_tree A6.mx E (Ob.autos j (.two t.out fun _=>C.out))
 cases h
end rules
end
section
variable {a:Act}{i:Nat}{o:Oper}{s:S}{w w':World}
structure Aoh (F:Fence):Prop where
 fn:∀ f,F.fn f
 dep:F.depth.isSome=false
 calls:∀ {P:Program} {f:FuncId} {args:Array Value} {w:World} {R:Ending->World->Prop},Calls P f args w R->CallsIn F 0 P f args w R
def Tf:Aoh Fence.wide:=⟨fun _=>trivial,rfl,fun h=>callsIn_wide.2 h⟩
def Aju (l:Nat):Aoh (Fence.wide.inRound l):=⟨fun _=>trivial,rfl,fun h=>(callsIn_wide (n:=0)).2 h⟩
def Ak1:Op->Bool
 |.defer _=>true
 |_=>false
def M3 (ops:Array Oper):Bool:=ops.toList.all fun o=>!Ak1 o.op
def Mo {ops:Array Oper}(h:M3 ops=true)(j:ops[i]?=some o):∀ c,o.op≠.defer c:=fun c e=>by
 unfold M3 at h;rw[A1o]at h;have:=h o (Array.mem_toList_iff.2 (Array.mem_of_getElem? j));rw[e]at this;simp[Ak1]at this
section
variable {P:Program} {id:Nat} {ops:Array Oper} {dr:Bool} {Fin:S->PH->PH->Prop} {c:Cx} {Q:Exit->Act->World->Prop} {F:Fence}
def Aas {y:Value}{K:Act->World->Prop}(hF:Aoh F)(j:∀ c,o.op≠.defer c)(h:Ay2 P a o w y w')(e:K (a.put o.dst y) w'):o.wpIn F 0 P a w K Q:=by
 refine⟨fun f _=>hF.fn f,?_⟩;rw[Oper.semAt_plain F _ _ j];rcases h with h|⟨h,rfl⟩<;>rw[h]<;>exact e
theorem Aoy {a:Act}{o:Oper}{w:World}{s:S}{u m:PH}{ρ:Nat->Nat}{K:Value->World->Prop}{t:Act->World->Prop}(hF:Aoh F)(I:∀ c,o.op≠.defer c)(J:Rel c s u m ρ a w)(R:Kl s o.op=true)(L:Ix o.op=true)
 (h:Eg P (C2 s) o w K) (j:∀ v w',K v w'->t (a.put o.dst v) w'):o.wpIn F 0 P a w t Q:=by
 refine⟨fun f _=>hF.fn f,?_⟩;rw[Oper.semAt_plain F _ _ I,Hw J (Gv L) R];unfold Eg at h;split at h
 ·rename_i v w' e;rw[e];exact j _ _ h
 ·rename_i w' e;rw[e];exact j _ _ h
 ·rename_i f args w' e;rw[e];refine⟨fun C=>(by rw[hF.dep]at C;cases C),hF.calls (Calls.mono h fun U T H=>?_)⟩;obtain⟨v,rfl,E⟩:=H;exact j _ _ E
 grind
def Rel.after {u m C t:PH}{ρ:Nat->Nat}(j:Rel c s u m ρ a w)(g1:Bv C t w')(g2:B0 u m w C t w'){d:Option Nat}(R:∀ e,d=some e->e<s.n)(v:Value):Rel c (s.put d (.v v)) C t ρ (a.put d v) w':=by
 refine Rel.put (x:=.v v) ?_ (fun _=>rfl) mV R;refine⟨j.sz,j.tm,j.df.of fun r e _ T I=>⟨by rw[g2.old _ (Aw e) I];exact e,by rw[g2.us _ (Aw e)];exact T,g2.ms _ (Aw e) I⟩,fun k b L=>?_,j.inj,j.lv,g1,j.gr.trans g2⟩;obtain⟨E,J,K,H⟩:=j.box k b L;have h:ρ k<w.heap.size:=by obtain⟨cs,e,_⟩:=E;exact Aw e
 refine⟨?_,J,?_,?_⟩
 ·rw[g2.old _ h H];exact E
 ·rw[g2.us _ h];exact K
 exact g2.ms _ h H
def Ob.wpOpsIn (hF:Aoh F)(j:M3 ops=true){rest:zK}(e:∀ s u m ρ a w,Fin s u m->Rel c s u m ρ a w->Go.wpOpsIn F 0 P ops Q rest a w) :
 ∀ {l:zK} {s:S} {u m:PH} {ρ:Nat->Nat} {a:Act} {w:World},Ob P id ops dr Fin l s u m->Rel c s u m ρ a w->Go.wpOpsIn F 0 P ops Q (l++rest) a w
 |[],s,u,m,ρ,a,w,h,hr=>by
  cases h with
  |nil h=>exact e _ _ _ _ _ _ h hr
 |i::l,s,u,m,ρ,a,w,h,hr=>by
  rw[A4x,wpOpsIn_cons];cases h with
  |auto ho hg hd he hl =>
   simp only[wpOpIn,ho,Ey hr hg,if_true];obtain⟨J,w',y,C,E⟩:=Aav (P:=P) hr he (Lg hd);exact Aas hF (Mo j ho) C (Ob.wpOpsIn hF j e hl E)
  |skip ho hg hd hl =>
   simp only[wpOpIn,ho,Ey hr hg,if_false,A4z];exact⟨fun f _=>hF.fn f,Ob.wpOpsIn hF j e hl (hr.put (x:=.v undef) (fun _=>rfl) mV (Lg hd))⟩
  |ask ho hg hd hv hs hal hw hl =>
   simp only[wpOpIn,ho,Ey hr hg,if_true];refine Aas hF (Mo j ho) (.inl ?_) (Ob.wpOpsIn hF j e hl (hr.put (fun _=>rfl) mV (Lg hd)));rw[Hw hr (Gv hs) hv];exact hw w (fun _=>⟨hr.gd.pu,fun _=>hr.gd.pm⟩)
  |big ho hg hd hv hs hf hk hw hl =>
   simp only[wpOpIn,ho,Ey hr hg,if_true];refine Aoy hF (Mo j ho) hr hv hs (hw w hr.gd) fun v w' ⟨I,H,g1,g2,t⟩=>?_;exact Ob.wpOpsIn hF j e (hl v I H (g2.le hr.gd.pu) t) (hr.after g1 g2 (Lg hd) v)
end
def yv (s:S)(ops:Array Oper)(i:Nat):Option (Nat×zV):=match ops[i]? with
 |some o=>match Fb s o&&(Kl s o.op&&Ix o.op) with
  |true=>match gv s ops o with
   |some true=>match o.op with
    |.call c=>match c.callee with
     |.value f=>match C2 s f with
      |.func (.yield l) first cap=>some (l,first.toList++c.args.toList.map (C2 s))
      |_=>none
     |_=>none
    |_=>none
   |_=>none
  |false=>none
 |none=>none
def ysk (s:S)(ops:Array Oper)(i:Nat):Bool:=match ops[i]? with
 |some o=>match Fb s o with
  |true=>match gv s ops o with
   |some false=>true
   |_=>false
  |false=>false
 |none=>false
def Acq (P:Program)(l:Nat)(args:zV)(u m:PH)(K:Value->PH->PH->Prop):Prop :=
 ∀ w,Bv u m w->YieldAt Fence.wide 0 P l args.toArray w fun e w'=>∃ v u' m',e=.returned v/\Bv u' m' w'/\B0 u m w u' m' w'/\K v u' m'
theorem Ate {ops:Array Oper}{i l:Nat}{args:zV}(h:yv s ops i=some (l,args)):∃ o,ops[i]?=some o/\gv s ops o=some true/\Fb s o=true/\Kl s o.op=true/\Ix o.op=true /\
 ∀ (P:Program) (w:World),(execOp (C2 s) o).run P w=(Instr.yield l args.toArray).run P w:=by
 unfold yv at h;split at h
 ·rename_i o ho;split at h
  ·rename_i hc;simp only[A1m]at hc;split at h
   ·rename_i hg;split at h
    ·rename_i c hop;split at h
     ·rename_i f hcal;split at h
      ·rename_i l' first cap he
       obtain⟨rfl,rfl⟩:=h;refine⟨o,ho,hg,hc.1,hc.2.1,hc.2.2,fun P w=>?_⟩;obtain⟨t,E,j,pos,after,e⟩:=o;simp only at hop;subst hop;have C:(first.toList++c.args.toList.map (C2 s)).toArray=first++c.args.map (C2 s):=by grind
       rw[C];simp[execOp,resolve,hcal,he,Deferred.ofValue,invoke]
      cases h
     cases h
    cases h
   cases h
  cases h
 cases h
theorem Arg {ops:Array Oper}(h:ysk s ops i=true):∃ o,ops[i]?=some o/\gv s ops o=some false/\Fb s o=true:=by
 unfold ysk at h;split at h
 ·grind
 cases h
def yB (pre:zK)(i:Nat)(post:zK)(st:List KI×S):Bool:=match st.1 with
 |.code (.region _ ops false)::_=>Nat.beq ops.size (pre.length+1+post.length)&&(List.range ops.size).zipIdx.all (fun x=>(pre++i::post)[x.2]? == some x.1)&&M3 ops
 |_=>false
def Azg (st:List KI×S):Array Oper:=match st.1 with
 |.code (.region _ ops false)::_=>ops
 |_=>#[]
def yS (pre:zK)(J:S->PH->PH->Prop)(st:List KI×S):List KI×S:=match st.1 with
 |.code (.region id ops false)::k=>(.reg id ops false pre::.lp J::k,st.2)
 |_=>st
def Alw (i:Nat)(post:zK)(st:List KI×S)(s:S)(v:Value):List KI×S:=match st.1 with
 |.code (.region id ops false)::k=>match ops[i]? with
  |some o=>(.reg id ops false post::k,s.put o.dst (.v v))
  |none=>st
 |_=>st
section rules
variable {P:Program} [A6 P] {fn:Func} {Post:Ce} {st:List KI×S} {u m:PH}
def G.yreg (pre:zK)(i:Nat)(t:zK)(h:yB pre i t (Ff P 200 st)=true)
 (kk:∀ J:S->PH->PH->Prop,
  (∀ E R T,ysk E (Azg (Ff P 200 st)) i=true->G P fn Post (Alw i t (Ff P 200 st) E undef) R T->J E R T) ->
  (∀ E R T l args (K:Value->PH->PH->Prop),yv E (Azg (Ff P 200 st)) i=some (l,args)->Acq P l args R T K->(∀ v C I,PH.le R C->K v C I->G P fn Post (Alw i t (Ff P 200 st) E v) C I)->J E R T) ->
  G P fn Post (yS pre J (Ff P 200 st)) u m):G P fn Post st u m:=by
 refine⟨Mq 200 st ?_⟩;generalize Ff P 200 st=st' at h kk;obtain⟨ks,s⟩:=st';unfold yB at h;simp only at h;split at h
 ·rename_i id ops k;simp only[A1m]at h;obtain⟨⟨h1,Z⟩,U⟩:=h;have hl:List.range ops.size=pre++i::t:=by
   refine A4g fun j=>?_;rw[A1o]at Z;by_cases hj:j<ops.size
   ·have:=Z (j,j) (by
     refine A1k (i:=j) ?_;rw[A92];simp[hj])
    simp only[beq_iff_eq]at this;rw[this];simp[hj]
   have V:=A1y h1;rw[A1v gV,A1v gV]
  intro c ρ a w Y hr;refine (wpIn_wide (n:=0)).1 (wpIn_region ?_);rw[hl];have a0:=(kk (fun E R T=>(∃ o,ops[i]?=some o/\gv E ops o=some false/\Fb E o=true/\Ob P id ops false (Hm P fn Post k) t (E.put o.dst (.v undef)) R T) \/
   ∃ (o:Oper) (l:Nat) (args:zV) (K:Value->PH->PH->Prop),ops[i]?=some o/\gv E ops o=some true/\Fb E o=true/\Kl E o.op=true/\Ix o.op=true/\(∀ (P:Program) (w:World),(execOp (C2 E) o).run P w=(Instr.yield l args.toArray).run P w)/\Acq P l args R T K /\
    ∀ v C I,PH.le R C->K v C I->Ob P id ops false (Hm P fn Post k) t (E.put o.dst (.v v)) C I)
   (fun E R T hs hg=>by
    obtain⟨o,L,V,W⟩:=Arg hs;have L:ops[i]?=some o:=L;have:=hg.out;simp only[Alw]at this;rw[L]at this;exact .inl ⟨o,L,V,W,this⟩)
   (fun E R T l args K hy hc hg=>by
    obtain⟨o,L,V,W,X,e4,e5⟩:=Ate hy;have L:ops[i]?=some o:=L;refine .inr ⟨o,l,args,K,L,V,W,X,e4,e5,hc,fun v C I h1 Z=>?_⟩;have:=(hg v C I h1 Z).out;simp only[Alw]at this;rw[L]at this;exact this)).out
  refine Ob.wpOpsIn Tf U (fun s1 u1 m1 ρ1 a1 w1 hf a2=>?_) a0 hr;obtain⟨s2,u2,m2,ρ2,H,hJ⟩:=hf c ρ1 a1 w1 Y a2;rw[wpOpsIn_cons];have fin:∀ (s u m ρ a w),Hm P fn Post k s u m->Rel c s u m ρ a w->Go.wpOpsIn Fence.wide 0 P ops (It P fn Post c k) [] a w:=fun s u m ρ a w hf hr=>hf c ρ a w Y hr;rcases hJ with ⟨o,L,V,W,X⟩|⟨o,l,args,K,L,V,W,X,e4,e5,e6,e7⟩
  ·simp only[wpOpIn,L,Ey H V,if_false,A4z];refine⟨fun f _=>trivial,?_⟩;have:=Ob.wpOpsIn Tf U fin X (H.put (x:=.v undef) (fun _=>rfl) mV (Lg W));rwa[A1x]at this
  simp only[wpOpIn,L,Ey H V,if_true];refine⟨fun f _=>trivial,?_⟩;rw[Oper.semAt_plain _ _ _ (Mo U L),Hw H (Gv e4) X,e5];obtain⟨a3,tmps,assign,body,hy,hR⟩:=e6 w1 H.gd;rw[hy];refine⟨fun hh=>(by cases hh),hR.mono fun e w' he=>?_⟩;obtain⟨v,R,T,rfl,g1,g2,g3⟩:=he;have:=Ob.wpOpsIn Tf U fin (e7 v R T (g2.le H.gd.pu) g3) (H.after g1 g2 (Lg W) v);rwa[A1x]at this
 cases h
def Az8 {F:Fence}(hF:Aoh F){id:Nat}{ops:Array Oper}(j:M3 ops=true){J:S->PH->PH->Prop}{s:S}{c:Cx}{ρ:Nat->Nat}{a:Act}{w:World}{Q:Exit->Act->World->Prop}
 (h:G P fn Post ([.reg id ops false (List.range ops.size),.lp J],s) u m) (K:Rel c s u m ρ a w) (e:c.m0=Post.m0) (H:∀ s u m ρ a w,Rel c s u m ρ a w->J s u m->Q .normal a w):(Code.region id ops false).wpIn F 0 P Q a w:=by
 refine wpIn_region ?_;have:=Ob.wpOpsIn (rest:=[]) hF j (Q:=Q) (fun V X T R a1 L I t=>by
  obtain⟨W,Y,U,Z,C,E⟩:=I c R a1 L e t;exact H _ _ _ _ _ _ C E) h.out K
 rwa[A1x]at this
end rules
def S.ofT (n:Nat)(T:List (Nat×Value)):S:={ n:=n,tm:=fun d=>match T.find? (fun x=>Nat.beq x.1 d) with|some x=>.v x.2|none=>.junk,hp:=fun _=>none }
theorem Rel.start {u m:PH}(h:Bv u m w){tmps:Array Value}{T:List (Nat×Value)}(hT:∀ x∈T,tmps[x.1]?=some x.2):Rel ⟨w,u,m⟩ (S.ofT tmps.size T) u m (fun _=>0) { tmps:=tmps,defers:=[] } w:=by
 refine⟨rfl,fun d t=>?_,Agv.nil _ _ _ _,fun k b C=>(by cases C),fun k j E=>absurd rfl E,⟨fun d k off t=>?_,fun j b k off C=>(by cases C)⟩,h,⟨A08 _,fun _ _ _=>rfl,fun _ _=>rfl,fun _ _ h=>h,⟨rfl,rfl⟩,fun _=>⟨rfl,A08 _⟩⟩⟩
 ·unfold S.ofT at t⊢;simp only at t⊢;split
  ·rename_i x hx;have:=hT x (List.mem_of_find?_eq_some hx);have e:=List.find?_some hx;rw[<-A1y e];exact this
  grind
 unfold S.ofT at t;simp only at t;split at t<;>cases t
def Bv.putO {u m:PH}(h:Bv u m w){g:Nat}{o o':Obj}(e:m g=some o)(j:Q9 o'=true):Bv u (m.upd g o') (w.putObj g o')/\B0 u m w u (m.upd g o') (w.putObj g o'):=by
 have:=h.setO e j;rwa[show Ta w g o'=w.putObj g o' from rfl]at this
end
section
variable {a:Act}{d0:Deferred}{dl:List Deferred}{t:Array Value}
section
variable [Fl:Cl] {P:Program} {c:Cx} {s:S} {u m u' m':PH} {ρ:Nat->Nat} {w w':World}
def Rel.grow [Co](j:Rel c s u m ρ a w)(g1:Bv u' m' w')(g2:B0 u m w u' m' w'):Rel c s u' m' ρ a w':=by
 refine⟨j.sz,j.tm,j.df.of fun r e _ K F=>⟨by rw[g2.old _ (Aw e) F];exact e,by rw[g2.us _ (Aw e)];exact K,g2.ms _ (Aw e) F⟩,fun k b J=>?_,j.inj,j.lv,g1,j.gr.trans g2⟩;obtain⟨C,H,I,E⟩:=j.box k b J;have h:ρ k<w.heap.size:=by obtain⟨cs,e,_⟩:=C;exact Aw e
 refine⟨?_,H,?_,?_⟩
 ·rw[g2.old _ h E];exact C
 ·rw[g2.us _ h];exact I
 exact g2.ms _ h E
def Rel.grow0 (e:Rel c s u m ρ a w)(g1:Bv u' m' w')(g2:B0 u m w u' m' w'):Rel c s u' m' ρ a w':=e.grow g1 g2
def Rel.unbase [Bs:Co](e:Rel c s u m ρ { tmps:=t,defers:=d0::dl } w)(I:Bs.dl = [d0])(C:U3 d0=false):@Rel Fl Co.no c s u m ρ { tmps:=t,defers:=dl } w:=by
 refine @Rel.mk Fl Co.no c s u m ρ { tmps:=t,defers:=dl } w e.sz e.tm ?_ e.box e.inj e.lv e.gd e.gr;obtain⟨E,F,j,h,H⟩:=e.df;rw[A6x,if_neg (by simp[C])]at j;rw[A6x,if_pos (by simp[C]),I]at h;exact⟨E,F,j,(List.cons.inj h).2,H⟩
theorem Rel.rebase (e:Rel c s u m ρ { tmps:=t,defers:=dl } w)(F:U3 d0=false):@Rel Fl ⟨[d0]⟩ c s u m ρ { tmps:=t,defers:=d0::dl } w:=by
 refine @Rel.mk Fl ⟨[d0]⟩ c s u m ρ { tmps:=t,defers:=d0::dl } w e.sz e.tm ?_ e.box e.inj e.lv e.gd e.gr;obtain⟨j,C,H,h,E⟩:=e.df;refine⟨j,C,?_,?_,E⟩
 ·grind
 rw[A6x,if_pos (by simp[F]),h];rfl
def Rel.leavesV {fn:Func}{R:Ending->World->Prop}{t:Array Value}:∀ {dl:List Deferred} {w':World},Rel c s u m ρ { tmps:=t,defers:=dl } w' ->
 (∀ e,Rel c s u m ρ { tmps:=t,defers:=[] } e->∃ v,(results fn t).run P e=.ok v e/\R (.returned v) e)->LeavesInM Fence.wide 1 P fn t R dl .returning w'
 |[],w',hr,hv=>by
  obtain⟨v,h,j⟩:=hv w' hr;exact⟨v,h,j⟩
 |d::dl,w',hr,hv=>by
  obtain⟨r,E,h,j,C⟩:=hr.shut (P:=P) hr.marks;exact⟨mV,.inl ⟨r,E,h,j,Rel.leavesV C hv⟩⟩
def Rel.fin0 [A6 P]{fn:Func}{Post:Ce}{l:zV}{e:PH}(h:Rel c s u m ρ a w)(C:T6 P s m fn.results.toList l)(j:PH.le e m)(E:Post.post (Pc l) u e):∃ v,(results fn a.tmps).run P w=.ok v w/\Ady c Post.post (.returned v) w :=
 ⟨_,Qo h C,_,_,_,rfl,(h.less j).gd,(h.less j).gr,E⟩
def Aix (P:Program)(f:FuncId)(args:zV)(u m:PH)(K:PH->PH->Prop):Prop:=∀ w,Bv u m w->CallsDIn Fence.wide 0 P f args.toArray .returning w fun e md w'=>md=.returning/\∃ v u' m',e=.returned v/\Bv u' m' w'/\B0 u m w u' m' w'/\K u' m'
def Rel.leavesD [Bs:Co]{fn:Func}{R:Ending->World->Prop}{t:Array Value}{d0:Deferred}(j:Bs.dl = [d0]){fv:Fn}{cap:Array Value}{f:FuncId}{args:zV}{K:PH->PH->Prop}(J:d0.target=.fn fv cap)
 (hi:∀ w,(invoke d0.target d0.args).run P w=.ok (.enter f args.toArray) w) (H:Aix P f args u m K)
 (I:∀ u' m' w',PH.le u u'->K u' m'->@Rel Fl Co.no c s u' m' ρ { tmps:=t,defers:=[] } w'->∃ v,(results fn t).run P w'=.ok v w'/\R (.returned v) w') :
 ∀ {dl:List Deferred} {w:World},Rel c s u m ρ { tmps:=t,defers:=dl } w->LeavesInM Fence.wide 1 P fn t R dl .returning w
 |[],w,hr=>by
  obtain⟨_,_,_,h,_⟩:=hr.df;rw[j]at h;cases h
 |d::dl,w,hr=>by
  cases hm:U3 d with
  |true =>
   obtain⟨r,w',Q,T,U⟩:=hr.shut (P:=P) hm;exact⟨mV,.inl ⟨r,w',Q,T,Rel.leavesD j J hi H I U⟩⟩
  |false =>
   have V:d=d0:=by
    obtain⟨_,_,_,h,_⟩:=hr.df;rw[A6x,if_pos (by simp[hm]),j]at h;exact (List.cons.inj h).1
   subst V;refine⟨mV,.inr ⟨(fun h=>by cases h),fv,cap,f,args.toArray,J,hi w,fun _ _=>trivial,?_⟩⟩;refine (H w hr.gd).mono ?_;rintro e W w' ⟨rfl,v,u',m',rfl,g1,g2,L⟩;have E:=Rel.grow0 (hr.unbase j hm) g1 g2;exact Rel.leavesV E fun F C=>I u' m' F (g2.le hr.gd.pu) L C
end
section
variable [Fl:Cl] {P:Program} [A6 P] {fn:Func} {Post:Ce} {st:List KI×S} {u m:PH}
def G.retD [Bs:Co]{d0:Deferred}(Q:Bs.dl = [d0]){fv:Fn}{cap:Array Value}{f:FuncId}{args:zV}{K:PH->PH->Prop}(V:d0.target=.fn fv cap)
 (hi:∀ w,(invoke d0.target d0.args).run P w=.ok (.enter f args.toArray) w) (h:Akf (adv P st)=true) (T:Aix P f args u m K)
 (E:∀ u' m',PH.le u u'->K u' m'->∃ l j,T6 P (adv P st).2 m' fn.results.toList l/\PH.le j m'/\Post.post (Pc l) u' j):G P fn Post st u m:=by
 refine G.stp ?_;generalize adv P st=st' at h E;obtain⟨W,s⟩:=st';have key:∀ c ρ a w,Rel c s u m ρ a w->Am4 P fn (Ady c Post.post) .ret a w/\Am4 P fn (Ady c Post.post) .normal a w:=by
  intro c ρ a w e;have:=Rel.leavesD (fn:=fn) (R:=Ady c Post.post) (t:=a.tmps) Q V hi T (fun u' m' w' U L J=>by
   obtain⟨l,j,F,H,I⟩:=E u' m' U L;exact Rel.fin0 (a:=⟨a.tmps,[]⟩) J F H I) (dl:=a.defers) e
  exact⟨this,this⟩
 unfold Akf at h;simp only at h;split at h
 ·refine⟨?_⟩;intro c ρ a w C e;exact wp_ret (J6 (key c ρ a w e).1 _)
 ·refine⟨?_⟩;intro c ρ a w C e;exact (key c ρ a w e).2
 cases h
end
def Azk (s:S)(l:List KI):Option (Nat×Fn×zV):=match l with
 |.code (.region _ ops false)::_=>match ops.toList with
  |[⟨some d,.makeFunc fn first caps,_,_,_,none⟩,⟨none,.defer c,_,_,_,none⟩]=>match c.callee with
   |.value (.tmp e)=>cond (Nat.beq d e&&Nat.beq first.size 0&&Nat.beq c.args.size 0&&Nat.blt d s.n&&caps.toList.all fun x=>isV (s.ev x)) (some (d,fn,caps.toList.map (C2 s))) none
   |_=>none
  |_=>none
 |_=>none
def Ax3 (l:List KI):List KI:=match l with|_::k=>k|[]=>[]
def Zs (fn:Fn)(vs:zV):Deferred:={ target:=.fn fn vs.toArray,args:=#[] }
section
variable [Fl:Cl] {P:Program} [A6 P] {fnc:Func} {Post:Ce} {st:List KI×S} {u m:PH}
def Axj:List KI->Bool
 |[]=>true
 |.lp _::_=>false
 |_::k=>Axj k
def O6 (e j:Co)(c:Cx):∀ C:List KI,Axj C=true->@It Fl e P fnc Post c C=@It Fl j P fnc Post c C
 |[],_=>rfl
 |.code x::k,h=>by simp only[It];rw[O6 e j c k h]
 |.blk id::k,h=>by simp only[It];rw[O6 e j c k h]
 |.reg _ _ _ _::k,h=>by simp only[It];rw[O6 e j c k h]
 |.lp _::_,h=>by cases h
def G.outC [Bs:Co]{e:List KI}{s:S}(h:G P fnc Post (e,s) u m)(j:F2 e=true):Hm P fnc Post e s u m:=by
 have:=h.out;rwa[Sym.ofNo j]at this
def G.go (n:Nat)(k:G P fnc Post (run P n st) u m):G P fnc Post st u m:=⟨Tp A6.mx n st k.out⟩
theorem G.off {d:Nat}{fn:Fn}{vs:zV}(h:Azk st.2 st.1=some (d,fn,vs))(hn:F2 (Ax3 st.1)=true)(I:Axj (Ax3 st.1)=true)(k:@G Fl Pu.no ⟨[Zs fn vs]⟩ P fnc Post (Ax3 st.1,st.2.put (some d) (.v (.func fn #[] vs.toArray))) u m):G P fnc Post st u m:=by
 obtain⟨ks,s⟩:=st;unfold Azk at h;simp only at h;split at h
 ·rename_i id ops kk;split at h
  ·rename_i d' fn' first caps ty pos af c ty2 pos2 af2 hops
   split at h
   ·rename_i e hc;cases hb:(Nat.beq d' e&&Nat.beq first.size 0&&Nat.beq c.args.size 0&&Nat.blt d' s.n&&caps.toList.all fun x=>isV (s.ev x)) with
    |false=>grind
    |true =>
     rw[hb]at h;simp only[cond_true,A1f,A2i]at h;obtain⟨rfl,rfl,rfl⟩:=h;simp only[A1m]at hb;obtain⟨⟨⟨⟨E,R⟩,F⟩,T⟩,U⟩:=hb;have E:=A1y E;subst E;have R:first = #[]:=A4s (A1y R)
     have F:c.args = #[]:=A4s (A1y F);have T:d' < s.n:=by simp_all
     rw[A1o]at U;have Z:=G.outC (Bs:=⟨[Zs fn' (caps.toList.map (C2 s))]⟩) k hn;refine⟨?_⟩;intro Q ρ a w J V;refine wp_region ?_;have ho:ops = #[⟨some d',.makeFunc fn' #[] caps,ty,pos,af,none⟩,⟨none,.defer c,ty2,pos2,af2,none⟩]:=by grind
     subst ho;have H:caps.map a.eval=(caps.toList.map (C2 s)).toArray:=by
      apply A6j;simp only[Array.toList_map];refine A41 fun x hx=>?_;have C:=U x hx;unfold C2;cases e:s.ev x with
      |v y=>rw[V.eval x (by rw[e];simp),e];rfl
      |junk=>rw[e]at C;cases C
      |p i o=>rw[e]at C;cases C
     have j:=Rel.put (x:=.v (.func fn' #[] (caps.toList.map (C2 s)).toArray)) (d:=some d') (y:=.func fn' #[] (caps.toList.map (C2 s)).toArray) V (fun _=>rfl) mV (fun e Y=>by cases Y;exact T);have W:(execOp a.eval ⟨some d',.makeFunc fn' #[] caps,ty,pos,af,none⟩).run P w=.ok (.value (.func fn' #[] (caps.toList.map (C2 s)).toArray)) w:=by
      have:(execOp a.eval ⟨some d',.makeFunc fn' #[] caps,ty,pos,af,none⟩).run P w=.ok (.value (.func fn' #[] (caps.map a.eval))) w:=by
       have K:∀ (fn:Fn) (first cap:Array Value) (w:World),(Instr.makeFunc fn first cap).run P w=.ok (.func fn first cap) w:=fun _ _ _ _=>rfl
       simp[execOp,K]
      rw[this,H]
     have X:(execOp (a.put (some d') (.func fn' #[] (caps.toList.map (C2 s)).toArray)).eval ⟨none,.defer c,ty2,pos2,af2,none⟩).run P w=.ok (.defer (Zs fn' (caps.toList.map (C2 s)))) w:=by
      have C:=j.eval (.tmp d') (by show (s.put (some d') _).tm d'≠_;rw[Az];simp);rw[show (s.put (some d') (.v (.func fn' #[] (caps.toList.map (C2 s)).toArray))).ev (.tmp d')=.v (.func fn' #[] (caps.toList.map (C2 s)).toArray) from Az _ _ _]at C;simp[execOp,resolve,hc,C,F,SV.den,Deferred.ofValue,Zs]
     have L:=Rel.rebase (t:=(a.put (some d') (.func fn' #[] (caps.toList.map (C2 s)).toArray)).tmps) (dl:=(a.put (some d') (.func fn' #[] (caps.toList.map (C2 s)).toArray)).defers) j (d0:=Zs fn' (caps.toList.map (C2 s))) rfl;refine .inl ?_;show Oper.upon P ⟨some d',.makeFunc fn' #[] caps,ty,pos,af,none⟩ a _ _ ((execOp a.eval ⟨some d',.makeFunc fn' #[] caps,ty,pos,af,none⟩).run P w);rw[W,Oper.upon_value];refine .inl ?_;show Oper.upon P ⟨none,.defer c,ty2,pos2,af2,none⟩ (a.put (some d') (.func fn' #[] (caps.toList.map (C2 s)).toArray)) _ _ ((execOp (a.put (some d') (.func fn' #[] (caps.toList.map (C2 s)).toArray)).eval ⟨none,.defer c,ty2,pos2,af2,none⟩).run P w);rw[X,Oper.upon_defer];have:=Z Q ρ _ w J L;rw[O6 _ Co.no Q _ I]at this;exact this
   cases h
  cases h
 cases h
end
end
section
variable {E c c' i k n n' w:Nat}{R Y q:List Int}{X:List (List Int)}{a a':zP}{cs es:zV}{o p s:Arr}{r:Value×zV}{rows:List (Value×zV)}{u:PH}{v:Value}
def C3 (r:Value×zV):Arr:=⟨r.1,141,2,r.2⟩
def oN (v:Value)(rows:List (Value×zV)):Arr:=⟨v,190,1,rows.map (·.1)⟩
def Ack {m0 m:PH}:(C3 r).At m0 m=Af m0 m r.1 141 2 r.2:=rfl
def Akm {m0 m:PH}:(oN v rows).At m0 m=Af m0 m v 190 1 (rows.map (·.1)):=rfl
def Aq8 {x:Value}{es es':zV}(h:rows[i]?=some (x,es)):oN v (rows.set i (x,es'))=oN v rows:=by
 unfold oN;rw[Un (r':=(x,es')) h rfl]
def F8 (h:rows[i]?=some r):(s::p::o::rows.map C3)[i+3]?=some (C3 r):=by simp[h]
def Afy :(s::p::o::rows.map C3).set (i+3) (C3 r)=s::p::o::(rows.set i r).map C3:=by
 rw[A2j,A2j,A2j,A2g]
structure N3 where
 b:Bool
 a:zP
 n:Nat
 c:Nat
def nv (f:N3):Value:=.agg #[.bool f.b,.slice f.a f.n f.c]
def Age (f:N3):List SV:=[.v (.bool f.b),.v (.slice f.a f.n f.c)]
def Bi.opN {z:Int}(h:Bi u v z):∃ f,v=nv f:=by
 obtain⟨b,a,n,c,rfl⟩:=h.opn;exact⟨⟨b,a,n,c⟩,rfl⟩
def NAt (u:PH)(rows:List (Value×zV))(X:List (List Int)):Prop:=rows.length=X.length/\∀ (i:Nat) (r:Value×zV),rows[i]?=some r->AtP Bi u r.2 (gMZ X i)
def NAt.mono {u e:PH}{rows:List (Value×zV)}{X:List (List Int)}(h:NAt u rows X)(j:PH.le u e):NAt e rows X:=⟨h.1,fun i r t=>(h.2 i r t).mono (fun _ _ k=>k.mono j)⟩
def NAt.set (h:NAt u rows X)(hi:i<rows.length)(C:AtP Bi u r.2 q):NAt u (rows.set i r) (X.set i q):=by
 refine⟨by simp[h.1],fun j r' t=>?_⟩;rw[Kv (by rw[<-h.1];exact hi)];rw[A1z]at t;by_cases e:i=j
 ·subst e;rw[if_pos rfl,if_pos hi]at t;simp only[A1f]at t;rw[if_pos rfl,<-t];exact C
 rw[if_neg e]at t⊢;exact h.2 j r' t
theorem Ara (i:Nat):gMZ (X++[q]) i=if i<X.length then gMZ X i else if i=X.length then q else []:=by
 unfold gMZ;rw[A02,A02];by_cases h:i<X.length
 ·rw[A1r h,if_pos h]
 ·rw[if_neg h];by_cases e:i=X.length
  ·subst e;rw[if_pos rfl];simp
  ·rw[if_neg e,A1v gV];rfl
def NAt.snoc (h:NAt u rows X)(j:AtP Bi u r.2 q):NAt u (rows++[r]) (X++[q]):=by
 refine⟨by simp[h.1],fun i r' hi=>?_⟩;rw[Ara];by_cases e:i<rows.length
 ·rw[A1r e]at hi;rw[if_pos (by rw[<-h.1];exact e)];exact h.2 i r' hi
 rw[A18 oV]at hi;have t:i-rows.length=0:=by
  rcases A2a (i-rows.length) with h0|h0
  ·exact h0
  rw[A1v gV]at hi;cases hi
 rw[t]at hi;simp at hi;subst hi;rw[if_neg (by rw[<-h.1];omega),if_pos (by rw[<-h.1];omega)];exact j
def E9 (rv pv:Value)(f:N3)(odd:Bool):zV:=[rv,pv,.bool f.b,.slice f.a f.n f.c,.bool odd]
def Jv (g:Nat)(cs:zV):Arr:=⟨zG g 5 5,192,1,cs⟩
def V3 {g:Nat}{m0 m:PH}:(Jv g cs).At m0 m=Af m0 m (zG g 5 5) 192 1 cs:=rfl
def Ap1 (h:∀ x∈es,Ax x=true/\x.cells = #[x]):A9 1 es:=fun x C=>by
 obtain⟨j,t⟩:=h x C;rw[t];exact⟨rfl,fun y e=>by simp at e;subst e;exact j⟩
def Akd {f:N3}{odd:Bool}:A9 1 (E9 (.slice a n c) (.slice a' n' c') f odd):=Ap1 (by
 intro x e;simp only[E9,A1g,A11,or_false]at e;rcases e with rfl|rfl|rfl|rfl|rfl<;>exact⟨rfl,rfl⟩)
def Lz (h:∀ x∈es,x.cells = #[x]):A2 es=es:=by
 induction es with
 |nil=>rfl
 |cons e es ih =>
  unfold A2 at ih⊢;rw[A6o,ih (fun x j=>h x (A2f _ j)),h e mV];rfl
def Sa {f:N3}{odd:Bool}:∀ x∈E9 (.slice a n c) (.slice a' n' c') f odd,x.cells = #[x]:=by
 intro x e;simp only[E9,A1g,A11,or_false]at e;rcases e with rfl|rfl|rfl|rfl|rfl<;>rfl
def Ae9 {m:PH}{g:Nat}{f:N3}{odd:Bool}(e:m g=none):(Jv g (E9 (.slice a n c) (.slice a' n' c') f odd)).At m (m.upd g (.cells (E9 (.slice a n c) (.slice a' n' c') f odd).toArray 192 (0,0))):=by
 rw[V3];refine⟨Akd,.inr ⟨g,5,[],e,?_,rfl,by simp[E9],by rw[Lz Sa];simp[E9],mV⟩⟩;rw[Lz Sa,A1x]
def Aqq {m0 m:PH}{g:Nat}(h:(Jv g cs).At m0 m)(F:∀ x∈cs,x.cells = #[x])(J:cs.length=5):m0 g=none/\m=m0.upd g (.cells cs.toArray 192 (0,0)):=by
 rw[V3]at h;rcases h.2 with ⟨h,_,_⟩|⟨I,cap,rest,C,e,j,H,t,_⟩
 ·cases h
 simp only[Value.slice.injEq,A1f,Addr.mk.injEq]at j;obtain⟨⟨rfl,_,_⟩,_,rfl⟩:=j;rw[Lz F]at e t;have:rest = []:=by
  refine A2l ?_;rw[A1d]at t;omega
 subst this;rw[A1x]at e;exact⟨C,e⟩
section
variable {m:PH} {g:Nat} {l:List Arr} {rv pv:Value} {f:N3} {odd:Bool}
def Ev (h:Bag m (Jv g (E9 rv pv f odd)::l)):ElP m g (0+0) rv:=h.el (j:=0) 0 (x:=Jv g (E9 rv pv f odd)) rfl rfl rfl
def Ab4 (h:Bag m (Jv g (E9 rv pv f odd)::l)):ElP m g (0+1) pv:=h.el (j:=1) 0 (x:=Jv g (E9 rv pv f odd)) rfl rfl rfl
def Ak7 (h:Bag m (Jv g (E9 rv pv f odd)::l)):ElP m g (0+4) (.bool odd):=h.el (j:=4) 0 (x:=Jv g (E9 rv pv f odd)) rfl rfl rfl
def Al1 (h:Bag m (Jv g (E9 rv pv f odd)::l)):ElP m g (0+2) (nv f):=by
 have e:ElP m g (0+2*1) (.bool f.b):=h.el (j:=2) 0 (x:=Jv g (E9 rv pv f odd)) rfl rfl rfl;have t:ElP m g (0+3*1) (.slice f.a f.n f.c):=h.el (j:=3) 0 (x:=Jv g (E9 rv pv f odd)) rfl rfl rfl;intro i x hi
 match i,hi with
 |0,hi=>exact e 0 x hi
 |1,hi=>exact t 0 x hi
end
def Ur {u m:PH}{g n c w i:Nat}(C:Bag m (s::p::oN (zG g n c) rows::rows.map C3))(T:NAt u rows X)(P:E8 n w X)(hi:i<n)(Z:0<w) :
 ∃ I K H,rows[i]?=some (zG I w K,H)/\H.length=w/\AtP Bi u H (gMZ X i)/\ElP m g (0+i*1) (zG I w K)/\∀ j,j<w->∃ f,H[j]?=some (nv f)/\Bi u (nv f) (enZ X i j)/\ElP m I (0+j*2) (nv f):=by
 have W:rows.length=n:=by rw[T.1,P.1]
 have h:rows[i]?=some rows[i]:=A01 oV;have t:=T.2 i _ h;obtain⟨⟨vi,H⟩,U⟩:∃ x,rows[i]=x:=⟨_,rfl⟩;rw[U]at h t;simp only at t;have F:H.length=w:=by rw[t.1,P.2 i hi]
 obtain⟨I,K,e⟩:=C.ptr (i+3) (F8 h) (by intro e;simp only[C3]at e;rw[e]at F;simp at F;omega);simp only[C3]at e;rw[F]at e;subst e;refine⟨I,K,H,h,F,t,C.el 2 (x:=oN _ rows) rfl rfl (by show (rows.map (·.1))[i]?=_;rw[A1a,h];rfl),fun j V=>?_⟩;have J:j<(gMZ X i).length:=by rw[P.2 i hi];exact V
 obtain⟨e,Q,L⟩:=t.at J;obtain⟨f,rfl⟩:=L.opN;rw[<-Ol J]at L;exact⟨f,Q,L,C.el (i+3) (x:=C3 _) (F8 h) rfl Q⟩
def Vp (Y R:List Int)(k:Nat):List Int:=Y.take k++R.drop k
def Amf (Y R:List Int):Vp Y R 0=R:=by simp[Vp]
def Asz (h:Y.length=k)(e:R.length=k):Vp Y R k=Y:=by
 unfold Vp;rw[A1j oV,A2b oV,A1x]
def Ape (h:Y.length=R.length)(e:k<=R.length):(Vp Y R k).length=R.length:=by simp[Vp];omega
def Aov (h:Y.length=R.length)(e:k<R.length):(Vp Y R k).set k (gZ Y k)=Vp Y R (k+1):=by
 unfold Vp;rw[A4t _ _ gV];simp only[A1e];rw[show k-min k Y.length=0 by omega,A5z e,A2p,M2 oV,A2k,Ol oV];rfl
def Atr (h:Y.length=R.length)(e:k<R.length):gZ (Vp Y R k) k=gZ R k:=by
 unfold Vp gZ;rw[A02,A18 gV,A02];simp only[A1e];rw[show k-min k Y.length=0 by omega,A39];rfl
def SzZ (X:List (List Int))(E:Nat):Prop:=∀ i j,nl (enZ X i j).natAbs<=E
def SzZ.mono {E e:Nat}(h:SzZ X E)(t:E<=e):SzZ X e:=fun i j=>A04 (h i j) t
def Vw {v a g x y:Int}(t:nl a.natAbs<=E)(C:nl g.natAbs<=E)(F:nl x.natAbs<=E)(H:nl y.natAbs<=E):nl (x*a).natAbs<=2*E/\nl (g*y).natAbs<=2*E/\nl (x*a-g*y).natAbs<=2*E+1/\nl ((x*a-g*y)/v).natAbs<=2*E+1:=by
 have e:=Bx F t;have h:=Bx C H;have j:=Ab3 e h;exact⟨e,h,j,A04 (C4 (Int.natAbs_ediv_le_natAbs _ _)) j⟩
def SzZ.swap {n w p r E:Nat}(h:SzZ X E)(e:E8 n w X)(hp:p<n)(t:r<n):SzZ (Kw X p r) E:=fun i j=>by
 unfold enZ;rw[Wz e hp t];split
 ·exact h p j
 split
 ·exact h r j
 exact h i j
def SzZ.row {n w r c i E:Nat}{v:Int}(h:SzZ X E)(e:E8 n w X)(t:r<n)(hi:i<n)(j:Nat):nl (gZ (Qx v (enZ X r c) (enZ X i c) (gMZ X r) (gMZ X i)) j).natAbs<=2*E+1:=by
 rw[Acv _ _ _ _ _ (by rw[e.2 r t,e.2 i hi])];exact (Vw (h r c) (h i c) (h i j) (h r j)).2.2.2
def SzZ.clr {n w r c E:Nat}{v:Int}(h:SzZ X E)(e:E8 n w X)(t:r<n):SzZ (Ov r c v n 0 X) (2*E+1):=fun i j=>by
 unfold enZ;rw[Ry t n 0 X oV e];split
 ·rename_i h1;exact h.row e t oV j
 exact A04 (h i j) oV
def Al2 {s:BZ}(h:SzZ s.X E)(I:nl s.v.natAbs<=E)(t:E8 n w s.X)(H:s.P.length<=n):SzZ (I0 n c s).X (2*E+1)/\nl (I0 n c s).v.natAbs<=2*E+1/\E8 n w (I0 n c s).X/\(I0 n c s).P.length<=n/\(s.v≠0->(I0 n c s).v≠0):=by
 obtain⟨K,L⟩:=Ac3 s.X c (n-s.P.length) s.P.length;have J:=Ade s.X c (n-s.P.length) s.P.length;unfold I0;generalize Iy s.X c (n-s.P.length) s.P.length=p at *
 split
 ·exact⟨h.mono oV,A04 I oV,t,H,id⟩
 rename_i e;have hp:p<n:=oV;have C:s.P.length<n:=oV;have j:E8 n w (if p=s.P.length then s.X else Kw s.X p s.P.length):=by
  split
  ·exact t
  exact Uh t hp C
 have F:SzZ (if p=s.P.length then s.X else Kw s.X p s.P.length) E:=by
  split
  ·exact h
  exact h.swap t hp C
 exact⟨F.clr j C,A04 (h p c) oV,Wu C n 0 _ oV j,gV,fun _=>J oV⟩
end
structure E3 where
 rows:List (Value×zV)
 X:List (List Int)
 odd:Bool
def Awx {z:Int}:sgn z=0↔z=0:=by unfold sgn;split<;>(try split)<;>omega
def Ax8 {u m:PH}{g go I n w c E:Nat}{t:List (Value×zV)}{L:List (List Int)}{P:zK}{pa:zP}{pc:Nat}{f0:N3}{C:Bool}{v:Int}
 (W:E8 n w L) (hn:n<=100) (hw:w<=100) (hc:c<w) (hP:P.length<=n) (h0:0<n) (a4:SzZ L E) (hv:Bi u (nv f0) v) (d7:nl v.natAbs<=E) (d5:v≠0) (hE:E<=1000000000) (b1:NAt u t L)
 (h:Bag m (Jv g (E9 (zG go n I) (.slice pa P.length pc) f0 C)::Np (.slice pa P.length pc) P::oN (zG go n I) t::t.map C3)) :
 Ag prog 194 [.pointer (zA g),zI c] u m fun r u' m'=>r=.tuple #[]/\∃ cj ck f' a3,NAt u' a3 (I0 n c ⟨L,P,v,C⟩).X/\Bi u' (nv f') (I0 n c ⟨L,P,v,C⟩).v /\
  Bag m' (Jv g (E9 (zG go n I) (.slice cj (I0 n c ⟨L,P,v,C⟩).P.length ck) f' (I0 n c ⟨L,P,v,C⟩).odd)::Np (.slice cj (I0 n c ⟨L,P,v,C⟩).P.length ck) (I0 n c ⟨L,P,v,C⟩).P::oN (zG go n I) a3::a3.map C3):=by
 have ah:0<w:=oV;refine Ag.o func194<|G.f 192 g 0 1 1<|G.v none (Ab4 h)<|G.l (ι:=Nat) (fun p=>[(0,.v (.pointer (zA g))),(1,iV c),(4,iV P.length),(5,iV p)]) (fun _=>[])
  (fun p u' m'=>P.length<=p/\p<=n/\Iy L c (n-p) p=Iy L c (n-P.length) P.length/\m'=m) (fun p=>n-p) P.length ⟨A08 _,hP,rfl,rfl⟩ ?_
 rintro J2 p bk u3 m3 l3 ⟨ds,du,a8,rfl⟩;have K:=b1.mono l3;refine G.f 192 g 0 0 0<|G.v none (Ev h) ?_;by_cases Z:n<=p
 ·obtain rfl:p=n:=oV;refine G.lF p p<|G.f 192 g 0 0 0<|G.v none (Ev h)<|G.hT p p ?_;have e:I0 p c ⟨L,P,v,C⟩=⟨L,P,v,C⟩:=by
   unfold I0;rw[if_pos];show Iy L c (p-P.length) P.length=p;rw[<-a8,A4i];rfl
  refine G.r (.tuple #[]) ?_;rw[e];exact⟨rfl,pa,pc,f0,t,K,hv.mono l3,h⟩
 have Z:p<n:=oV;refine G.lT p n ?_;obtain⟨K2,bm⟩:∃ K2,n-p=K2+1:=⟨n-p-1,oV⟩;obtain⟨gp,cp,ep,c1,d3,bj,ac,bw⟩:=Ur h K W Z ah;obtain⟨fp,d2,bx,bz⟩:=bw c hc;refine G.f 192 g 0 0 0<|G.v none (Ev h)<|G.O n I Z ac<|G.O w cp hc bz<|G.c call195 (N1 bx (A04 (a4 p c) oV)) ?_;rintro v4 u4 l4 rfl;by_cases hz:enZ L p c=0
 ·refine G.eT' (sgn (enZ L p c)) 0 (Awx.2 hz)<|G.i p<|G.b (bk (p+1) _ _ _ cV (l3.trans l4) ⟨oV,oV,?_,rfl⟩ oV);rw[<-a8,bm,Iy,if_pos hz,show n-(p+1)=K2 by omega]
 refine G.eF' (sgn (enZ L p c)) 0 (fun e=>hz (Awx.1 e)) ?_;rw[bm,Iy,if_neg hz]at a8;clear bk;have T:P.length<n:=oV;refine G.f 192 g 0 0 0<|G.v none (Ev h)<|G.hF p n<|G.join (ι:=E3) zL (fun i=>[(0,.v (.pointer (zA g))),(1,iV c),(4,iV P.length)]) (fun i=>[])
  (fun i u' m'=>i.X=(if p=P.length then L else Kw L p P.length)/\i.odd=(if p=P.length then C else !C)/\NAt u' i.rows i.X/\Bag m' (Jv g (E9 (zG go n I) (.slice pa P.length pc) f0 i.odd)::Np (.slice pa P.length pc) P::oN (zG go n I) i.rows::i.rows.map C3)) (fun _=>kV) kV ?tail ?way
 case way =>
  intro ab;by_cases ap:p=P.length
  ·refine G.nF p P.length ?_;exact ab ⟨t,L,C⟩ _ _ _ kV cV (PH.le_refl _) ⟨by rw[if_pos ap],by rw[if_pos ap],K.mono l4,h⟩
  refine G.nT p P.length ?_;obtain⟨gr,cr,er,be,aw,ay,ao,b4⟩:=Ur h K W T ah;refine G.f 192 g 0 0 0<|G.v none (Ev h)<|G.f 192 g 0 0 0<|G.v none (Ev h)<|G.f 192 g 0 0 0<|G.v none (Ev h)<|G.O n I T ao<|G.f 192 g 0 0 0<|G.v none (Ev h)<|G.O n I Z ac ?_;obtain⟨m0,ai,ad⟩:=h.focus 2 rfl;rw[Akm]at ai;have dg:t.length=n:=by rw[b1.1,W.1]
  refine G.a go 0 n I p 1 Z<|G.storeA 1 m0 _ go n I p (zG gr w cr) kV ai gV rfl rfl ?_;intro m5 d9;refine G.a go 0 n I P.length 1 T<|G.storeA 1 m0 _ go n I P.length (zG gp w cp) kV d9 gV rfl rfl ?_;intro m6 c8;have bd:((t.map (·.1)).set p (Value.slice (zA gr) w cr)).set P.length (Value.slice (zA gp) w cp)=((t.set p (Value.slice (zA gr) w cr,er)).set P.length (Value.slice (zA gp) w cp,ep)).map (·.1):=by rw[A2g,A2g]
  rw[bd]at c8;have ct:=ad (oN (zG go n I) ((t.set p (Value.slice (zA gr) w cr,er)).set P.length (Value.slice (zA gp) w cp,ep))) m6 c8;have b7:((t.set p (Value.slice (zA gr) w cr,er)).set P.length (Value.slice (zA gp) w cp,ep)).Perm t:=by
   obtain⟨q1,q2⟩:=A05.1 c1;obtain⟨q3,q4⟩:=A05.1 be;rw[<-q2,<-q4];exact List.set_set_perm q1 q3
  have bt:=Bag.perm (List.Perm.cons _ (List.Perm.cons _ (List.Perm.cons _ (b7.symm.map C3)))) ct;have a1:=(K.set (i:=p) (r:=(Value.slice (zA gr) w cr,er)) oV ay).set (i:=P.length) (r:=(Value.slice (zA gp) w cp,ep)) gV bj;refine G.f 192 g 0 3 4<|G.v none (Ak7 bt)<|G.f 192 g 0 3 4 ?_;obtain⟨m7,ca,bb⟩:=bt.focus 0 rfl;rw[V3]at ca;refine G.storeA 1 m7 _ g 5 5 4 (.bool !C) kV ca (by simp[E9]) rfl rfl ?_;intro m8 da;have cu:=bb (Jv g (E9 (zG go n I) (.slice pa P.length pc) f0 (!C))) m8 da;exact ab ⟨(t.set p (Value.slice (zA gr) w cr,er)).set P.length (Value.slice (zA gp) w cp,ep),Kw L p P.length,!C⟩ _ _ _ kV cV (PH.le_refl _) ⟨by rw[if_neg ap],by rw[if_neg ap],a1.mono l4,cu⟩
 rintro⟨rows1,X1,odd1⟩ u5 m5 l5 ⟨hX1e,hod,a1,hbag1⟩;simp only at hX1e hod a1 hbag1;have am:E8 n w X1:=by
  rw[hX1e];split
  ·exact W
  exact Uh W Z T
 have ag:SzZ X1 E:=by
  rw[hX1e];split
  ·exact a4
  exact a4.swap W Z T
 have bp:enZ X1 P.length c=enZ L p c:=by
  rw[hX1e];split
  ·rename_i e;rw[e]
  unfold enZ;rw[Wz W Z T,if_pos rfl]
 have af:I0 n c ⟨L,P,v,C⟩=⟨Ov P.length c v n 0 X1,P++[c],enZ X1 P.length c,odd1⟩:=by
  unfold I0;rw[if_neg (by show ¬ Iy L c (n-P.length) P.length=n;rw[<-a8];omega),bp,hod,hX1e];show BZ.mk _ _ _ _=_;simp only[<-a8]
 rw[af];clear af hX1e h b1 K c1 d3 bj ac bw d2 bx bz a8 a4 W;have d6:=hv.mono ((l3.trans l4).trans l5);have dv:rows1.length=n:=by rw[a1.1,am.1]
 obtain⟨gr,cr,er,be,aw,ay,ao,b4⟩:=Ur hbag1 a1 am T ah;obtain⟨fr,h5,h6,h7⟩:=b4 c hc;obtain⟨R,hR⟩:∃ R,R=gMZ X1 P.length:=⟨_,rfl⟩;have dm:R.length=w:=by rw[hR];exact am.2 _ T
 obtain⟨F,hF⟩:∃ F,F=enZ X1 P.length c:=⟨_,rfl⟩;have az:nl F.natAbs<=E:=by rw[hF];exact ag _ _
 have b2:∀ j,nl (gZ R j).natAbs<=E:=fun j=>by rw[hR];exact ag _ j
 rw[<-hF]at h6⊢;have cn:gZ R c=F:=by rw[hR,hF];rfl
 refine G.f 192 g 0 0 0<|G.v none (Ev hbag1)<|G.O n I T ao<|G.O w cr hc h7<|G.f 192 g 0 0 0<|G.v none (Ev hbag1)<|G.l (ι:=Nat×List (Value×zV)×List (List Int)) (fun i=>[(0,.v (.pointer (zA g))),(1,iV c),(4,iV P.length),(6,.p 8010 0),(97,sV (zA go) n I),(98,iV n),(99,iV i.1)]) (fun i=>[(8010,⟨141,Age fr⟩)])
  (fun i u' m'=>i.1<=n/\Ov P.length c v (n-i.1) i.1 i.2.2=Ov P.length c v n 0 X1/\E8 n w i.2.2/\gMZ i.2.2 P.length=R/\(∀ x j,i.1<=x->nl (enZ i.2.2 x j).natAbs<=E)/\NAt u' i.2.1 i.2.2 /\
   Bag m' (Jv g (E9 (zG go n I) (.slice pa P.length pc) f0 odd1)::Np (.slice pa P.length pc) P::oN (zG go n I) i.2.1::i.2.1.map C3))
  (fun i=>n-i.1) (0,rows1,X1) ⟨A1t _,rfl,am,hR.symm,fun x j _=>ag x j,a1,hbag1⟩ ?_
 clear a1 hbag1 be aw ay ao b4 h5 h7;rintro J4 ⟨i,H,X3⟩ b0 u8 m8 l8 ⟨hi,aa,Y,U,a0,K,J⟩;simp only at hi aa Y U a0 K J b0;have d4:H.length=n:=by rw[K.1,Y.1]
 by_cases a7:i<n
 ·refine G.lT i n ?_;obtain⟨K3,bn⟩:∃ K3,n-i=K3+1:=⟨n-i-1,oV⟩;obtain⟨gi,ci,ei,c0,cy,bi,d1,cv⟩:=Ur J K Y a7 ah;refine G.O n I a7 d1 ?_;by_cases an:i=P.length
  ·refine G.eT i P.length<|G.i i<|G.b (b0 (i+1,H,X3) _ _ _ cV l8 ⟨dV,?_,Y,U,fun x j h1=>a0 x j (by dsimp only at h1;omega),K,J⟩ dV);dsimp only;rw[<-aa,bn,Ov,if_pos an,show n-(i+1)=K3 by omega]
  refine G.eF i P.length ?_;obtain⟨fg,g5,g6,g7⟩:=cv c hc;have b6:=a0 i c (A08 _);refine G.O w ci hc g7 ?_;obtain⟨S,hS⟩:∃ S,S=gMZ X3 i:=⟨_,rfl⟩;have bo:S.length=w:=by rw[hS];exact Y.2 i a7
  have b3:∀ j,nl (gZ S j).natAbs<=E:=fun j=>by rw[hS];exact a0 i j (A08 _)
  have cm:enZ X3 P.length c=F:=by unfold enZ;rw[U];exact cn
  have bu:Ov P.length c v (n-(i+1)) (i+1) (X3.set i (Qx v F (enZ X3 i c) R S))=Ov P.length c v n 0 X1:=by
   rw[<-aa,bn,Ov,if_neg an,show n-(i+1)=K3 by omega,hS,U,cm]
  generalize hg:enZ X3 i c=gg at *
  rw[<-hS]at bi;have bf:=S2 v F gg R S;have dp:∀ j,nl (gZ (Qx v F gg R S) j).natAbs<=2*E+1:=fun j=>by
   rw[Acv _ _ _ _ _ oV];exact (Vw az b6 (b3 j) (b2 j)).2.2.2
  obtain⟨gs,cs,bh,c2,dh,dl,dr,cw⟩:=Ur J K Y T ah;refine G.l (ι:=Nat×zV) (fun y=>[(0,.v (.pointer (zA g))),(1,iV c),(4,iV P.length),(6,.p 8010 0),(97,sV (zA go) n I),(98,iV n),(99,iV i),(8,sV (zA gi) w ci),(9,.p 13004 0),(112,iV w),(113,iV y.1)]) (fun y=>[(8010,⟨141,Age fr⟩),(13004,⟨141,Age fg⟩)])
   (fun y u' m'=>y.1<=w/\AtP Bi u' y.2 (Vp (Qx v F gg R S) S y.1)/\Bag m' (Jv g (E9 (zG go n I) (.slice pa P.length pc) f0 odd1)::Np (.slice pa P.length pc) P::oN (zG go n I) H::(H.set i ((Value.slice (zA gi) w ci),y.2)).map C3)) (fun y=>w-y.1) (0,ei)
   ⟨A1t _,by rw[Amf];exact bi,by rw[Ny c0];exact J⟩ ?_
  rintro J5 ⟨y,Q⟩ bl dw a9 a2 ⟨hy,a6,V⟩;simp only at hy a6 V bl;have d0:=Ape (k:=y) bf oV;have dq:Q.length=w:=by rw[a6.1,d0,bo]
  have av:(H.set i ((Value.slice (zA gi) w ci),Q))[i]?=some ((Value.slice (zA gi) w ci),Q):=by rw[A1z];simp[d4,a7]
  have b5:(H.set i ((Value.slice (zA gi) w ci),Q))[P.length]?=some (Value.slice (zA gs) w cs,bh):=by rw[A1z,if_neg an];exact c2
  by_cases aq:y<w
  ·refine G.lT y w ?_;obtain⟨e,e1,e2⟩:=a6.at (j:=y) oV;obtain⟨fe,rfl⟩:=e2.opN;rw[<-Ol oV,Atr bf oV]at e2;have ac:ElP a9 go (0+P.length*1) (Value.slice (zA gs) w cs):=V.el 2 (x:=oN (zG go n I) H) rfl rfl (by show (H.map (·.1))[P.length]?=_;rw[A1a,c2];rfl);have he:ElP a9 gi (0+y*2) (nv fe):=V.el (i+3) (x:=C3 ((Value.slice (zA gi) w ci),Q)) (F8 av) rfl e1;obtain⟨fs,s5,s6,_⟩:=cw y aq;have dd:Bi u8 (nv fs) (gZ R y):=by rw[<-U];exact s6
   have cx:ElP a9 gs (0+y*2) (nv fs):=V.el (P.length+3) (x:=C3 (Value.slice (zA gs) w cs,bh)) (F8 b5) rfl s5;have c3:=(d6.mono l8).mono a2;obtain⟨z1,z2,z3,z4⟩:=Vw (v:=v) az b6 (b3 y) (b2 y);refine G.O w ci aq he<|G.f 192 g 0 0 0<|G.v none (Ev V)<|G.O n I T ac<|G.O w cs aq cx<|G.f 192 g 0 2 2<|G.v (some 2) (Al1 V)<|G.c call126 (Ea e2 ((h6.mono l8).mono a2) (A04 (b3 y) oV) (A04 az oV)) ?_;intro e4 dx aj cb;obtain⟨di,rfl⟩:=cb.opN;refine G.c call126 (Ea ((g6.mono a2).mono aj) ((dd.mono a2).mono aj) (A04 b6 oV) (A04 (b2 y) oV)) ?_;intro e5 dy ar cc;obtain⟨dj,rfl⟩:=cc.opN;refine G.c call241 (Ac7 (cb.mono ar) cc (A04 z1 oV) (A04 z2 oV)) ?_;intro e6 dz bg cd;obtain⟨dk,rfl⟩:=cd.opN;refine G.c call190 (M1 cd (c3.mono ((aj.trans ar).trans bg)) (A04 z3 oV) (A04 d7 oV) d5) ?_;rintro e7 e0 ch ⟨e8,ea,rfl,ce,cg⟩;obtain⟨ax,rfl⟩:=ce.opN;obtain⟨df,rfl⟩:=cg.opN;obtain⟨m0,ai,ad⟩:=V.focus (i+3) (F8 av);rw[Ack]at ai;refine G.a gi 0 w ci y 2 aq<|G.storeA 2 m0 Q gi w ci y (nv ax) kV ai oV rfl rfl ?_;intro dc c6;have au:=ad (C3 ((Value.slice (zA gi) w ci),Q.set y (nv ax))) dc c6;rw[Afy,A6r]at au;refine G.i y<|G.b (bl (y+1,Q.set y (nv ax)) _ _ _ cV ((((a2.trans aj).trans ar).trans bg).trans ch) ⟨dV,?_,au⟩ dV);dsimp only;rw[<-Aov bf oV,Acv _ _ _ _ _ oV];exact (a6.mono (fun _ _ k=>k.mono (((aj.trans ar).trans bg).trans ch))).set y ce
  obtain rfl:y=w:=oV;refine G.lF y y ?_;rw[Asz oV bo]at a6;rw[<-Aq8 (es':=Q) c0]at V;refine G.i i ?_;have cq:E8 n y (X3.set i (Qx v F gg R S)):=Lt Y a7 oV;have ae:∀ x,gMZ (X3.set i (Qx v F gg R S)) x=if i=x then Qx v F gg R S else gMZ X3 x:=fun x=>Kv (by rw[Y.1];exact a7)
  refine G.b (b0 (i+1,H.set i ((Value.slice (zA gi) y ci),Q),X3.set i (Qx v F gg R S)) _ _ _ cV (l8.trans a2) ⟨dV,bu,cq,?_,?_,?_,V⟩ dV)
  ·dsimp only;rw[ae,if_neg an];exact U
  ·intro x j h1;dsimp only at h1⊢;unfold enZ;rw[ae,if_neg oV];exact a0 x j oV
  exact (K.mono a2).set (i:=i) (r:=((Value.slice (zA gi) y ci),Q)) oV a6
 obtain rfl:i=n:=oV;refine G.lF i i ?_;rw[A4i,Ov]at aa;rw[<-aa];refine G.f 192 g 0 1 1<|G.v none (Ab4 J)<|G.B 3 1 8 zO [zI c] (Av [c]) ?_;intro g9 u9 l9 e9;obtain⟨m1,c4,b8⟩:=J.focus 1 rfl;rw[Aka]at c4;have cy:(Ai P).length=P.length:=by simp[Ai]
 refine G.append 3 1 8 zO m1 (Ai P) [zI c] (.slice pa P.length pc) g9 0 1 1 kV rfl rfl oV c4 e9 (Av [c]) rfl oV oV oV ?_;intro e3 a9 a5;rw[show Ai P++[Value.int .i64 c]=Ai (P++[c]) by simp[Ai]]at a5;obtain⟨ak,al,rfl⟩:=a5.shape;have el:(Ai (P++[c])).length=(P++[c]).length:=by simp[Ai]
 rw[el]at a5⊢;have bq:=b8 (Np (.slice ak (P++[c]).length al) (P++[c])) a9 a5;obtain⟨m2,d8,b9⟩:=bq.focus 0 rfl;obtain⟨cz,em⟩:=Aqq d8 Sa rfl;refine G.f 192 g 0 2 2<|G.storeM 2 g (0+2) 192 (E9 (zG go i I) (.slice pa P.length pc) f0 odd1) (nv fr) kV (by rw[em,Ab]) (fun x hx=>by
  have:=(Akd x hx).2 x (by rw[Sa x hx];simp);exact this) (by simp[E9]) rfl rfl ?_
 have cl:a9.upd g (.cells ((E9 (zG go i I) (.slice pa P.length pc) f0 odd1).take (0+2)++(nv fr).cells.toList++(E9 (zG go i I) (.slice pa P.length pc) f0 odd1).drop (0+2+2)).toArray 192 (0,0)) =
  m2.upd g (.cells (E9 (zG go i I) (.slice pa P.length pc) fr odd1).toArray 192 (0,0)):=by
  rw[em,Dp];rfl
 rw[cl];have br:=b9 (Jv g (E9 (zG go i I) (.slice pa P.length pc) fr odd1)) _ (Ae9 cz);refine G.f 192 g 0 1 1 ?_;obtain⟨m3,c7,ba⟩:=br.focus 0 rfl;rw[V3]at c7;refine G.storeA 1 m3 _ g 5 5 1 (.slice ak (P++[c]).length al) kV c7 (by simp[E9]) rfl rfl ?_;intro db c5;have bs:=ba (Jv g (E9 (zG go i I) (.slice ak (P++[c]).length al) fr odd1)) db c5;exact G.r (.tuple #[]) ⟨rfl,ak,al,fr,H,K.mono l9,h6.mono (l8.trans l9),bs⟩
section
variable {X:List (List Int)}{a:zP}{c n:Nat}
section
variable [Cl] {P:Program} [A6 P] {fn:Func} {Post:Ce} {st:List KI×S} {u m:PH}
def G.appendZ (e:TypeId)(sz C:Nat)(z:Value)(xs:zV)(a:zP)(n c:Nat)(h:Aj P (adv P st)=.app (some (e,sz,C,z)) true [zN,.slice a n c])(U:z.cells.toList.all Ax=true)(L:z.cells.size=sz)(K:0<sz)
 (Q:Ac u (.slice a n c) sz xs) (T:A9 sz xs) (J:xs.length=n) (R:n*C<=140737488355328) (I:n<=9223372036854775807)
 (k:∀ t E H,Af m H (.slice t n E) e sz xs->G P fn Post (nx (adv P st) (.slice t n E)) u H):G P fn Post st u m:=by
 by_cases h0:n=0
 ·subst h0;obtain rfl:=A2l J;exact G.appendNil e sz C z a c h (k none 0 m (Af.nil _ _ _))
 obtain⟨b,o,rfl,_⟩:=Q.at' (j:=0) (A01 oV);refine G.append e sz C z m [] xs zN b o n c h U L K (Af.nil _ _ _) Q.els T J oV (by simpa using R) (by simpa using I) ?_;intro V H F;rw[A3q]at F;obtain⟨t,E,rfl⟩:=F.shape;rw[J]at F⊢;exact k t E H F
end
def AtP.ok2 {u:PH}{es:zV}{zs:List Int}(h:AtP Bi u es zs):A9 2 es:=fun e H=>by
 obtain⟨j,E,rfl⟩:=A3d.1 H;have t:j<zs.length:=by rw[<-h.1];exact E
 obtain⟨I,C,F⟩:=h.2 j zs[j] (A01 t);rw[A01 E]at C;cases C;exact F.ok _ mV
def Agf {m u:PH}{s p:Arr}{h:List (Value×zV)}(t:Bag m (s::p::oN (.slice a n c) h::h.map C3))(E:NAt u h X)(I:PH.le m u):Nl u (.slice a n c) X:=by
 have J:=t.list I 2 (x:=oN (.slice a n c) h) rfl;refine⟨h.map (fun r:Value×zV=>r.1),J,by rw[A03,E.1],fun j r H=>?_⟩;have F:j<h.length:=by rw[E.1];exact (A05.1 H).1
 have C:h[j]?=some h[j]:=A01 F;refine⟨h[j].1,by rw[A1a,C];rfl,?_⟩;refine⟨h[j].2,t.list I (j+3) (x:=C3 h[j]) (F8 C),?_⟩;have:=E.2 j _ C;have e:gMZ X j=r:=by unfold gMZ;rw[A02,H];rfl
 rwa[e]at this
def Ata {m:PH}{g:Nat}{l:List Arr}{j pv:Value}{f:N3}{e:Bool}(h:Bag m (Jv g (E9 j pv f e)::l))(C:j.cells = #[j])(E:pv.cells = #[pv]):ElP m g 0 (.agg #[j,pv,.bool f.b,.slice f.a f.n f.c,.bool e]):=by
 have F:=Ev h;have H:=Ab4 h;have t:=Al1 h;have I:=Ak7 h;intro i x hi
 match i,hi with
 |0,hi=>exact F 0 x (by rw[C];exact hi)
 |1,hi=>exact H 0 x (by rw[E];exact hi)
 |2,hi=>exact t 0 x hi
 |3,hi=>exact t 1 x hi
 |4,hi=>exact I 0 x hi
def Aqf (K:Nat){k l:Nat}(h:k<=l):zs K k<=zs K l:=by
 induction l with
 |zero =>
  have:k=0:=oV;subst this;exact A08 _
 |succ l ih =>
  rcases A2e k (l+1) with e|e
  ·have:=ih oV;show zs K k<=2*zs K l+2;omega
  have:k=l+1:=oV;subst this;exact A08 _
def Avp {u:PH}{n w c j E:Nat}(hM:Nl u (.slice a n c) X)(hX:E8 n w X)(hn:n<=100)(hw:w<=100)(h0:0<n)(ao:j<=w)(ai:SzZ X E)(ab:1<=E)(hE:zs E j<=1000000000) :
 zF 122 [.slice a n c,zI j] u fun r u'=>∃ a' c' pa pc f,r=.agg #[.slice a' n c',.slice pa (Fm n j 0 ⟨X,[],1,false⟩).P.length pc,.bool f.b,.slice f.a f.n f.c,.bool (Fm n j 0 ⟨X,[],1,false⟩).odd] /\
  Nl u' (.slice a' n c') (Fm n j 0 ⟨X,[],1,false⟩).X/\Bi u' (nv f) (Fm n j 0 ⟨X,[],1,false⟩).v:=by
 have an:=hX.1;refine Fn0.o func122<|G.c call121 (Kf (z:=1) oV oV) ?_;intro v1 u1 l1 k1;obtain⟨f1,rfl⟩:=k1.opN;refine G.l (ι:=Nat×List (Value×zV)×(zP×Nat)) (fun i=>[(1,iV j),(4,.p 0 0),(5,.p 1002 0),(11,sV a n c),(12,iV n),(13,iV i.1)])
  (fun i=>[(0,⟨192,[sN,sN,bF,sN,bF]⟩),(1002,⟨192,[sV i.2.2.1 i.1 i.2.2.2,sN,bV f1.b,sV f1.a f1.n f1.c,bF]⟩)])
  (fun i u' m'=>i.1<=n/\NAt u' i.2.1 (X.take i.1)/\Bag m' (oN (.slice i.2.2.1 i.1 i.2.2.2) i.2.1::i.2.1.map C3)) (fun i=>n-i.1) (0,[],(none,0))
  ⟨A1t _,⟨rfl,fun i r h=>by simp at h⟩,PH.mt,Af.nil _ _ _,trivial⟩ ?_
 rintro J ⟨i,t,⟨ra,rc⟩⟩ hJ u2 m2 l2 ⟨hi,L,C⟩;simp only at hi L C hJ;have I:t.length=i:=by rw[L.1,A1e];omega
 by_cases Y:i<n
 ·refine G.lT i n ?_;have a9:X[i]?=some X[i]:=A01 oV;have ak:X[i].length=w:=by have:=hX.2 i Y;rwa[Xj oV]at this
  obtain⟨b,o,e,rfl,h3,f3⟩:=LP.at (hM.mono (l1.trans l2)) a9;obtain⟨es,W,U⟩:=f3;obtain⟨a4,c4,rfl⟩:=W.opn;have a3:es.length=w:=by rw[U.1,ak]
  rw[a3]at W h3;refine G.N n c Y h3<|G.appendZ 141 2 32 (.agg #[zL,zN]) es a4 w c4 kV rfl rfl oV W U.ok2 a3 oV oV ?_;intro F H m5 aa;refine G.B 190 1 24 zN [.slice F w H] (B5 _ _ _) ?_;intro g6 u6 l6 e6;have ad:Bag m5 (C3 (.slice F w H,es)::oN (.slice ra i rc) t::t.map C3):=⟨m2,aa,C⟩;obtain⟨m0,a8,a6⟩:=ad.focus 1 rfl;rw[Akm]at a8;refine G.k 190 1 24 zN m0 (t.map (·.1)) [.slice F w H] (.slice ra i rc) g6 0 1 1 a8 e6 (B5 _ _ _) ?_;intro v7 m7 Q;obtain⟨a7,c7,rfl⟩:=Q.shape;have e7:t.map (·.1)++[Value.slice F w H]=(t++[(Value.slice F w H,es)]).map (·.1):=mV
  rw[e7]at Q⊢;have el:((t++[(Value.slice F w H,es)]).map (·.1)).length=i+1:=by simp[I]
  rw[el]at Q⊢;have ae:=a6 (oN (.slice a7 (i+1) c7) (t++[(Value.slice F w H,es)])) m7 Q;have af:Bag m7 (oN (.slice a7 (i+1) c7) (t++[(Value.slice F w H,es)])::(t++[(Value.slice F w H,es)]).map C3):=by
   refine Bag.perm ?_ ae;rw[A1i];exact (List.Perm.swap _ _ _).trans (List.Perm.cons _ (A5r (l₁:=[C3 (Value.slice F w H,es)])))
  refine G.i i<|G.b (hJ (i+1,t++[(Value.slice F w H,es)],(a7,c7)) _ _ _ cV (l2.trans l6) ⟨dV,?_,af⟩ dV);dsimp only;rw[A1n,a9];exact (L.mono l6).snoc (q:=X[i]) (U.mono fun _ _ k=>k.mono l6)
 obtain rfl:i=n:=oV
 rw[A1j oV]at L;refine G.lF i i ?_;obtain⟨go,co,eo⟩:=C.ptr 0 rfl (by intro e;simp only[oN,A6c]at e;rw[e]at I;simp at I;omega);simp only[oN,A03,I,Value.slice.injEq,true_and]at eo;obtain⟨rfl,rfl⟩:=eo;clear hJ;refine G.pub 1002 192 (E9 (zG go i rc) zN f1 false) kV kV ?_;intro g ap ag;have a2:Bag (m2.upd g (.cells (E9 (zG go i rc) zN f1 false).toArray 192 (0,0))) (Jv g (E9 (zG go i rc) zN f1 false)::Np zN []::oN (zG go i rc) t::t.map C3) :=
  ⟨m2,Ae9 ag,m2,Af.nil _ _ _,C⟩
 refine G.l (ι:=Nat×List (Value×zV)×(zP×Nat)×N3×BZ) (fun i=>[(1,iV j),(4,.p 0 0),(5,.v (.pointer (zA g))),(8,iV i.1)])
  (fun i=>[(0,⟨192,[sN,sN,bF,sN,bF]⟩)])
  (fun k u' m'=>k.1<=j/\Fm i (j-k.1) k.1 k.2.2.2.2=Fm i j 0 ⟨X,[],1,false⟩/\E8 i w k.2.2.2.2.X/\SzZ k.2.2.2.2.X (zs E k.1)/\nl k.2.2.2.2.v.natAbs<=zs E k.1/\k.2.2.2.2.v≠0/\k.2.2.2.2.P.length<=i/\NAt u' k.2.1 k.2.2.2.2.X/\Bi u' (nv k.2.2.2.1) k.2.2.2.2.v /\
   Bag m' (Jv g (E9 (zG go i rc) (.slice k.2.2.1.1 k.2.2.2.2.P.length k.2.2.1.2) k.2.2.2.1 k.2.2.2.2.odd)::Np (.slice k.2.2.1.1 k.2.2.2.2.P.length k.2.2.1.2) k.2.2.2.2.P::oN (zG go i rc) k.2.1::k.2.1.map C3)) (fun k=>j-k.1)
  (0,t,(none,0),f1,⟨X,[],1,false⟩) ⟨A1t _,rfl,hX,ai,A04 (nl1 (n:=1) oV) ab,Int.one_ne_zero,A1t _,L,k1.mono l2,a2⟩ ?_
 clear a2 C L I;rintro J ⟨k,t,⟨pa,pc⟩,f,s⟩ hJ u3 m3 l3 ⟨hk,R,hR,hS,a0,Z,T,L,hv,C⟩;simp only at hk R hR hS a0 Z T L hv C hJ;by_cases Y:k<j
 ·refine G.lT k j ?_;have hz:zs E (k+1)<=1000000000:=A04 (Aqf E (show k+1<=j by omega)) hE;have aq:zs E (k+1)=2*zs E k+2:=rfl;obtain⟨q1,q2,q3,q4,q5⟩:=Al2 (c:=k) hS a0 hR T;refine G.A call194 (Ax8 (c:=k) (E:=zs E k) hR hn hw oV T h0 hS hv a0 Z oV L C) ?_;rintro v4 u4 m4 l4 ⟨rfl,al,am,f',a1,ac,aj,V⟩ _;rw[By];refine G.i k<|G.b (hJ (k+1,a1,(al,am),f',I0 i k s) _ _ _ cV (l3.trans l4) ⟨dV,?_,q3,q1.mono dV,A04 q2 dV,q5 Z,q4,ac,aj,V⟩ dV);dsimp only;obtain⟨K,hK⟩:∃ K,j-k=K+1:=⟨j-k-1,oV⟩;rw[<-R,hK,Fm,show j-(k+1)=K by omega]
 obtain rfl:k=j:=oV
 refine G.lF k k ?_;rw[A4i,Fm]at R;rw[<-R];refine G.v (some 5) (Ata C rfl rfl)<|G.giveP (ma:=m3) (sm:=PH.mt) kV (by funext g;unfold PH.or;cases m3 g<;>rfl) (fun g=>.inr rfl) (fun g=>.inl rfl) ?_
 intro u6 l6 ah;exact G.r (.agg #[zG go i rc,.slice pa s.P.length pc,.bool f.b,.slice f.a f.n f.c,.bool s.odd]) ⟨rfl,_,rc,pa,pc,f,rfl,Agf C (L.mono l6) ah,hv.mono l6⟩
end
def Akc {u:PH}{v:Value}{A:zM}{L:Nat}(h:C7 u v (Cv A))(hT:∀ r∈A,∀ q∈r,Tx q)(hl:A.length<=1000000)(ak:∀ r∈A,r.length<=1000000)(hL:∀ r∈A,∀ q∈r,q.den ∣ L)(bf:0<L)(bg:nl L<=1000000000) :
 Ag prog 120 [v] u PH.mt fun v' W m'=>∃ D f a5 c5 V,0<D/\D ∣ L/\(∀ r∈A,∀ q∈r,q.den ∣ D)/\v'=.agg #[.bool f.b,.slice f.a f.n f.c,.slice a5 A.length c5]/\Bi W (nv f) (D:Int)/\NAt W V (A.map (Bp D))/\Bag m' (oN (.slice a5 A.length c5) V::V.map C3):=by
 obtain⟨a,c,rfl⟩:=h.opn;rw[A3]at h⊢;have ah:∀ D:Nat,D ∣ L->nl (D:Int).natAbs<=1000000000:=fun D X=>A04 (C4 (A48 bf X)) bg;refine Ag.o func120<|G.c call121 (Kf (z:=1) oV oV) ?_;intro v1 u1 l1 k1;obtain⟨b1,a1,n1,c1,rfl⟩:=k1.opn;refine G.l (ι:=Nat×zV×(zP×Nat×Nat)×DI)
  (fun i=>[(2,.p 0 0),(3,.p 1002 0),(4,sV i.2.2.1.1 i.2.2.1.2.1 i.2.2.1.2.2),(19,sV a A.length c),(20,iV A.length),(21,iV i.1)])
  (fun i=>[(0,⟨187,[bF,sN,sN]⟩),(1002,⟨187,[bV i.2.2.2.b,sV i.2.2.2.a i.2.2.2.n i.2.2.2.c,sN]⟩)])
  (fun i W m'=>i.1<=A.length/\AtP F6 W i.2.1 (A.take i.1)/\Af PH.mt m' (.slice i.2.2.1.1 i.2.2.1.2.1 i.2.2.1.2.2) 135 1 i.2.1/\Yd W i.2.2.2 L/\∀ r∈A.take i.1,∀ q∈r,q.den ∣ i.2.2.2.D)
  (fun i=>A.length-i.1) (0,[],(none,0,0),⟨b1,a1,n1,c1,1⟩)
  ⟨A1t _,AtP.nil,Af.nil _ _ _,⟨k1,Nat.one_pos,Ba6 _⟩,fun r P=>by simp at P⟩ ?_
 rintro J ⟨k,Kp,⟨a2,n2,c2⟩,⟨db,da,dn,dc,D⟩⟩ hJ u2 m2 l2 ⟨hk,hF,hA,X,a0⟩;simp only at hk hF hA X a0 hJ;have bm:=hF.1;rw[A1e]at bm;by_cases T:k<A.length
 ·refine G.lT k A.length ?_;have H:A[k]?=some A[k]:=A01 T;have m:=A09 T;obtain⟨ba,oa,a3,c3,rfl,e3,s3⟩:=(h.mono (l1.trans l2)).row (Dw H);rw[A03]at e3 s3;refine G.n A.length c e3<|G.c call141 (T0 s3 (hT _ m) (ak _ m)) ?_;intro v4 u4 l4 k4;obtain⟨a4,c4,rfl⟩:=k4.lp.opn;refine G.l (ι:=Nat×DI)
   (fun i=>[(2,.p 0 0),(3,.p 1002 0),(4,sV a2 n2 c2),(19,sV (some ⟨ba,oa,none⟩) A.length c),(20,iV A.length),(21,iV k),(7,sV a4 A[k].length c4),(27,sV a4 A[k].length c4),(28,iV (A[k].length)),(29,iV i.1)])
   (fun i=>[(0,⟨187,[bF,sN,sN]⟩),(1002,⟨187,[bV i.2.b,sV i.2.a i.2.n i.2.c,sN]⟩)])
   (fun i W m'=>i.1<=A[k].length/\m'=m2/\Yd W i.2 L/\(∀ r∈A.take k,∀ q∈r,q.den ∣ i.2.D)/\∀ q∈A[k].take i.1,q.den ∣ i.2.D)
   (fun i=>A[k].length-i.1) (0,⟨db,da,dn,dc,D⟩)
   ⟨A1t _,rfl,X.mono l4,a0,fun q K=>by simp at K⟩ ?_
  rintro J2 ⟨j,⟨eb,ea,en,ec,E⟩⟩ Q u5 m5 Y ⟨hj,rfl,hE,aj,a9⟩;simp only at hj hE aj a9 Q;by_cases e:j<A[k].length
  ·refine G.lT j (A[k].length:Int) ?_;have U:A[k][j]?=some A[k][j]:=A01 e;have a6:=A09 e;have aa:=hT _ m _ a6;obtain⟨b6,o6,e6,rfl,h6,f6⟩:=(k4.mono Y).lp.at U;obtain⟨x1,x2,x3,x4,x5,x6,x7,x8,rfl⟩:=f6.opn;refine G.N A[k].length c4 e h6<|G.c call189 (Sk f6) ?_;intro v7 u7 l7 k7;obtain⟨b7,a7,n7,c7,rfl⟩:=k7.opn;refine G.c call188 (Alk ((hE.mono l7).1) k7 (A04 (ah _ hE.2.2) oV) (A04 (Bd aa.den) oV) (by have:=hE.2.1;dsimp only at this⊢;omega)) ?_;intro v8 u8 l8 k8;rw[Apj]at k8;obtain⟨b8,a8,n8,c8,rfl⟩:=k8.opn;refine G.add (j:Int) 1 ((j+1:Nat):Int) kV oV oV (by have:=ak _ m;omega)<|G.b (Q (j+1,⟨b8,a8,n8,c8,Nat.lcm E A[k][j].den⟩) _ _ _ cV ((Y.trans l7).trans l8) ⟨dV,rfl,⟨k8,?_,?_⟩,?_,?_⟩ dV)
   ·have:=hE.2.1;simp only at this⊢;exact Nat.lcm_pos this (A[k][j]).den_pos
   ·exact Ba7 hE.2.2 (hL _ m _ a6)
   ·exact fun r P q K=>A74 (aj r P q K) (A78 _ _)
   intro q K;dsimp only at K⊢;rw[A1n,U]at K;rcases A1h.1 K with K|K
   ·exact A74 (a9 q K) (A78 _ _)
   simp at K;subst K;exact Nat.dvd_lcm_right _ _
  have:j=A[k].length:=oV;subst this;rw[A15]at a9;refine G.lF (A[k].length:Int) (A[k].length:Int)<|G.B 135 1 24 zN [.slice a4 A[k].length c4] (B5 _ _ _) ?_;intro g6 u6 l6 e6;refine G.append 135 1 24 zN PH.mt Kp [.slice a4 A[k].length c4] (.slice a2 n2 c2) g6 0 1 1 kV rfl rfl oV hA e6 (B5 _ _ _) rfl oV oV oV ?_;intro v7 m7 ar;obtain⟨a7,c7,rfl⟩:=ar.shape;refine G.i k<|G.b (hJ (k+1,Kp++[Value.slice a4 A[k].length c4],(a7,(Kp++[Value.slice a4 A[k].length c4]).length,c7),⟨eb,ea,en,ec,E⟩) _ _ _ cV (((l2.trans l4).trans Y).trans l6) ⟨dV,?_,ar,hE.mono l6,?_⟩ dV)
  ·dsimp only;rw[A1n,H];exact (hF.mono (fun _ _ h=>h.mono ((l4.trans Y).trans l6))).snoc (k4.mono (Y.trans l6))
  intro r P;dsimp only at P⊢;rw[A1n,H]at P;rcases A1h.1 P with P|P
  ·exact aj r P
  simp at P;subst P;exact a9
 have:k=A.length:=oV;subst this;rw[A15]at hF a0;refine G.lF A.length A.length<|G.give PH.mt Kp _ kV hA (fun _=>.inl rfl) ?_;intro u3 l3 ai;have bp:Kp.length=A.length:=by rw[hF.1]
 obtain⟨_,_,e0⟩:=ai.opn;simp only[Value.slice.injEq]at e0;obtain⟨rfl,rfl,rfl⟩:=e0;rw[bp]at ai⊢;have be:Aeq u3 (.slice a2 A.length c2) A:=⟨Kp,ai,hF.mono (fun _ _ h=>h.mono l3)⟩;refine G.l (ι:=Nat×List (Value×zV)×(zP×Nat))
  (fun i=>[(2,.p 0 0),(3,.p 1002 0),(45,sV a2 A.length c2),(46,iV A.length),(47,iV i.1)])
  (fun i=>[(0,⟨187,[bF,sN,sN]⟩),(1002,⟨187,[bV db,sV da dn dc,sV i.2.2.1 i.1 i.2.2.2]⟩)])
  (fun i W m'=>i.1<=A.length/\NAt W i.2.1 ((A.take i.1).map (Bp D))/\Bag m' (oN (.slice i.2.2.1 i.1 i.2.2.2) i.2.1::i.2.1.map C3))
  (fun i=>A.length-i.1) (0,[],(none,0))
  ⟨A1t _,⟨rfl,fun i r h=>by simp at h⟩,PH.mt,Af.nil _ _ _,trivial⟩ ?_
 rintro J2 ⟨k,I,⟨a5,c5⟩⟩ Q u5 m5 Y ⟨bo,hN,ag⟩;simp only at bo hN ag Q;have ac:=hN.1;rw[A03,A1e]at ac;by_cases T:k<A.length
 ·refine G.lT k A.length ?_;have H:A[k]?=some A[k]:=A01 T;have m:=A09 T;have cl:=ak _ m;obtain⟨b6,o6,e6,rfl,h6,f6⟩:=LP.at (be.mono Y) H;obtain⟨a7,c7,rfl⟩:=f6.lp.opn;refine G.n A.length c2 h6<|G.make 141 2 32 (.agg #[zL,zN]) A[k].length kV rfl rfl oV oV oV ?_;rintro v8 m8 au ⟨a8,rfl⟩;obtain⟨C,rfl,cj⟩:=au.some';refine G.l (ι:=Nat×zV)
   (fun i=>[(2,.p 0 0),(3,.p 1002 0),(45,sV (some ⟨b6,o6,none⟩) A.length c2),(46,iV A.length),(47,iV k),(12,sV (zA C) A[k].length A[k].length),(54,sV a7 A[k].length c7),(55,iV (A[k].length)),(56,iV i.1)])
   (fun i=>[(0,⟨187,[bF,sN,sN]⟩),(1002,⟨187,[bV db,sV da dn dc,sV a5 k c5]⟩)])
   (fun i W m'=>i.1<=A[k].length/\AtP Bi W i.2 (Bp D (A[k].take i.1))/\Af m5 m' (zG C A[k].length A[k].length) 141 2 (i.2++List.replicate (A[k].length-i.1) (.agg #[zL,zN])))
   (fun i=>A[k].length-i.1) (0,[])
   ⟨A1t _,AtP.nil,by simpa using au⟩ ?_
  rintro J3 ⟨j,done⟩ av u9 m9 l9 ⟨bn,R,Z⟩;simp only at bn R Z av;have aw:=R.1;rw[Bp,A03,A1e]at aw;by_cases e:j<A[k].length
  ·refine G.lT j (A[k].length:Int) ?_;have U:A[k][j]?=some A[k][j]:=A01 e;have a6:=A09 e;have aa:=hT _ m _ a6;have ck:=(A[k][j]).den_pos;obtain⟨bz,cr,ch,rfl,bd,af⟩:=(f6.mono l9).lp.at U;obtain⟨x1,x2,x3,x4,x5,x6,x7,x8,rfl⟩:=af.opn;refine G.N A[k].length c7 e bd<|G.c call189 (Sk af) ?_;intro cw br t az;obtain⟨c0,bt,cn,cc,rfl⟩:=az.opn;refine G.c call190 (M1 ((X.mono (((l3.trans Y).trans l9).trans t)).1) az (A04 (ah _ X.2.2) oV) (A04 (Bd aa.den) oV) oV) ?_;rintro bs cs am ⟨cx,cy,rfl,al,bq⟩;obtain⟨c6,bu,co,cd,rfl⟩:=al.opn;obtain⟨ca,bw,cp,ce,rfl⟩:=bq.opn;refine G.c call191 (Ael (af.mono (t.trans am))) ?_;intro cz ct an b0;obtain⟨cb,bx,cq,cg,rfl⟩:=b0.opn;have bl:((D:Int)/(A[k][j].den:Int))=((D/A[k][j].den:Nat):Int):=by push_cast;rfl
   rw[bl]at al;refine G.c call126 (Ea b0 (al.mono an) (A04 (Bd aa.1) oV) (by rw[A1s];exact A04 (Tk _ _) (A04 (ah _ X.2.2) oV))) ?_;intro d0 cu b3 b2;obtain⟨ap,ao,b5,aq,rfl⟩:=b2.opn;refine G.a C 0 A[k].length A[k].length j 2 e<|G.storeA 2 m5 _ C A[k].length A[k].length j (.agg #[.bool ap,.slice ao b5 aq]) kV Z gV rfl rfl ?_;intro cm ab;rw[Afh oV e]at ab;refine G.i j<|G.b (av (j+1,done++[.agg #[.bool ap,.slice ao b5 aq]]) _ _ _ cV ((((l9.trans t).trans am).trans an).trans b3) ⟨dV,?_,ab⟩ dV);dsimp only;rw[A1n,U,Bp,A1i];exact (R.mono (fun _ _ h=>h.mono (((t.trans am).trans an).trans b3))).snoc b2
  have:j=A[k].length:=oV;subst this;rw[A15]at R;rw[A4i,A42,A1x]at Z;refine G.lF (A[k].length:Int) (A[k].length:Int) ?_;have ci:done.length=A[k].length:=oV;refine G.B 190 1 24 zN [zG C A[k].length A[k].length] (B5 _ _ _) ?_;intro bb br t b9;have bj:Bag m9 (C3 (zG C A[k].length A[k].length,done)::oN (.slice a5 k c5) I::I.map C3):=⟨m5,Z,ag⟩;obtain⟨m0,ay,ax⟩:=bj.focus 1 rfl;rw[Akm]at ay;have bk:(I.map (·.1)).length=k:=by rw[A03,ac];omega
  refine G.append 190 1 24 zN m0 (I.map (·.1)) [zG C A[k].length A[k].length] (.slice a5 k c5) bb 0 1 1 kV rfl rfl oV ay b9 (B5 _ _ _) rfl oV oV oV ?_;intro bs b4 F;obtain⟨ad,ae,rfl⟩:=F.shape;have e7:I.map (·.1)++[Value.slice (zA C) A[k].length A[k].length]=(I++[(Value.slice (zA C) A[k].length A[k].length,done)]).map (·.1):=mV;rw[e7]at F⊢;have el:((I++[(Value.slice (zA C) A[k].length A[k].length,done)]).map (·.1)).length=k+1:=by rw[<-e7,A1d,bk];rfl
  rw[el]at F⊢;have bh:=ax (oN (.slice ad (k+1) ae) (I++[(Value.slice (zA C) A[k].length A[k].length,done)])) b4 F;have bi:Bag b4 (oN (.slice ad (k+1) ae) (I++[(Value.slice (zA C) A[k].length A[k].length,done)])::(I++[(Value.slice (zA C) A[k].length A[k].length,done)]).map C3):=by
   refine Bag.perm ?_ bh;rw[A1i];exact (List.Perm.swap _ _ _).trans (List.Perm.cons _ (A5r (l₁:=[C3 (Value.slice (zA C) A[k].length A[k].length,done)])))
  refine G.i k<|G.b (Q (k+1,I++[(Value.slice (zA C) A[k].length A[k].length,done)],(ad,ae)) _ _ _ cV ((Y.trans l9).trans t) ⟨dV,?_,bi⟩ dV);dsimp only;rw[A1n,H,A1i];exact (hN.mono (l9.trans t)).snoc (q:=Bp D A[k]) (R.mono (fun _ _ h=>h.mono t))
 have:k=A.length:=oV;subst this;rw[A15]at hN;exact G.lF A.length A.length<|G.r (.agg #[.bool db,.slice da dn dc,.slice a5 A.length c5]) ⟨D,⟨db,da,dn,dc⟩,a5,c5,I,X.2.1,X.2.2,a0,rfl,(X.mono (l3.trans Y)).1,hN,ag⟩
section
section
variable {P:Program}
def Ahc {t e ti ts:TypeId}{k:IntKind}(V:P.underlying t=some (.array 2 e))(hi:(P.info? e).isSome=true)(U:P.cellsOf e=2)(j:szB P e=some 2)
 (I:(P.fieldsOf e).toList.map Abc = [(true,ti,0),(true,ts,1)]) (m:P.underlying e=some (.struct (P.fieldsOf e))) (J:P.stoodInHeld e=false) (K:P.underlying ti=some (.int k)) (Q:P.underlying ts=some .string) (d:Nat) (a b:Par×Par) (w:World) :
 (Op.equalIn (d+3) t (prV a) (prV b)).run P w=.ok (decide (a=b)) w:=by
 have h:Qj P e=some true:=by unfold Qj;rw[m]
 obtain⟨i,hi⟩:=A6a.1 hi;unfold prV;rw[run_equalIn_array w (d+2) _ _ V hi,U];obtain⟨⟨a1,a2⟩,a3,u⟩:=a;obtain⟨⟨C,E⟩,F,H⟩:=b;rw[show List.range 2 = [0,1] from rfl];simp only[Op.eqItems,Sem.run_bind,A58,A3i];rw[Jq h j,Result.andThen_ok,Jq h j,Result.andThen_ok];have R:=Qn I m J K Q d (a1,a2) (C,E) w;have T:=Qn I m J K Q d (a3,u) (F,H) w;unfold Ap at R T;have W:(#[Value.int .i64 a1,zS a2,zI a3,zS u].extract 0 (0+2)) = #[zI a1,zS a2]:=rfl;have X:(#[Value.int .i64 C,zS E,zI F,zS H].extract 0 (0+2)) = #[zI C,zS E]:=rfl;have Y:(#[Value.int .i64 a1,zS a2,zI a3,zS u].extract 2 (2+2)) = #[zI a3,zS u]:=rfl;have Z:(#[Value.int .i64 C,zS E,zI F,zS H].extract 2 (2+2)) = #[zI F,zS H]:=rfl;simp only[W,X,R,Result.andThen_ok];by_cases e:((a1,a2):Par)=(C,E)
 ·simp only[e,decide_true,A72,A4z,if_false,Sem.run_bind];rw[Jq h j,Result.andThen_ok,Jq h j,Result.andThen_ok];simp only[Y,Z,T,Result.andThen_ok];by_cases L:((a3,u):Par)=(F,H)
  ·simp[L]
  simp[L]
 simp[e]
def Agq {t e ti ts:TypeId}{k:IntKind}(J:P.underlying t=some (.array 2 e))(h:szB P e=some 2)
 (C:(P.fieldsOf e).toList.map Abc = [(true,ti,0),(true,ts,1)]) (m:P.underlying e=some (.struct (P.fieldsOf e))) (E:P.underlying ti=some (.int k)) (F:P.underlying ts=some .string) (j:Bool) (d:Nat) (a:Par×Par) (w:World) :
 (Instr.checkKey j (d+3) t (prV a)).run P w=.ok () w:=by
 have u:Qj P e=some true:=by unfold Qj;rw[m]
 unfold prV;rw[Instr.checkKey];simp only[Sem.run_bind,run_underlying J,Result.andThen_ok];have H:=Ns C m E F j d a.1 w;have I:=Ns C m E F j d a.2 w;unfold Ap at H I;have K:(#[Value.int .i64 a.1.1,zS a.1.2,zI a.2.1,zS a.2.2].extract 0 (0+2)) = #[zI a.1.1,zS a.1.2]:=rfl;have L:(#[Value.int .i64 a.1.1,zS a.1.2,zI a.2.1,zS a.2.2].extract 2 (2+2)) = #[zI a.2.1,zS a.2.2]:=rfl;simp only[Std.Legacy.Range.forIn_eq_forIn_range',Std.Legacy.Range.size,A6t,Nat.add_one_sub_one,Ba5,show List.range' 0 2 1 = [0,1] from rfl,List.forIn_cons,List.forIn_nil,Sem.run_bind,Bf h,Result.andThen_ok,A58,A3i];rw[Jq u h,Result.andThen_ok,K,H];simp only[Result.andThen_ok,Sem.run_pure,Sem.run_bind,Bf h,A3i];rw[Jq u h,Result.andThen_ok,L,I];simp
end
theorem I1:Zk prog 175 prV :=
 ⟨fun a b w=>Ahc (P:=prog) (t:=175) (e:=118) (ti:=3) (ts:=9) (k:=.i64) kV kV kV kV kV kV kV kV kV 9997 a b w,
  ⟨_,(by kernel_rfl:prog.underlying 175=some (.array 2 118)),.inl fun _ _=>rfl⟩,
  fun e a w=>Agq (P:=prog) (t:=175) (e:=118) (ti:=3) (ts:=9) (k:=.i64) kV kV kV kV kV kV e 9997 a w,Ava,Auq⟩
end
def pw {n:Nat}(h:n<10^30):n<10^100:=A2s h jV
section
variable {F:CF}{K:Nat}{p q:Par}{u:PH}{v:Value}
def Auh (h:p.1<q.1):Bk p q<0:=by
 have e:Q1 p.1 q.1 = -1:=by unfold Q1;rw[if_pos h]
 unfold Bk;rw[e,if_pos fV];decide
def At8 (h:¬ p.1<q.1)(j:p.1≠q.1):¬ Bk p q<0:=by
 have e:Q1 p.1 q.1=1:=by unfold Q1;rw[if_neg h,if_pos oV]
 unfold Bk;rw[e,if_pos fV];decide
def Au3 (h:p.1=q.1):decide (Bk p q<0)=Op.bytesLess p.2 q.2:=by
 have e:Q1 p.1 q.1=0:=by unfold Q1;rw[if_neg oV,if_neg oV]
 unfold Bk;rw[e,if_neg fV];unfold Vj;cases Op.bytesLess p.2 q.2 with
 |true=>rfl
 |false =>
  simp only[A4z,if_false];split<;>rfl
def Fp (p q:Par)(r:Bool)(h:decide (Bk p q<0)=r):zF 113 [Ap p,Ap q] u fun v _=>v=.bool r:=by
 refine Fn0.o func113 ?_;by_cases e:p.1<q.1
 ·refine G.lT' p.1 q.1 e ?_;rw[decide_eq_true (Auh e)]at h;subst h;exact G.z zT
 refine G.lF' p.1 q.1 e ?_;by_cases j:p.1=q.1
 ·rw[Au3 j]at h;refine G.eT' p.1 q.1 j<|G.ltS p.2 q.2 r kV h ?_;cases r with
  |true=>exact G.z zT
  |false=>exact G.z zL
 rw[decide_eq_false (At8 e j)]at h;subst h;exact G.eF' p.1 q.1 j<|G.z zL
def At9 (p:Par)(h:No u v F K)(hK:K<=1000000):zF 137 [v,Ap p] u fun r _=>r=zS (Ae (F.s p)):=by
 obtain⟨T,Q,a1,c1,a2,c2,rfl,hT,hQ,I,Z,kT,kQ⟩:=h;refine Fn0.o func137<|G.l (ι:=Nat) (fun i=>[(3,.p 1 0),(8,sV a1 T.length c1),(9,iV T.length),(10,iV i)]) (fun _=>[(1,⟨118,[iV p.1,tV p.2]⟩)])
  (fun i u' X=>i<=T.length/\(∀ j (m:j<T.length),j<i->(T[j]'m).1≠p)/\X=PH.mt) (fun i=>T.length-i) 0 ⟨oV,fun j m h=>oV,rfl⟩ ?_
 rintro J i R u1 m1 L ⟨hi,h0,rfl⟩;by_cases t:i<T.length
 ·refine G.lT i T.length ?_;have H:T[i]?=some T[i]:=A01 t;have C:=(I.val _ (A09 t)).1;obtain⟨Y,oa,rfl,P⟩:=Ac.at' (hT.mono L) (j:=i) (e:=Bt T[i]) (by simp[H]);refine G.n T.length c1 P ?_;by_cases E:T[i].1=p
  ·exact G.eqAgg 118 #[zI T[i].1.1,zS T[i].1.2] #[zI p.1,zS p.2] true kV kV kV (fun w=>by rw[<-decide_eq_true E];exact Bq.eq T[i].1 p w)<|G.r (zS (Ae T[i].2)) ⟨rfl,by rw[C,E]⟩
  refine G.eqAgg 118 #[zI T[i].1.1,zS T[i].1.2] #[zI p.1,zS p.2] false kV kV kV (fun w=>by rw[<-decide_eq_false E];exact Bq.eq T[i].1 p w)<|G.i i ?_;exact G.b (R (i+1) _ _ _ cV L ⟨oV,fun j m h=>by
   rcases (by omega:j<i\/j=i) with e|rfl
   ·exact h0 j m e
   exact E,rfl⟩ oV)
 obtain rfl:i=T.length:=oV;refine G.lF T.length T.length ?_;have W:F.s p=0:=I.out p fun U=>by
  obtain⟨x,V,e⟩:=A1b.1 U;obtain⟨j,m,rfl⟩:=A2y V;exact h0 j m m e
 exact G.r (zS [48]) ⟨rfl,by rw[W,Fz]⟩
def U2 (p q:Par)(h:No u v F K)(hK:K<=1000000):zF 66 [v,Ap p,Ap q] u fun r _=>r=zS (Ae (F.t (Ay p q))):=by
 obtain⟨T,Q,a1,c1,a2,c2,rfl,hT,hQ,cT,X,kT,kQ⟩:=h;refine Fn0.o func66 ?_;by_cases P:Bk q p<0
 ·rw[show Ay p q=(q,p) by unfold Ay;rw[if_pos ((Et.sym _ _).1 P)]];refine G.c call113 (Fp q p true (decide_eq_true P)) ?_;rintro v0 u0 l0 rfl;refine G.l (ι:=Nat) (fun i=>[(4,.p 1 0),(5,.p 2 0),(15,sV a2 Q.length c2),(16,iV Q.length),(17,iV i)]) (fun _=>[(1,⟨118,[iV q.1,tV q.2]⟩),(2,⟨118,[iV p.1,tV p.2]⟩)])
   (fun i u' m'=>i<=Q.length/\(∀ j (E:j<Q.length),j<i->(Q[j]'E).1≠(q,p))/\m'=PH.mt) (fun i=>Q.length-i) 0 ⟨oV,fun j E h=>oV,rfl⟩ ?_
  rintro J i W u1 m1 V ⟨hi,h0,rfl⟩;by_cases H:i<Q.length
  ·refine G.lT i Q.length ?_;have R:Q[i]?=some Q[i]:=A01 H;have I:=(X.val _ (A09 H)).1;obtain⟨ba,oa,rfl,Y⟩:=Ac.at' (hQ.mono (l0.trans V)) (j:=i) (e:=D8 Q[i]) (by simp[R]);have m:Q[i].1≠(q,p)->∀ j (E:j<Q.length),j<i+1->(Q[j]'E).1≠(q,p):=fun U j E h=>by
    rcases (by omega:j<i\/j=i) with e|rfl
    ·exact h0 j E e
    exact U
   refine G.n Q.length c2 Y ?_;by_cases L:Q[i].1.1=q
   ·refine G.eqAgg 118 #[zI Q[i].1.1.1,zS Q[i].1.1.2] #[zI q.1,zS q.2] true kV kV kV (fun w=>by rw[<-decide_eq_true L];exact Bq.eq Q[i].1.1 q w) ?_;by_cases C:Q[i].1.2=p
    ·exact G.eqAgg 118 #[zI Q[i].1.2.1,zS Q[i].1.2.2] #[zI p.1,zS p.2] true kV kV kV (fun w=>by rw[<-decide_eq_true C];exact Bq.eq Q[i].1.2 p w)<|G.r (zS (Ae Q[i].2)) ⟨rfl,by rw[I,show Q[i].1=(q,p) from A6z L C]⟩
    exact G.eqAgg 118 #[zI Q[i].1.2.1,zS Q[i].1.2.2] #[zI p.1,zS p.2] false kV kV kV (fun w=>by rw[<-decide_eq_false C];exact Bq.eq Q[i].1.2 p w)<|G.i i<|G.b (W (i+1) _ _ _ cV V ⟨oV,m fun e=>C (congrArg Prod.snd e),rfl⟩ oV)
   exact G.eqAgg 118 #[zI Q[i].1.1.1,zS Q[i].1.1.2] #[zI q.1,zS q.2] false kV kV kV (fun w=>by rw[<-decide_eq_false L];exact Bq.eq Q[i].1.1 q w)<|G.i i<|G.b (W (i+1) _ _ _ cV V ⟨oV,m fun e=>L (congrArg Prod.fst e),rfl⟩ oV)
  obtain rfl:i=Q.length:=oV;refine G.lF Q.length Q.length ?_;have hz:F.t (q,p)=0:=X.out (q,p) fun Z=>by
   obtain⟨x,hx,e⟩:=A1b.1 Z;obtain⟨j,E,rfl⟩:=A2y hx;exact h0 j E E e
  exact G.r (zS [48]) ⟨rfl,by rw[hz,Fz]⟩
 rw[show Ay p q=(p,q) by unfold Ay;rw[if_neg fun e=>P ((Et.sym _ _).2 e)]];refine G.c call113 (Fp q p false (decide_eq_false P)) ?_;rintro v0 u0 l0 rfl;refine G.l (ι:=Nat) (fun i=>[(4,.p 1 0),(5,.p 2 0),(15,sV a2 Q.length c2),(16,iV Q.length),(17,iV i)]) (fun _=>[(1,⟨118,[iV p.1,tV p.2]⟩),(2,⟨118,[iV q.1,tV q.2]⟩)])
  (fun i u' m'=>i<=Q.length/\(∀ j (E:j<Q.length),j<i->(Q[j]'E).1≠(p,q))/\m'=PH.mt) (fun i=>Q.length-i) 0 ⟨oV,fun j E h=>oV,rfl⟩ ?_
 rintro J i W u1 m1 V ⟨hi,h0,rfl⟩;by_cases H:i<Q.length
 ·refine G.lT i Q.length ?_;have R:Q[i]?=some Q[i]:=A01 H;have I:=(X.val _ (A09 H)).1;obtain⟨ba,oa,rfl,Y⟩:=Ac.at' (hQ.mono (l0.trans V)) (j:=i) (e:=D8 Q[i]) (by simp[R]);have m:Q[i].1≠(p,q)->∀ j (E:j<Q.length),j<i+1->(Q[j]'E).1≠(p,q):=fun U j E h=>by
   rcases (by omega:j<i\/j=i) with e|rfl
   ·exact h0 j E e
   exact U
  refine G.n Q.length c2 Y ?_;by_cases L:Q[i].1.1=p
  ·refine G.eqAgg 118 #[zI Q[i].1.1.1,zS Q[i].1.1.2] #[zI p.1,zS p.2] true kV kV kV (fun w=>by rw[<-decide_eq_true L];exact Bq.eq Q[i].1.1 p w) ?_;by_cases C:Q[i].1.2=q
   ·exact G.eqAgg 118 #[zI Q[i].1.2.1,zS Q[i].1.2.2] #[zI q.1,zS q.2] true kV kV kV (fun w=>by rw[<-decide_eq_true C];exact Bq.eq Q[i].1.2 q w)<|G.r (zS (Ae Q[i].2)) ⟨rfl,by rw[I,show Q[i].1=(p,q) from A6z L C]⟩
   exact G.eqAgg 118 #[zI Q[i].1.2.1,zS Q[i].1.2.2] #[zI q.1,zS q.2] false kV kV kV (fun w=>by rw[<-decide_eq_false C];exact Bq.eq Q[i].1.2 q w)<|G.i i<|G.b (W (i+1) _ _ _ cV V ⟨oV,m fun e=>C (congrArg Prod.snd e),rfl⟩ oV)
  exact G.eqAgg 118 #[zI Q[i].1.1.1,zS Q[i].1.1.2] #[zI p.1,zS p.2] false kV kV kV (fun w=>by rw[<-decide_eq_false L];exact Bq.eq Q[i].1.1 p w)<|G.i i<|G.b (W (i+1) _ _ _ cV V ⟨oV,m fun e=>L (congrArg Prod.fst e),rfl⟩ oV)
 obtain rfl:i=Q.length:=oV;refine G.lF Q.length Q.length ?_;have hz:F.t (p,q)=0:=X.out (p,q) fun Z=>by
  obtain⟨x,hx,e⟩:=A1b.1 Z;obtain⟨j,E,rfl⟩:=A2y hx;exact h0 j E E e
 exact G.r (zS [48]) ⟨rfl,by rw[hz,Fz]⟩
end
section
variable {F:CF}{N' g:Nat}{q:Rat}{v x:Value}{y1 y3:Bool}{y2 y4:SlI}
section
variable {P:Program} [A6 P] {fn:Func} {Post:Ce} {st:List KI×S} {u m:PH}
theorem Ai1 {e:Operand->Value}{o:Op}{t:TypeId}{L:List (Nat×Value)}(h:Bc P e o=.build t L):∃ j:Array (Nat×Operand),o=.build t j/\j.toList.map (fun x=>(x.1,e x.2))=L:=by
 cases o<;>simp only[Bc]at h<;>try cases h
 any_goals ((repeat' split at h)<;>cases h;done)
 grind
def G.buildArr (t e:TypeId)(p q:Par)(h:Aj P (adv P st)=.build t [(0,Ap p),(1,Ap q)])(R:P.underlying t=some (.array 2 e))(Q:szB P e=some 2)(T:Z0 P t=some (.agg #[zO,zE,zO,zE]))
 (k:G P fn Post (nx (adv P st) (.agg #[zI p.1,zS p.2,zI q.1,zS q.2])) u m):G P fn Post st u m:=by
 refine G.ask h mV (fun C o j w hp=>?_) k;obtain⟨V,H,W⟩:=Ai1 j;obtain⟨J,U,I,pos,after,E⟩:=o;simp only at H;subst H;have L:(V.map fun x=>(x.1,C x.2)).toList = [(0,Ap p),(1,Ap q)]:=by simp_all
 simp only[execOp,Instr.build,Sem.run_bind,Abk T,Result.andThen_ok,run_underlying R,Bf Q,L];rfl
end
def D7 {κ:Type}(enc:κ->Value)(K:κ->Prop)(u:PH)(o:Obj)(f:κ->Rat)(N:Nat):Prop :=
 ∃ l:List (κ×Value),Hu enc o l/\(∀ p∈l,QP u p.2 (f p.1)/\K p.1/\Sz (f p.1) 12)/\(∀ k,k∉l.map (·.1)->f k=0)/\l.length<=N
section
variable {κ:Type} [DecidableEq κ] {enc:κ->Value} {K:κ->Prop} {u:PH} {o:Obj} {f:κ->Rat} {N:Nat}
def D7.mono {j:PH}(h:D7 enc K u o f N)(H:PH.le u j):D7 enc K j o f N:=by
 obtain⟨l,t,e,C,E⟩:=h;exact⟨l,t,fun p hp=>⟨(e p hp).1.mono H,(e p hp).2⟩,C,E⟩
def D7.up (h:D7 enc K u o f N)(E:N<=N'):D7 enc K u o f N':=by
 obtain⟨l,e,j,t,C⟩:=h;exact⟨l,e,j,t,A04 C E⟩
def D7.congr {f':κ->Rat}(h:D7 enc K u o f N)(e:∀ k,f k=f' k):D7 enc K u o f' N:=by
 rw[<-funext e];exact h
def D7.empty:D7 enc K u (.map #[] 0) (fun _=>0) 0:=⟨[],Hu.empty,mV,fun _ _=>rfl,A08 _⟩
theorem D7.put {o':Obj}{a:κ}{x:Value}{q:Rat}{l:List (κ×Value)}(C:Hu enc o l)(E:∀ p∈l,QP u p.2 (f p.1)/\K p.1/\Sz (f p.1) 12)(j:∀ k,k∉l.map (·.1)->f k=0)(H:l.length<=N)
 (h:Hu enc o' (Lr a x l)) (J:QP u x q) (e:K a) (I:Sz q 12):D7 enc K u o' (Nh f a q) (N+1):=by
 refine⟨_,h,fun p hp=>?_,fun k e=>?_,A04 U1 oV⟩
 ·unfold Nh;rcases Ae0 C.nodup hp with rfl|⟨hp,t⟩
  ·grind
  grind
 rw[Aaq,not_or]at e;unfold Nh;rw[if_neg e.1];exact j k e.2
end
def KT {κ:Type}(_:κ):Prop:=True
def KO (k:Par×Par):Prop:=¬ 0<Bk k.1 k.2
theorem KO.pair (p q:Par):KO (Ay p q):=by
 unfold KO Ay;have e:=Et.sym p q;by_cases h:0<Bk p q
 ·grind
 grind
def Kk (m' u:PH)(v:Value)(F:CF)(N:Nat):Prop :=
 ∃ b a n c b' a' n' c' g1 g2 o1 o2,v=.agg #[.bool b,.slice a n c,.bool b',.slice a' n' c',.map (some g1),.map (some g2)]/\QP u (.agg #[.bool b,.slice a n c,.bool b',.slice a' n' c']) F.c/\g1≠g2/\m'=(PH.mt.upd g1 o1).upd g2 o2/\D7 Ap KT u o1 F.s N/\D7 prV KO u o2 F.t N
def R9 (u:PH)(v:Value)(F:CF)(N:Nat):Prop :=
 ∃ b a n c b' a' n' c' g1 g2 o1 o2,v=.agg #[.bool b,.slice a n c,.bool b',.slice a' n' c',.map (some g1),.map (some g2)]/\QP u (.agg #[.bool b,.slice a n c,.bool b',.slice a' n' c']) F.c/\u g1=some o1/\u g2=some o2/\D7 Ap KT u o1 F.s N/\D7 prV KO u o2 F.t N
def R9.mono {u t:PH}{v:Value}{F:CF}{N:Nat}(h:R9 u v F N)(j:PH.le u t):R9 t v F N:=by
 obtain⟨b,a,n,c,b',C,R,E,g1,g2,T,U,e,H,I,J,L,Q⟩:=h;exact⟨b,a,n,c,b',C,R,E,g1,g2,T,U,e,H.mono j,j _ _ I,j _ _ J,L.mono j,Q.mono j⟩
def Kk.grow {t u C:PH}{N:Nat}(h:Kk t u v F N)(j:PH.le u C):Kk t C v F N:=by
 obtain⟨b,a,n,c,b',E,T,H,g1,g2,U,V,e,I,J,L,Q,R⟩:=h;exact⟨b,a,n,c,b',E,T,H,g1,g2,U,V,e,I.mono j,J,L,Q.mono j,R.mono j⟩
def Kk.give {E u t:PH}{N:Nat}(h:Kk E u v F N)(j:PH.le u t)(C:PH.le E t):R9 t v F N:=by
 obtain⟨b,a,n,c,b',H,T,I,g1,g2,U,V,e,J,L,rfl,Q,R⟩:=h;exact⟨b,a,n,c,b',H,T,I,g1,g2,U,V,e,J.mono j,C _ _ (by rw[Ad _ _ L,Ab]),C _ _ (Ab _ _ _),Q.mono j,R.mono j⟩
def Kk.congr {C u:PH}{F j:CF}{N N':Nat}(h:Kk C u v F N)(e:F=j)(t:N<=N'):Kk C u v j N':=by
 subst e;obtain⟨b,a,n,c,b',E,T,H,g1,g2,U,V,e,I,J,L,Q,R⟩:=h;exact⟨b,a,n,c,b',E,T,H,g1,g2,U,V,e,I,J,L,Q.up t,R.up t⟩
def Sw {u:PH}{N:Nat}(h:R9 u v F N):∃ b a n c b' j C t g1 g2,v=.agg #[.bool b,.slice a n c,.bool b',.slice j C t,.map (some g1),.map (some g2)]:=by
 obtain⟨b,a,n,c,b',j,C,t,g1,g2,E,H,e,_⟩:=h;exact⟨b,a,n,c,b',j,C,t,g1,g2,e⟩
def Oe {E u:PH}{N:Nat}(h:Kk E u v F N):∃ b a n c b' j C t g1 g2,v=.agg #[.bool b,.slice a n c,.bool b',.slice j C t,.map (some g1),.map (some g2)]:=by
 obtain⟨b,a,n,c,b',j,C,t,g1,g2,H,I,e,_⟩:=h;exact⟨b,a,n,c,b',j,C,t,g1,g2,e⟩
def Jm {u:PH}{n:Int}(J:-9223372036854775807<=n)(L:n<=9223372036854775807):Ag prog 46 [zI n] u PH.mt fun v V U=>Kk U V v ⟨(n:Rat),fun _=>0,fun _=>0⟩ 0:=by
 refine Ag.o func46<|G.c call22 (P6 J L) ?_;intro Y X W E;obtain⟨b,a,I,c,t,H,C,rfl,_⟩:=E.opn;refine G.mapMk kV ?_;intro g1 Q R;refine G.mapMk kV ?_;intro g2 h T;have j:g1≠g2:=fun e=>by subst e;rw[Ab]at h;cases h
 exact G.r (.agg #[.bool b,.slice a I c,zL,.slice t H C,.map (some g1),.map (some g2)]) ⟨b,a,I,c,false,t,H,C,g1,g2,_,_,rfl,E,j,rfl,D7.empty,D7.empty⟩
theorem Oi {u:PH}{g2:Option Nat}{o:Obj}{f:Par->Rat}{N:Nat}{a:Par}(h:D7 Ap KT u o f N)(Q:QP u x q)(hq:SB q)(hf:SB (f a))(L:SB (q+f a)) :
 Ag prog 109 [.agg #[.bool y1,.slice y2.1 y2.2.1 y2.2.2,.bool y3,.slice y4.1 y4.2.1 y4.2.2,.map (some g),.map g2],Ap a,x] u (Pj g o) fun v u' m'=>∃ o',m'=Pj g o'/\D7 Ap KT u' o' (Nh f a (q+f a)) (N+1):=by
 obtain⟨l,j,t,J,U⟩:=id h;obtain⟨b,Y,n,c,X,n',c',rfl,_⟩:=Q.opn;refine Ag.o func109 ?_;cases hx':Ik a l with
 |none =>
  have a0:f a=0:=J a (M8.1 hx');have e0:q+f a=q:=by grind
  rw[e0]at L⊢;refine G.mapNot (et:=69) Bq fz g o l a kV kV (.inr (Ck _ _)) j hx'<|G.mapPut (et:=69) Bq g o l a (.agg #[.bool b,.slice Y n c,zL,.slice X n' c']) kV kV (Ck _ _) j ?_;intro o' e;exact G.r (.tuple #[]) ⟨o',Dp _ _ _ _,D7.put j t J U e Q trivial L.sz⟩
 |some xv =>
  obtain⟨V,_,_⟩:=t _ (O4 hx');obtain⟨Z,a1,n1,c1,C,R,H,rfl,_⟩:=V.opn;refine G.mapHas (et:=69) Bq fz g o l a (.agg #[.bool Z,.slice a1 n1 c1,zL,.slice C R H]) kV kV (.inr (Ck _ _)) j hx'<|G.c call26 (Pd Q V (hq.sz.mono oV) (hf.sz.mono oV)) ?_;intro v1 u1 l1 W;obtain⟨b2,a2,n2,c2,E,T,I,rfl,_⟩:=W.opn;refine G.mapPut (et:=69) Bq g o l a (.agg #[.bool b2,.slice a2 n2 c2,zL,.slice E T I]) kV kV (Ck _ _) j ?_;intro o' e;exact G.r (.tuple #[]) ⟨o',Dp _ _ _ _,D7.put j (fun p hp=>⟨(t p hp).1.mono l1,(t p hp).2⟩) J U e W trivial L.sz⟩
theorem H7 {u:PH}{g1:Option Nat}{o:Obj}{f:Par×Par->Rat}{N:Nat}{p r:Par}(h:D7 prV KO u o f N)(H:QP u x q)(hq:SB q)(hf:SB (f (Ay p r)))(I:SB (q+f (Ay p r))) :
 Ag prog 110 [.agg #[.bool y1,.slice y2.1 y2.2.1 y2.2.2,.bool y3,.slice y4.1 y4.2.1 y4.2.2,.map g1,.map (some g)],Ap p,Ap r,x] u (Pj g o) fun v u' m'=>∃ o',m'=Pj g o'/\D7 prV KO u' o' (Nh f (Ay p r) (q+f (Ay p r))) (N+1):=by
 obtain⟨b,aa,n,c,a',n',c',rfl,_⟩:=H.opn;refine Ag.o func110 ?_;have W:=KO.pair p r;by_cases E:Bk r p<0
 ·have he:Ay p r=(r,p):=by unfold Ay;rw[if_pos ((Et.sym r p).1 E)]
  rw[he]at hf I W⊢;refine G.c call113 (Fp r p true (decide_eq_true E)) ?_;rintro v0 u0 l0 rfl;obtain⟨l,t,C,T,X⟩:=h.mono l0;have H:=H.mono l0;cases hx':Ik (r,p) l with
  |none =>
   have a0:f (r,p)=0:=T _ (M8.1 hx');have e0:q+f (r,p)=q:=by grind
   rw[e0]at I⊢;refine G.buildArr 175 118 r p kV kV kV kV<|G.mapNot (et:=69) I1 fz g o l (r,p) kV kV (.inr (Ck _ _)) t hx'<|G.mapPut (et:=69) I1 g o l (r,p) (.agg #[.bool b,.slice aa n c,zL,.slice a' n' c']) kV kV (Ck _ _) t ?_;intro o' j;exact G.r (.tuple #[]) ⟨o',Dp _ _ _ _,D7.put t C T X j H W I.sz⟩
  |some xv =>
   obtain⟨Y,_,_⟩:=C _ (O4 hx');obtain⟨b1,a1,n1,c1,J,U,Q,rfl,_⟩:=Y.opn;refine G.buildArr 175 118 r p kV kV kV kV<|G.mapHas (et:=69) I1 fz g o l (r,p) (.agg #[.bool b1,.slice a1 n1 c1,zL,.slice J U Q]) kV kV (.inr (Ck _ _)) t hx'<|G.c call26 (Pd H Y (hq.sz.mono oV) (hf.sz.mono oV)) ?_;intro v1 u1 l1 Z;obtain⟨b2,a2,n2,c2,L,V,R,rfl,_⟩:=Z.opn;refine G.mapPut (et:=69) I1 g o l (r,p) (.agg #[.bool b2,.slice a2 n2 c2,zL,.slice L V R]) kV kV (Ck _ _) t ?_;intro o' j;exact G.r (.tuple #[]) ⟨o',Dp _ _ _ _,D7.put t (fun p hp=>⟨(C p hp).1.mono l1,(C p hp).2⟩) T X j Z W I.sz⟩
 have he:Ay p r=(p,r):=by unfold Ay;rw[if_neg (fun e=>E ((Et.sym r p).2 e))]
 rw[he]at hf I W⊢;refine G.c call113 (Fp r p false (decide_eq_false E)) ?_;rintro v0 u0 l0 rfl;obtain⟨l,t,C,T,X⟩:=h.mono l0;have H:=H.mono l0;cases hx':Ik (p,r) l with
 |none =>
  have a0:f (p,r)=0:=T _ (M8.1 hx');have e0:q+f (p,r)=q:=by grind
  rw[e0]at I⊢;refine G.buildArr 175 118 p r kV kV kV kV<|G.mapNot (et:=69) I1 fz g o l (p,r) kV kV (.inr (Ck _ _)) t hx'<|G.mapPut (et:=69) I1 g o l (p,r) (.agg #[.bool b,.slice aa n c,zL,.slice a' n' c']) kV kV (Ck _ _) t ?_;intro o' j;exact G.r (.tuple #[]) ⟨o',Dp _ _ _ _,D7.put t C T X j H W I.sz⟩
 |some xv =>
  obtain⟨Y,_,_⟩:=C _ (O4 hx');obtain⟨b1,a1,n1,c1,J,U,Q,rfl,_⟩:=Y.opn;refine G.buildArr 175 118 p r kV kV kV kV<|G.mapHas (et:=69) I1 fz g o l (p,r) (.agg #[.bool b1,.slice a1 n1 c1,zL,.slice J U Q]) kV kV (.inr (Ck _ _)) t hx'<|G.c call26 (Pd H Y (hq.sz.mono oV) (hf.sz.mono oV)) ?_;intro v1 u1 l1 Z;obtain⟨b2,a2,n2,c2,L,V,R,rfl,_⟩:=Z.opn;refine G.mapPut (et:=69) I1 g o l (p,r) (.agg #[.bool b2,.slice a2 n2 c2,zL,.slice L V R]) kV kV (Ck _ _) t ?_;intro o' j;exact G.r (.tuple #[]) ⟨o',Dp _ _ _ _,D7.put t (fun p hp=>⟨(C p hp).1.mono l1,(C p hp).2⟩) T X j Z W I.sz⟩
end
end Go.Proofs.YtemmheaocgmebaaGreatDoor
