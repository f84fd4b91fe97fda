/- Parts of one proof, joined by a program. -/
import Derived.Test.YtemmheaocgmebaaGreatDoorS07
import Derived.RangeFuncSeq
import Derived.RangeFuncGives
import Derived.RangeFuncIn
import Derived.OrdersIn
import Derived.OwnWalkIn
import Derived.ChangeKeysEq
set_option linter.defProp false
set_option linter.unusedVariables false
set_option linter.unusedSimpArgs false
set_option linter.unusedSectionVars false
set_option maxHeartbeats 16000000
namespace Go.Proofs.YtemmheaocgmebaaGreatDoor
open Go.Proofs.Tryz
open Go.RowKit Go.MapKept
def A9x:=@List.mem_of_mem_erase
def A3a:=@List.erase_cons_head
def A5e:=@List.erase_cons_tail
def A5l:=@List.ext_getElem
section
variable {A T post:zK}{i x y:Nat}{listed:Array Bool}{o:Oper}{s s0:S}
variable [Cl] [Co]
section
variable {P:Program} {id:Nat} {ops:Array Oper} {dr:Bool} {Fin:S->PH->PH->Prop} {c:Cx} {Q:Exit->Act->World->Prop}
def Ob.append {l2:zK}:∀ {e:zK} {s:S} {u m:PH},Ob P id ops dr (fun s u m=>Ob P id ops dr Fin l2 s u m) e s u m->Ob P id ops dr Fin (e++l2) s u m
 |[],s,u,m,h=>by
  cases h with
  |nil h=>exact h
 |i::e,s,u,m,h=>by
  cases h with
  |auto ho hg hd he hl=>exact .auto ho hg hd he hl.append
  |skip ho hg hd hl=>exact .skip ho hg hd hl.append
  |ask ho hg hd hv hs hal hw hl=>exact .ask ho hg hd hv hs hal hw hl.append
  |big ho hg hd hv hs hf hk hw hl=>exact .big ho hg hd hv hs hf hk hw fun v E C j t=>(hl v E C j t).append
def Ob.fin {e:S->PH->PH->Prop}(j:∀ s u m,Fin s u m->e s u m):∀ {l:zK} {s:S} {u m:PH},Ob P id ops dr Fin l s u m->Ob P id ops dr e l s u m
 |[],s,u,m,h=>by
  cases h with
  |nil h=>exact .nil (j _ _ _ h)
 |i::l1,s,u,m,h=>by
  cases h with
  |auto ho hg hd he hl=>exact .auto ho hg hd he (hl.fin j)
  |skip ho hg hd hl=>exact .skip ho hg hd (hl.fin j)
  |ask ho hg hd hv hs hal hw hl=>exact .ask ho hg hd hv hs hal hw (hl.fin j)
  |big ho hg hd hv hs hf' hk hw hl=>exact .big ho hg hd hv hs hf' hk hw fun v F E t C=>(hl v F E t C).fin j
structure Km (ops:Array Oper)(listed:Array Bool)(T:zK):Prop where
 sz:listed.size=ops.size
 mem:∀ i,i<ops.size->(listed.getD i true=false↔i∈T)
 lt:∀ i∈T,i<ops.size
 nd:T.Nodup
 cl:Ag7 ops listed
theorem Tz :i∈Region.ready .any ops listed↔i<ops.size/\listed.getD i true=false/\∃ o,ops[i]?=some o/\∀ e∈o.after,Region.binds .any e=true->listed.getD e.on false=true:=by
 simp only[Region.ready,A7a,A6q,A1m,A3w];refine and_congr_right fun hi=>and_congr_right fun _=>?_;have h:ops[i]?=some ops[i]:=A2v hi;rw[h];simp only[A4c,A4w,Bab];constructor
 ·grind
 grind
theorem Km.no (h:Km ops listed T)(t:x∈T):listed.getD x false=true->False:=by
 intro e;have j:=h.lt x t;have:=(h.mem x j).2 t;have C:x<listed.size:=by grind
 simp only[A2t,A2v C,A4w]at e this;rw[this]at e;cases e
theorem Km.next {A B:zK}(h:Km ops listed (A++i::B))(Y:ops[i]?=some o)(U:∀ e∈o.after,Region.binds .any e=true->listed.getD e.on false=true):Km ops (listed.setIfInBounds i true) (A++B):=by
 obtain⟨L,hT,H,X,I⟩:=h;have E:(A++B).Nodup/\i∉A++B:=by grind
 refine⟨by simpa using L,fun j C=>?_,fun j C=>H j ?_,E.1,?_⟩
 ·by_cases t:j=i
  ·simp_all
  have:=hT j C;simp only[A2t,A2m (fun h=>t h.symm)]at this⊢;rw[this];simp[t]
 ·grind
 intro j C o' K e W V;have F:∀ k,listed.getD k false=true->(listed.setIfInBounds i true).getD k false=true:=by
  intro k R;by_cases J:k=i
  ·grind
  simp only[A2t,A2m (fun h=>J h.symm)]at R⊢;exact R
 by_cases t:j=i
 ·grind
 refine F _ (I j ?_ o' K e W V);simp only[A2t,A2m (fun h=>t h.symm)]at C⊢;exact C
def Km.swaps (h:Km ops listed T)(H:∀ x∈A,x∈T)(J:ops[i]?=some o)(E:∀ e∈o.after,Region.binds .any e=true->listed.getD e.on false=true)(I:∀ x∈A,Ge ops s0 x i=true):∀ x∈A,Aga ops s0 x i=true:=by
 intro x F;have hp:=I x F;unfold Ge at hp;simp only[A1m,A4b]at hp;have C:∀ o',ops[i]?=some o'->∀ e∈o'.after,Region.binds .any e=true->listed.getD e.on false=true:=fun o' t=>by rw[J]at t;obtain rfl:=A28 t;exact E
 rcases hp.2 with (j|j)|j
 ·exact (h.no (H x F) (Xi C j)).elim
 ·exact j
 exact (h.no (H x F) (Ib h.cl ops.size i C j)).elim
def Km.any {s0:S}(e:On s0)(t:(List.range ops.size).all (Kd ops)=true)(hF:∀ s u m ρ a w,Fin s u m->Rel c s u m ρ a w->Q .normal a w){n:Nat}{T:zK}{listed:Array Bool}{s:S}{u m:PH}{ρ:Nat->Nat}{a:Act}{w:World}(h:Km ops listed T)(F:T.length=n)
 (E:T.Pairwise (fun x y=>Ge ops s0 x y=true)) (j:Gb ops s0 s) (C:Ob P id ops true Fin T s u m) (H:Rel c s u m ρ a w):Go.wpAny P .any ops Q n listed a w :=
 Ob.wpAny e t hF n T listed F h.sz h.mem h.lt h.nd h.cl E j C H
def Km.perm {T e:zK}(h:Km ops listed T)(hp:T.Perm e):Km ops listed e :=
 ⟨h.sz,fun i hi=>(h.mem i hi).trans hp.mem_iff,fun i hi=>h.lt i (hp.mem_iff.2 hi),hp.nodup_iff.1 h.nd,h.cl⟩
theorem Km.first {t:Nat}(h:Km ops listed (t::T))(F:(List.range ops.size).all (Kd ops)=true)(R:∀ x∈T,dir ops t x=false):t∈Region.ready .any ops listed:=by
 have hp:=h.lt t mV;refine Tz.2 ⟨hp,(h.mem t hp).2 mV,ops[t],A2v hp,fun e J H=>?_⟩;rw[A1o]at F;have j:=F t (by simpa using hp);unfold Kd at j;rw[A2v hp]at j;simp only[A1o]at j;have:=j e (by simpa using J);simp only[H,A72,A80,A1m]at this;have C:e.on<ops.size:=A8f▸this.1;have L:e.on≠t:=fun h=>by rw[h]at this;simp at this
 have I:dir ops t e.on=true:=by
  unfold dir;rw[A2v hp];simp only[A5h,A1m];exact⟨e,by simpa using J,H,mV⟩
 cases hl:listed.getD e.on true with
 |true =>
  have K:e.on<listed.size:=by have:=h.sz;omega
  simp only[A2t,A2v K]at hl⊢;exact hl
 |false =>
  have E:=(h.mem e.on C).1 hl;rcases A1g.1 E with E|E
  ·grind
  grind
def Gq (h:Ge ops s0 x y=true):dir ops x y=false:=by
 unfold Ge at h;simp only[A1m,A3w]at h;exact h.1.1
def Qh (P:Program)(id:Nat)(ops:Array Oper)(post:zK)(Fin:S->PH->PH->Prop):Nat->zK->S->PH->PH->Prop
 |0,_,s,u,m=>Ob P id ops true Fin post s u m
 |n+1,A,s,u,m=>∀ a∈A,(∀ b∈A,b≠a->bef ops ops.size a b=false)->Ob P id ops true (Qh P id ops post Fin n (A.erase a)) [a] s u m
theorem Ob.wpAnyT (R:On s0)(hE:(List.range ops.size).all (Kd ops)=true)(hF:∀ s u m ρ a w,Fin s u m->Rel c s u m ρ a w->Q .normal a w){post A0:zK}(a0:∀ y∈post,∀ a∈A0,bef ops ops.size y a=true)(a5:∀ a∈A0,∀ y∈post,dir ops a y=false) :
 ∀ (n k:Nat) (A pre:zK) (listed:Array Bool) {s:S} {u m:PH} {ρ:Nat->Nat} {a:Act} {w:World},A.length=k->(∀ x∈A,x∈A0)->A.Pairwise (fun x y=>dir ops x y=false)->pre.length+(k+post.length)=n->Km ops listed (pre++(A++post)) ->
  (pre++post).Pairwise (fun x y=>Ge ops s0 x y=true)->(∀ x∈pre,∀ y∈A,Ge ops s0 x y=true)->Gb ops s0 s->Ob P id ops true (Qh P id ops post Fin k A) pre s u m->Rel c s u m ρ a w->Go.wpAny P .any ops Q n listed a w:=by
 intro n;induction n with
 |zero =>
  intro k A pre listed s u m ρ a w Z L W U j hP J H hO hr;obtain rfl:k=0:=oV;obtain rfl:=A2l Z;exact j.any R hE hF (by simp only[A1d,A30];omega) hP H (Ob.append hO) hr
 |succ n ih =>
  intro k A pre listed s u m ρ a w Z L W U j hP J H hO hr;cases A with
  |nil =>
   simp at Z;subst Z;exact j.any R hE hF gV hP H (Ob.append hO) hr
  |cons b A' =>
   obtain⟨k,rfl⟩:∃ k',k=k'+1:=⟨k-1,by simp at Z;omega⟩;refine⟨fun V=>?_,fun i hi=>?_⟩
   ·cases pre with
    |nil =>
     have:=Km.first (t:=b) (T:=A'++post) j hE fun x E=>by
      rcases A1h.1 E with E|E
      ·simp_all
      grind
     rw[V]at this;cases this
    |cons t T' =>
     have:=Km.first (t:=t) (T:=T'++(b::A'++post)) j hE fun x E=>by
      rcases A1h.1 E with E|E
      ·exact Gq (A34 hP (by simp[E]))
      rcases A1h.1 E with E|E
      ·exact Gq (J t mV x E)
      exact Gq (A34 hP (by simp[E]))
     rw[V]at this;cases this
   obtain⟨h1,h2,o,ho,F⟩:=Tz.1 hi;have I:=(j.mem i h1).1 h2;rcases A1h.1 I with I|I
   ·obtain⟨A1,B1,rfl⟩:=A6k I;have C:Km ops listed (A1++i::(B1++(b::A'++post))):=by grind
    have a2:(A1++i::(B1++post)).Pairwise (fun x y=>Ge ops s0 x y=true):=by grind
    have a1:=C.swaps (A:=A1) (s0:=s0) (fun x E=>by simp[E]) ho F fun x E=>(A35.1 a2).2.2 x E i mV;have X:=Ob.bubble R A1 a1 hr.lv H hO;refine wpOp_mono (fun a' w' ⟨s',u',m',ρ',r1,ra,r2⟩=>?_) (X.step (Q:=Q) hr);refine ih (k+1) (b::A') (A1++B1) _ Z L W (by simp at U⊢;omega) (by rw[A2k];exact C.next ho F) ?_ (fun x E y hy=>J x (by simp at E⊢;rcases E with h|h<;>simp[h]) y hy) (H.trans ra) r2 r1
    rw[A2k];exact a2.sublist (List.Sublist.append_left (List.sublist_cons_self i _) A1)
   rcases A1h.1 I with I|I
   ·have a4:(pre++(b::A'++post)).Perm (pre++i::((b::A').erase i++post)):=by
     refine List.Perm.append_left pre ?_;rw[<-A4x];exact (List.perm_cons_erase I).append_right post
    have C:=j.perm a4;have a1:=C.swaps (A:=pre) (s0:=s0) (fun x E=>by simp[E]) ho F fun x E=>J x E i I;have Y:∀ b'∈b::A',b'≠i->bef ops ops.size i b'=false:=fun b' a3 a6=>by
     cases e:bef ops ops.size i b' with
     |false=>rfl
     |true=>exact (j.no (x:=b') (by simp at a3⊢;rcases a3 with h|h<;>simp[h]) (Ib j.cl ops.size i (fun o' K=>by rw[ho]at K;obtain rfl:=A28 K;exact F) e)).elim
    have X:=Ob.bubble (B:=[]) R pre a1 hr.lv H (Ob.append (l2:=[i]) (hO.fin fun s u m h=>h i I Y));refine wpOp_mono (fun a' w' ⟨s',u',m',ρ',r1,ra,r2⟩=>?_) (X.step (Q:=Q) hr);rw[A1x]at r2;exact ih k ((b::A').erase i) pre _ (by rw[List.length_erase_of_mem I];simp at Z⊢;omega) (fun x E=>L x (A9x E)) (W.sublist List.erase_sublist) oV (C.next ho F) hP (fun x E y hy=>J x E y (A9x hy)) (H.trans ra) r2 r1
   exfalso;exact j.no (x:=b) mV (Ib j.cl ops.size i (fun o' K=>by rw[ho]at K;obtain rfl:=A28 K;exact F) (a0 i I b (L b mV)))
def Akn (ops:Array Oper):zK->Bool
 |[]=>true
 |x::l=>l.all (fun y=>!dir ops x y)&&Akn ops l
def W6:∀ {l:zK},Akn ops l=true->l.Pairwise (fun x y=>dir ops x y=false)
 |[],_=>.nil
 |x::l,h=>by
  unfold Akn at h;rw[A1m,A1o]at h;exact .cons (fun y e=>by simpa using h.1 y e) (W6 h.2)
def Alo (ops:Array Oper)(s:S)(pre A post:zK):Bool :=
 Nat.beq (pre.length+(A.length+post.length)) ops.size&&(List.range ops.size).all (fun i=>(pre++(A++post)).contains i)&&(pre++(A++post)).all (fun i=>Nat.blt i ops.size)&&decide ((pre++(A++post)).Nodup)&&Qp ops s (pre++post) &&
  pre.all (fun x=>A.all fun y=>Ge ops s x y)&&Akn ops A&&(List.range ops.size).all (Kd ops)&&post.all (fun y=>A.all fun a=>bef ops ops.size y a)&&A.all (fun a=>post.all fun y=>!dir ops a y)
def Ob.uncons {l:zK}{u m:PH}(h:Ob P id ops dr Fin (i::l) s u m):Ob P id ops dr (fun s u m=>Ob P id ops dr Fin l s u m) [i] s u m:=by
 cases h with
 |auto ho hg hd he hl=>exact .auto ho hg hd he (.nil hl)
 |skip ho hg hd hl=>exact .skip ho hg hd (.nil hl)
 |ask ho hg hd hv hs hal hw hl=>exact .ask ho hg hd hv hs hal hw (.nil hl)
 |big ho hg hd hv hs hf hk hw hl=>exact .big ho hg hd hv hs hf hk hw fun v C t e j=>.nil (hl v C t e j)
def Qh.one {u m:PH}(h:Ob P id ops true Fin (x::post) s u m):Qh P id ops post Fin 1 [x] s u m:=fun a e _=>by
 obtain rfl:a=x:=by simpa using e
 rw[A3a];exact h.uncons
def Qh.two {u m:PH}(h:Ob P id ops true Fin (x::y::post) s u m)(j:bef ops ops.size y x=false->Ob P id ops true Fin (y::x::post) s u m):Qh P id ops post Fin 2 [x,y] s u m:=fun a t C=>by
 by_cases e:a=x
 ·subst e;rw[A3a];exact h.uncons.fin fun _ _ _ h=>.one h
 obtain rfl:a=y:=by simpa[e] using t
 rw[A5e (by simpa using fun h=>e h.symm),A3a];exact (j (C x mV fun h=>e h.symm)).uncons.fin fun _ _ _ h=>.one h
def Ru (P:Program)(id:Nat)(ops:Array Oper):zK->S->Option S
 |[],s=>some s
 |i::l,s=>match ops[i]? with
  |some o=>match Fb s o with
   |true=>match gv s ops o with
    |some true=>match eff P (id*1000+i) s o.op with
     |some (x,hw)=>Ru P id ops l ((s.put o.dst x).setb hw)
     |none=>none
    |some false=>Ru P id ops l (s.put o.dst (.v undef))
    |none=>none
   |false=>none
  |none=>none
def Ob.autos:∀ {l:zK} {s e:S} {u m:PH},Ru P id ops l s=some e->Fin e u m->Ob P id ops dr Fin l s u m
 |[],s,e,u,m,h,hf=>by
  unfold Ru at h;cases h;exact .nil hf
 |i::l,s,e,u,m,h,hf=>by
  unfold Ru at h;split at h
  ·rename_i o ho;split at h
   ·rename_i hd;split at h
    ·rename_i hg;split at h
     ·rename_i x hw he;exact .auto ho hg hd he (Ob.autos h hf)
     cases h
    ·rename_i hg;exact .skip ho hg hd (Ob.autos h hf)
    cases h
   cases h
  cases h
end
section
variable {P:Program} {fn:Func} {Post:Ce}
theorem Sym.reg_tree (Z:P.follows .mixedOrders=true){id:Nat}{ops:Array Oper}{pre A post:zK}{s:S}(F:Alo ops s pre A post=true){k:List KI}{u m:PH}
 (h:Ob P id ops true (Qh P id ops post (Hm P fn Post k) A.length A) pre s u m):Hm P fn Post (.code (.region id ops true)::k) s u m:=by
 intro c ρ a w I t;unfold Alo at F;simp only[A1m]at F;obtain⟨⟨⟨⟨⟨⟨⟨⟨⟨C,R⟩,J⟩,E⟩,U⟩,K⟩,V⟩,W⟩,L⟩,e⟩:=F;have C:=A1y C;rw[A1o]at R J K L e;have E:=of_decide_eq_true E;refine wp_region_any Z ?_;refine Ob.wpAnyT (c:=c) (A0:=A) t.lv W (fun s u m ρ a w X t=>X c ρ a w I t) (fun y j a H=>by have:=L y j;rw[A1o]at this;exact this a H) (fun a H y j=>by have:=e a H;rw[A1o]at this;simpa using this y j) _ A.length A pre _ rfl (fun _ h=>h) (W6 V) C
  ⟨mV,fun i hi=>?_,fun i hi=>A8f▸J i hi,E,fun i hi=>?_⟩ (G0 U) (fun x hx y j=>by have:=K x hx;rw[A1o]at this;exact this y j) (Gb.refl _ _) h t.drew
 ·simp_all
 simp only[A2t]at hi;by_cases Y:i<ops.size
 ·grind
 grind
def Aw2 (P:Program)(pre:zK)(p q:Nat)(post:zK)(st:List KI×S):Bool:=match st with
 |(.code (.region id ops true)::k,s)=>Alo ops s pre [p,q] post&&(Ru P id ops pre s).isSome
 |_=>false
def Akz (P:Program)(pre l:zK)(st:List KI×S):List KI×S:=match st with
 |(.code (.region id ops true)::k,s)=>match Ru P id ops pre s with
  |some s'=>(.reg id ops true l::k,s')
  |none=>st
 |_=>st
end
section rules
variable {P:Program} [A6 P] {fn:Func} {Post:Ce} {st:List KI×S} {u m:PH}
def G.both (pre:zK)(p q:Nat)(post:zK)(h:Aw2 P pre p q post (adv P st)=true)(t:G P fn Post (Akz P pre (p::q::post) (adv P st)) u m)(C:G P fn Post (Akz P pre (q::p::post) (adv P st)) u m):G P fn Post st u m:=by
 refine G.stp ⟨?_⟩;generalize adv P st=st' at h t C;unfold Aw2 at h;split at h
 ·rename_i id ops k s;rw[A1m]at h;obtain⟨E,F⟩:=h;obtain⟨H,j⟩:=A6a.1 F;have e:∀ l,Akz P pre l (.code (.region id ops true)::k,s)=(.reg id ops true l::k,H):=fun l=>by unfold Akz;simp only[j]
  rw[e]at t C;exact Sym.reg_tree A6.mx E (Ob.autos j (.two t.out fun _=>C.out))
 cases h
end rules
end
section
variable {a:Act}{i:Nat}{o:Oper}{s:S}{w w':World}
structure Aoh (F:Fence):Prop where
 fn:∀ f,F.fn f
 dep:F.depth.isSome=false
 calls:∀ {P:Program} {f:FuncId} {args:Array Value} {w:World} {R:Ending->World->Prop},Calls P f args w R->CallsIn F 0 P f args w R
def Tf:Aoh Fence.wide:=⟨fun _=>trivial,rfl,fun h=>callsIn_wide.2 h⟩
def Aju (l:Nat):Aoh (Fence.wide.inRound l):=⟨fun _=>trivial,rfl,fun h=>(callsIn_wide (n:=0)).2 h⟩
def Ak1:Op->Bool
 |.defer _=>true
 |_=>false
def M3 (ops:Array Oper):Bool:=ops.toList.all fun o=>!Ak1 o.op
def Mo {ops:Array Oper}(h:M3 ops=true)(j:ops[i]?=some o):∀ c,o.op≠.defer c:=fun c e=>by
 unfold M3 at h;rw[A1o]at h;have:=h o (Array.mem_toList_iff.2 (Array.mem_of_getElem? j));rw[e]at this;simp[Ak1]at this
section
variable {P:Program} {id:Nat} {ops:Array Oper} {dr:Bool} {Fin:S->PH->PH->Prop} {c:Cx} {Q:Exit->Act->World->Prop} {F:Fence}
def Aas {y:Value}{K:Act->World->Prop}(hF:Aoh F)(j:∀ c,o.op≠.defer c)(h:Ay2 P a o w y w')(e:K (a.put o.dst y) w'):o.wpIn F 0 P a w K Q:=by
 refine⟨fun f _=>hF.fn f,?_⟩;rw[Oper.semAt_plain F _ _ j];rcases h with h|⟨h,rfl⟩<;>rw[h]<;>exact e
theorem Aoy {a:Act}{o:Oper}{w:World}{s:S}{u m:PH}{ρ:Nat->Nat}{K:Value->World->Prop}{t:Act->World->Prop}(hF:Aoh F)(I:∀ c,o.op≠.defer c)(J:Rel c s u m ρ a w)(R:Kl s o.op=true)(L:Ix o.op=true)
 (h:Eg P (C2 s) o w K) (j:∀ v w',K v w'->t (a.put o.dst v) w'):o.wpIn F 0 P a w t Q:=by
 refine⟨fun f _=>hF.fn f,?_⟩;rw[Oper.semAt_plain F _ _ I,Hw J (Gv L) R];unfold Eg at h;split at h
 ·rename_i v w' e;rw[e];exact j _ _ h
 ·rename_i w' e;rw[e];exact j _ _ h
 ·rename_i f args w' e;rw[e];refine⟨fun C=>(by rw[hF.dep]at C;cases C),hF.calls (Calls.mono h fun U T H=>?_)⟩;obtain⟨v,rfl,E⟩:=H;exact j _ _ E
 grind
def Rel.after {u m C t:PH}{ρ:Nat->Nat}(j:Rel c s u m ρ a w)(g1:Bv C t w')(g2:B0 u m w C t w'){d:Option Nat}(R:∀ e,d=some e->e<s.n)(v:Value):Rel c (s.put d (.v v)) C t ρ (a.put d v) w':=by
 refine Rel.put (x:=.v v) ?_ (fun _=>rfl) mV R;refine⟨j.sz,j.tm,j.df.of fun r e _ T I=>⟨by rw[g2.old _ (Aw e) I];exact e,by rw[g2.us _ (Aw e)];exact T,g2.ms _ (Aw e) I⟩,fun k b L=>?_,j.inj,j.lv,g1,j.gr.trans g2⟩;obtain⟨E,J,K,H⟩:=j.box k b L;have h:ρ k<w.heap.size:=by obtain⟨cs,e,_⟩:=E;exact Aw e
 refine⟨?_,J,?_,?_⟩
 ·rw[g2.old _ h H];exact E
 ·rw[g2.us _ h];exact K
 exact g2.ms _ h H
def Ob.wpOpsIn (hF:Aoh F)(j:M3 ops=true){rest:zK}(e:∀ s u m ρ a w,Fin s u m->Rel c s u m ρ a w->Go.wpOpsIn F 0 P ops Q rest a w) :
 ∀ {l:zK} {s:S} {u m:PH} {ρ:Nat->Nat} {a:Act} {w:World},Ob P id ops dr Fin l s u m->Rel c s u m ρ a w->Go.wpOpsIn F 0 P ops Q (l++rest) a w
 |[],s,u,m,ρ,a,w,h,hr=>by
  cases h with
  |nil h=>exact e _ _ _ _ _ _ h hr
 |i::l,s,u,m,ρ,a,w,h,hr=>by
  rw[A4x,wpOpsIn_cons];cases h with
  |auto ho hg hd he hl =>
   simp only[wpOpIn,ho,Ey hr hg,if_true];obtain⟨J,w',y,C,E⟩:=Aav (P:=P) hr he (Lg hd);exact Aas hF (Mo j ho) C (Ob.wpOpsIn hF j e hl E)
  |skip ho hg hd hl =>
   simp only[wpOpIn,ho,Ey hr hg,if_false,A4z];exact⟨fun f _=>hF.fn f,Ob.wpOpsIn hF j e hl (hr.put (x:=.v undef) (fun _=>rfl) mV (Lg hd))⟩
  |ask ho hg hd hv hs hal hw hl =>
   simp only[wpOpIn,ho,Ey hr hg,if_true];refine Aas hF (Mo j ho) (.inl ?_) (Ob.wpOpsIn hF j e hl (hr.put (fun _=>rfl) mV (Lg hd)));rw[Hw hr (Gv hs) hv];exact hw w (fun _=>⟨hr.gd.pu,fun _=>hr.gd.pm⟩)
  |big ho hg hd hv hs hf hk hw hl =>
   simp only[wpOpIn,ho,Ey hr hg,if_true];refine Aoy hF (Mo j ho) hr hv hs (hw w hr.gd) fun v w' ⟨I,H,g1,g2,t⟩=>?_;exact Ob.wpOpsIn hF j e (hl v I H (g2.le hr.gd.pu) t) (hr.after g1 g2 (Lg hd) v)
end
def yv (s:S)(ops:Array Oper)(i:Nat):Option (Nat×zV):=match ops[i]? with
 |some o=>match Fb s o&&(Kl s o.op&&Ix o.op) with
  |true=>match gv s ops o with
   |some true=>match o.op with
    |.call c=>match c.callee with
     |.value f=>match C2 s f with
      |.func (.yield l) first cap=>some (l,first.toList++c.args.toList.map (C2 s))
      |_=>none
     |_=>none
    |_=>none
   |_=>none
  |false=>none
 |none=>none
def ysk (s:S)(ops:Array Oper)(i:Nat):Bool:=match ops[i]? with
 |some o=>match Fb s o with
  |true=>match gv s ops o with
   |some false=>true
   |_=>false
  |false=>false
 |none=>false
def Acq (P:Program)(l:Nat)(args:zV)(u m:PH)(K:Value->PH->PH->Prop):Prop :=
 ∀ w,Bv u m w->YieldAt Fence.wide 0 P l args.toArray w fun e w'=>∃ v u' m',e=.returned v/\Bv u' m' w'/\B0 u m w u' m' w'/\K v u' m'
theorem Ate {ops:Array Oper}{i l:Nat}{args:zV}(h:yv s ops i=some (l,args)):∃ o,ops[i]?=some o/\gv s ops o=some true/\Fb s o=true/\Kl s o.op=true/\Ix o.op=true /\
 ∀ (P:Program) (w:World),(execOp (C2 s) o).run P w=(Instr.yield l args.toArray).run P w:=by
 unfold yv at h;split at h
 ·rename_i o ho;split at h
  ·rename_i hc;simp only[A1m]at hc;split at h
   ·rename_i hg;split at h
    ·rename_i c hop;split at h
     ·rename_i f hcal;split at h
      ·rename_i l' first cap he
       obtain⟨rfl,rfl⟩:=h;refine⟨o,ho,hg,hc.1,hc.2.1,hc.2.2,fun P w=>?_⟩;obtain⟨t,E,j,pos,after,e⟩:=o;simp only at hop;subst hop;have C:(first.toList++c.args.toList.map (C2 s)).toArray=first++c.args.map (C2 s):=by grind
       rw[C];simp[execOp,resolve,hcal,he,Deferred.ofValue,invoke]
      cases h
     cases h
    cases h
   cases h
  cases h
 cases h
theorem Arg {ops:Array Oper}(h:ysk s ops i=true):∃ o,ops[i]?=some o/\gv s ops o=some false/\Fb s o=true:=by
 unfold ysk at h;split at h
 ·grind
 cases h
def yB (pre:zK)(i:Nat)(post:zK)(st:List KI×S):Bool:=match st.1 with
 |.code (.region _ ops false)::_=>Nat.beq ops.size (pre.length+1+post.length)&&(List.range ops.size).zipIdx.all (fun x=>(pre++i::post)[x.2]? == some x.1)&&M3 ops
 |_=>false
def Azg (st:List KI×S):Array Oper:=match st.1 with
 |.code (.region _ ops false)::_=>ops
 |_=>#[]
def yS (pre:zK)(J:S->PH->PH->Prop)(st:List KI×S):List KI×S:=match st.1 with
 |.code (.region id ops false)::k=>(.reg id ops false pre::.lp J::k,st.2)
 |_=>st
def Alw (i:Nat)(post:zK)(st:List KI×S)(s:S)(v:Value):List KI×S:=match st.1 with
 |.code (.region id ops false)::k=>match ops[i]? with
  |some o=>(.reg id ops false post::k,s.put o.dst (.v v))
  |none=>st
 |_=>st
section rules
variable {P:Program} [A6 P] {fn:Func} {Post:Ce} {st:List KI×S} {u m:PH}
def G.yreg (pre:zK)(i:Nat)(t:zK)(h:yB pre i t (Ff P 200 st)=true)
 (kk:∀ J:S->PH->PH->Prop,
  (∀ E R T,ysk E (Azg (Ff P 200 st)) i=true->G P fn Post (Alw i t (Ff P 200 st) E undef) R T->J E R T) ->
  (∀ E R T l args (K:Value->PH->PH->Prop),yv E (Azg (Ff P 200 st)) i=some (l,args)->Acq P l args R T K->(∀ v C I,PH.le R C->K v C I->G P fn Post (Alw i t (Ff P 200 st) E v) C I)->J E R T) ->
  G P fn Post (yS pre J (Ff P 200 st)) u m):G P fn Post st u m:=by
 refine⟨Mq 200 st ?_⟩;generalize Ff P 200 st=st' at h kk;obtain⟨ks,s⟩:=st';unfold yB at h;simp only at h;split at h
 ·rename_i id ops k;simp only[A1m]at h;obtain⟨⟨h1,Z⟩,U⟩:=h;have hl:List.range ops.size=pre++i::t:=by
   refine A4g fun j=>?_;rw[A1o]at Z;by_cases hj:j<ops.size
   ·have:=Z (j,j) (by
     refine A1k (i:=j) ?_;rw[A92];simp[hj])
    simp only[beq_iff_eq]at this;rw[this];simp[hj]
   have V:=A1y h1;rw[A1v gV,A1v gV]
  intro c ρ a w Y hr;refine (wpIn_wide (n:=0)).1 (wpIn_region ?_);rw[hl];have a0:=(kk (fun E R T=>(∃ o,ops[i]?=some o/\gv E ops o=some false/\Fb E o=true/\Ob P id ops false (Hm P fn Post k) t (E.put o.dst (.v undef)) R T) \/
   ∃ (o:Oper) (l:Nat) (args:zV) (K:Value->PH->PH->Prop),ops[i]?=some o/\gv E ops o=some true/\Fb E o=true/\Kl E o.op=true/\Ix o.op=true/\(∀ (P:Program) (w:World),(execOp (C2 E) o).run P w=(Instr.yield l args.toArray).run P w)/\Acq P l args R T K /\
    ∀ v C I,PH.le R C->K v C I->Ob P id ops false (Hm P fn Post k) t (E.put o.dst (.v v)) C I)
   (fun E R T hs hg=>by
    obtain⟨o,L,V,W⟩:=Arg hs;have L:ops[i]?=some o:=L;have:=hg.out;simp only[Alw]at this;rw[L]at this;exact .inl ⟨o,L,V,W,this⟩)
   (fun E R T l args K hy hc hg=>by
    obtain⟨o,L,V,W,X,e4,e5⟩:=Ate hy;have L:ops[i]?=some o:=L;refine .inr ⟨o,l,args,K,L,V,W,X,e4,e5,hc,fun v C I h1 Z=>?_⟩;have:=(hg v C I h1 Z).out;simp only[Alw]at this;rw[L]at this;exact this)).out
  refine Ob.wpOpsIn Tf U (fun s1 u1 m1 ρ1 a1 w1 hf a2=>?_) a0 hr;obtain⟨s2,u2,m2,ρ2,H,hJ⟩:=hf c ρ1 a1 w1 Y a2;rw[wpOpsIn_cons];have fin:∀ (s u m ρ a w),Hm P fn Post k s u m->Rel c s u m ρ a w->Go.wpOpsIn Fence.wide 0 P ops (It P fn Post c k) [] a w:=fun s u m ρ a w hf hr=>hf c ρ a w Y hr;rcases hJ with ⟨o,L,V,W,X⟩|⟨o,l,args,K,L,V,W,X,e4,e5,e6,e7⟩
  ·simp only[wpOpIn,L,Ey H V,if_false,A4z];refine⟨fun f _=>trivial,?_⟩;have:=Ob.wpOpsIn Tf U fin X (H.put (x:=.v undef) (fun _=>rfl) mV (Lg W));rwa[A1x]at this
  simp only[wpOpIn,L,Ey H V,if_true];refine⟨fun f _=>trivial,?_⟩;rw[Oper.semAt_plain _ _ _ (Mo U L),Hw H (Gv e4) X,e5];obtain⟨a3,tmps,assign,body,hy,hR⟩:=e6 w1 H.gd;rw[hy];refine⟨fun hh=>(by cases hh),hR.mono fun e w' he=>?_⟩;obtain⟨v,R,T,rfl,g1,g2,g3⟩:=he;have:=Ob.wpOpsIn Tf U fin (e7 v R T (g2.le H.gd.pu) g3) (H.after g1 g2 (Lg W) v);rwa[A1x]at this
 cases h
def Az8 {F:Fence}(hF:Aoh F){id:Nat}{ops:Array Oper}(j:M3 ops=true){J:S->PH->PH->Prop}{s:S}{c:Cx}{ρ:Nat->Nat}{a:Act}{w:World}{Q:Exit->Act->World->Prop}
 (h:G P fn Post ([.reg id ops false (List.range ops.size),.lp J],s) u m) (K:Rel c s u m ρ a w) (e:c.m0=Post.m0) (H:∀ s u m ρ a w,Rel c s u m ρ a w->J s u m->Q .normal a w):(Code.region id ops false).wpIn F 0 P Q a w:=by
 refine wpIn_region ?_;have:=Ob.wpOpsIn (rest:=[]) hF j (Q:=Q) (fun V X T R a1 L I t=>by
  obtain⟨W,Y,U,Z,C,E⟩:=I c R a1 L e t;exact H _ _ _ _ _ _ C E) h.out K
 rwa[A1x]at this
end rules
def S.ofT (n:Nat)(T:List (Nat×Value)):S:={ n:=n,tm:=fun d=>match T.find? (fun x=>Nat.beq x.1 d) with|some x=>.v x.2|none=>.junk,hp:=fun _=>none }
theorem Rel.start {u m:PH}(h:Bv u m w){tmps:Array Value}{T:List (Nat×Value)}(hT:∀ x∈T,tmps[x.1]?=some x.2):Rel ⟨w,u,m⟩ (S.ofT tmps.size T) u m (fun _=>0) { tmps:=tmps,defers:=[] } w:=by
 refine⟨rfl,fun d t=>?_,Agv.nil _ _ _ _,fun k b C=>(by cases C),fun k j E=>absurd rfl E,⟨fun d k off t=>?_,fun j b k off C=>(by cases C)⟩,h,⟨A08 _,fun _ _ _=>rfl,fun _ _=>rfl,fun _ _ h=>h,⟨rfl,rfl⟩,fun _=>⟨rfl,A08 _⟩⟩⟩
 ·unfold S.ofT at t⊢;simp only at t⊢;split
  ·rename_i x hx;have:=hT x (List.mem_of_find?_eq_some hx);have e:=List.find?_some hx;rw[<-A1y e];exact this
  grind
 unfold S.ofT at t;simp only at t;split at t<;>cases t
def Bv.putO {u m:PH}(h:Bv u m w){g:Nat}{o o':Obj}(e:m g=some o)(j:Q9 o'=true):Bv u (m.upd g o') (w.putObj g o')/\B0 u m w u (m.upd g o') (w.putObj g o'):=by
 have:=h.setO e j;rwa[show Ta w g o'=w.putObj g o' from rfl]at this
end
def ElP.sub {u:PH}{b off:Nat}{e x:Value}{k:Nat}(h:ElP u b off e)(C:∀ i y,x.cells[i]?=some y->e.cells[k+i]?=some y):ElP u b (off+k) x:=fun i y E=>by
 obtain⟨cs,t,fr,j,m⟩:=h (k+i) y (C i y E);exact⟨cs,t,fr,j,by rw[A3p];exact m⟩
def Acq.mono {P:Program}{l:Nat}{args:zV}{u m:PH}{K C:Value->PH->PH->Prop}(h:Acq P l args u m K)(R:∀ v t j,K v t j->C v t j):Acq P l args u m C:=fun w Q=>by
 obtain⟨fn,tmps,assign,body,J,L⟩:=h w Q;exact⟨fn,tmps,assign,body,J,RoundIn.mono L fun e w' ⟨v,t,j,E,F,H,I⟩=>⟨v,t,j,E,F,H,R _ _ _ I⟩⟩
def Bcw {u m:PH}{l b1 b2:Nat}{v tv:Value}{T:zC}{R:List Br}{F:List Al}{lab:Int}{ss:zW}(h:Mv u v tv T R F lab ss)(aa:ElP u b1 0 v)(a3:ElP u b2 0 tv)(J:List (Par×Rat)->PH->PH->Prop)(D:PH->PH->Prop)
 (ab:∀ L H a0 K,PH.le H a0->J L H K->J L a0 K)
 (hY:∀ (i:Nat) (x:Par×Rat) H K,i<F.length->PH.le u H->J (Dx F ss i) H K->x∈Dx F ss F.length->x.1.1=(i:Int)->Acq prog l [Ap x.1,zS (Ae x.2)] H K fun r a0 a8=>r=zT/\J (Dx F ss i++[x]) a0 a8\/r=zL/\D a0 a8)
 (h0:J [] u m):Ag prog 251 [.func (.yield l) #[] #[],.pointer (zA b1),.pointer (zA b2)] u m fun _ H K=>J (Dx F ss F.length) H K\/D H K:=by
 obtain⟨⟨xa,xc,xb,xd,xe,xf,rfl,ad,ac,a9⟩,ok,hS,hT⟩:=h;obtain⟨ya,yc,rfl⟩:=hS.opn;rw[A03]at hS a3;have ae:=ok.f2;have Q:=ok.feat;have e2:ElP u b1 (0+2) (.slice xe F.length xf):=aa.sub (k:=2) fun i y X=>by
  match i,X with
  |0,X=>simpa[Value.cells] using X
  |i+1,X=>simp[Value.cells]at X
 refine Ag.o func251<|G.f 30 b1 0 2 2<|G.g none e2<|G.l (ι:=Nat) (fun i=>[(0,.v (.func (.yield l) #[] #[])),(2,.v (.pointer (zA b2))),(9,sV xe F.length xf),(10,iV F.length),(11,iV i)]) (fun _=>[])
  (fun i H K=>i<=F.length/\J (Dx F ss i) H K) (fun i=>F.length-i) 0 ⟨oV,h0⟩ ?_
 rintro Jl i hJ u1 m1 l1 ⟨hi,C⟩;by_cases V:i<F.length
 ·refine G.lT i F.length ?_;have a1:F[i]?=some F[i]:=A01 V;have a4:=A09 V;have U:=Vz Q hT a4;have E:=Aab (ss:=ss) a1;have I:=fun h2 h0=>S3 Q hT a4 h2 h0;have a7:∀ x,Jf ss i F[i]=some x->x∈Dx F ss F.length:=fun x hx=>F9.2 ⟨i,F[i],V,a1,hx⟩;obtain⟨fb,fo,rfl,ef⟩:=Ac.at' (a9.mono l1) (j:=i) (e:=Cm F[i]) (by simp[a1]);have step:=fun (x:Par×Rat) (hx:Jf ss i F[i]=some x) (H K:PH) (hl:PH.le u1 H) (hj:J (Dx F ss i) H K)=>hY i x H K V (l1.trans hl) hj (a7 x hx) (Ow hx);have Z:Jf ss i F[i]=none->Dx F ss (i+1)=Dx F ss i:=fun e=>by rw[E,e];simp
  have P:∀ x,Jf ss i F[i]=some x->Dx F ss (i+1)=Dx F ss i++[x]:=fun x e=>by rw[E,e];simp
  clear E a7;generalize F[i]=f at a1 a4 U I ef step Z P;obtain⟨f1,f2,f3⟩:=f;simp only at U I;refine G.N F.length xf V ef<|G.g none (a3.mono l1) ?_;obtain⟨b,off,rfl,e⟩:=M5 (hS.mono l1) U;refine G.N ss.length yc U e ?_;by_cases a5:f2=2
  ·subst a5;have hv:Jf ss i (f1,2,f3)=some (((i:Int),ss.getD f1 []),1):=by unfold Jf;rw[if_pos rfl]
   refine G.eT (2:Nat) 2<|G.g none (a3.mono l1)<|G.N ss.length yc U e<|G.yreg [0,1,2,3,4,5,6,7,8,9] 10 [11,12] kV ?_;intro Jy W Y;refine G.x [49] [] mV<|G.x [49] [48] mV ?_;have X:=step _ hv u1 m1 (PH.le_refl _) C;rw[Sv]at X;refine G.b (Y _ _ _ l _ _ kV X ?_);rintro v2 u2 m2 l2 (⟨rfl,hJ2⟩|⟨rfl,hD2⟩)
   case inr=>exact G.r (.tuple #[]) (.inr hD2)
   rw[<-P _ hv]at hJ2;exact G.i i<|G.b (hJ (i+1) _ _ _ cV (l1.trans l2) ⟨oV,hJ2⟩ oV)
  refine G.eF f2 2 ?_;have t:Jf ss i (f1,f2,f3)=if ss.getD f1 [] = []\/ss.getD f1 [] = [48] then none else some (((i:Int),[]),Lk (ss.getD f1 [])):=by unfold Jf;rw[if_neg a5]
  have I:=I a5;generalize ss.getD f1 []=w at t I e;by_cases a2:w = []
  ·subst a2;rw[if_pos (.inl rfl)]at t;refine G.yreg [0,1,2,3,4,5,6,7,8,9] 10 [11,12] kV ?_;intro Jy W Y;refine G.y [] [] rfl<|G.b (W _ _ _ kV ?_);rw[<-Z t]at C;exact G.i i<|G.b (hJ (i+1) _ _ _ cV l1 ⟨oV,C⟩ oV)
  by_cases a6:w = [48]
  ·subst a6;rw[if_pos (.inr rfl)]at t;refine G.yreg [0,1,2,3,4,5,6,7,8,9] 10 [11,12] kV ?_;intro Jy W Y;refine G.x [48] [] mV<|G.y [48] [48] rfl<|G.b (W _ _ _ kV ?_);rw[<-Z t]at C;exact G.i i<|G.b (hJ (i+1) _ _ _ cV l1 ⟨oV,C⟩ oV)
  rw[if_neg (fun e=>e.elim a2 a6)]at t;refine G.yreg [0,1,2,3,4,5,6,7,8,9] 10 [11,12] kV ?_;intro Jy W Y;refine G.x w [] a2<|G.x w [48] a6 ?_;have X:=step _ t u1 m1 (PH.le_refl _) C;rw[(I a2).2]at X;refine G.b (Y _ _ _ l _ _ kV X ?_);rintro v2 u2 m2 l2 (⟨rfl,hJ2⟩|⟨rfl,hD2⟩)
  case inr=>exact G.r (.tuple #[]) (.inr hD2)
  rw[<-P _ t]at hJ2;exact G.i i<|G.b (hJ (i+1) _ _ _ cV (l1.trans l2) ⟨oV,hJ2⟩ oV)
 obtain rfl:i=F.length:=oV;exact G.lF F.length F.length<|G.r (.tuple #[]) (.inl C)
def Arp {u m:PH}{l P Q:Nat}{v U:Value}{T:zC}{R:List Br}{F:List Al}{lab:Int}{ss:zW}(h:Mv u v U T R F lab ss)(H:ElP u P 0 v)(I:ElP u Q 0 U)(J:List (Par×Rat)->PH->PH->Prop)
 (E:∀ L j C t,PH.le j C->J L j t->J L C t)
 (hY:∀ (i:Nat) (x:Par×Rat) j t,i<F.length->PH.le u j->J (Dx F ss i) j t->x∈Dx F ss F.length->x.1.1=(i:Int)->Acq prog l [Ap x.1,zS (Ae x.2)] j t fun r C K=>r=zT/\J (Dx F ss i++[x]) C K)
 (h0:J [] u m):Ag prog 251 [.func (.yield l) #[] #[],.pointer (zA P),.pointer (zA Q)] u m fun _ j t=>J (Dx F ss F.length) j t:=fun w hg =>
 Calls.mono (Bcw h H I J (fun _ _=>False) E (fun i x j t Z h2 h3 h4 h5=>(hY i x j t Z h2 h3 h4 h5).mono fun _ _ _ h=>.inl h) h0 w hg) fun e w' ⟨v,j,t,V,W,X,Y⟩=>⟨v,j,t,V,W,X,Y.resolve_right id⟩
section
variable {c x y:Code}{id:Nat}
def Lb:Code->Option (Operand×Array Tmp×Code×Code)
 |.seq a b=>match Lb a with|some x=>some x|none=>Lb b
 |.block _ a=>Lb a
 |.loop a=>Lb a
 |.cond _ a b=>match Lb a with|some x=>some x|none=>Lb b
 |.rangeFunc g ps x y=>some (g,ps,x,y)
 |_=>none
def rfG (fn:Func):Operand:=match Lb (Qd fn) with|some x=>x.1|none=>.tmp 0
def A0v (fn:Func):Array Tmp:=match Lb (Qd fn) with|some x=>x.2.1|none=>#[]
def rfX (fn:Func):Code:=match Lb (Qd fn) with|some x=>x.2.2.1|none=>.skip
def rfY (fn:Func):Code:=match Lb (Qd fn) with|some x=>x.2.2.2|none=>.skip
def Az5:Code->Bool
 |.seq _ _=>true
 |_=>false
def A0q:Code->Code
 |.seq a _=>a
 |_=>.skip
def A0w:Code->Code
 |.seq _ b=>b
 |_=>.skip
def A0r:Code->Bool
 |.block _ _=>true
 |_=>false
def A0f:Code->Code
 |.block _ a=>a
 |_=>.skip
def rgB:Code->Bool
 |.region _ ops false=>M3 ops
 |_=>false
def rgI:Code->Nat
 |.region id _ _=>id
 |_=>0
def rgO:Code->Array Oper
 |.region _ ops _=>ops
 |_=>#[]
def cnB:Code->Bool
 |.cond _ _ _=>true
 |_=>false
def cnX:Code->Operand
 |.cond x _ _=>x
 |_=>.tmp 0
def cnY:Code->Code
 |.cond _ y _=>y
 |_=>.skip
def cnZ:Code->Code
 |.cond _ _ z=>z
 |_=>.skip
def skB:Code->Bool
 |.skip=>true
 |_=>false
def RW (P:Program)(l:Nat)(c:Code)(J:S->PH->PH->Prop)(s:S)(u m:PH):Prop :=
 ∀ (cx:Cx) (ρ:Nat->Nat) (a:Act) (w:World),Rel cx s u m ρ a w->c.wpIn (Fence.wide.inRound l) 0 P (Exit.then (fun a w=>∃ s u m ρ,Rel cx s u m ρ a w/\J s u m) (fun _ _ _=>False)) a w
section
variable {P:Program} {l:Nat} {J J':S->PH->PH->Prop} {s:S} {u m:PH}
def RW.skip (h:J s u m):RW P l .skip J s u m:=fun j ρ a w e=>wpIn_skip ⟨s,u,m,ρ,e,h⟩
def RW.seq (h:RW P l x (fun s u m=>RW P l y J s u m) s u m):RW P l (.seq x y) J s u m:=fun j ρ a w F=>wpIn_seq (wpIn_mono (h j ρ a w F) fun e a w t=>by
 cases e with
 |normal=>obtain⟨s,u,m,ρ,C,E⟩:=t;exact E j ρ a w C
 |_=>exact t)
def RW.block (h:RW P l x J s u m):RW P l (.block id x) J s u m:=fun t ρ a w C=>wpIn_block (wpIn_mono (h t ρ a w C) fun e a w j=>by
 cases e with
 |normal=>exact j
 |_=>exact j.elim)
def RW.condF {x:Operand}{y z:Code}(j:s.ev x=.v zL)(h:RW P l z J s u m):RW P l (.cond x y z) J s u m:=fun t ρ a w e =>
 wpIn_cond_false (by rw[e.eval x (by rw[j];simp),j];rfl) (h t ρ a w e)
def RW.reg [A6 P]{e:Array Oper}(fn:Func)(j:M3 e=true)(h:∀ (Post:Ce) (J':S->PH->PH->Prop),(∀ s u m,J s u m->J' s u m)->G P fn Post ([.reg id e false (List.range e.size),.lp J'],s) u m):RW P l (.region id e false) J s u m:=fun t ρ a w F =>
 Az8 (Aju l) j (h ⟨fun _ _ _=>False,t.m0⟩ J fun _ _ _ h=>h) F rfl fun s u m ρ a w C E=>⟨s,u,m,ρ,C,E⟩
end
def Ag.weak {P:Program}{f:FuncId}{args:zV}{u m:PH}{R C:Value->PH->PH->Prop}(h:Ag P f args u m R)(L:∀ v t j,R v t j->C v t j):Ag P f args u m C:=fun w K=>Calls.mono (h w K) fun e w' ⟨v,t,j,E,F,H,I⟩=>⟨v,t,j,E,F,H,L _ _ _ I⟩
def RW.seq' {P:Program}{l:Nat}{J:S->PH->PH->Prop}{s:S}{u m:PH}(e:Az5 c=true)(h:RW P l (A0q c) (fun s u m=>RW P l (A0w c) J s u m) s u m):RW P l c J s u m:=by
 cases c<;>first|exact RW.seq h|cases e
def RW.block' {P:Program}{l:Nat}{J:S->PH->PH->Prop}{s:S}{u m:PH}(e:A0r c=true)(h:RW P l (A0f c) J s u m):RW P l c J s u m:=by
 cases c<;>first|exact RW.block h|cases e
def RW.skip' {P:Program}{l:Nat}{J:S->PH->PH->Prop}{s:S}{u m:PH}(e:skB c=true)(h:J s u m):RW P l c J s u m:=by
 cases c<;>first|exact RW.skip h|cases e
def RW.condF' {P:Program}{l:Nat}{J:S->PH->PH->Prop}{s:S}{u m:PH}(e:cnB c=true)(j:s.ev (cnX c)=.v zL)(h:RW P l (cnZ c) J s u m):RW P l c J s u m:=by
 cases c<;>first|exact RW.condF j h|cases e
def RW.reg' {P:Program}[A6 P]{l:Nat}{J:S->PH->PH->Prop}{s:S}{u m:PH}(fn:Func)(e:rgB c=true)(h:∀ (Post:Ce) (J':S->PH->PH->Prop),(∀ s u m,J s u m->J' s u m)->G P fn Post ([.reg (rgI c) (rgO c) false (List.range (rgO c).size),.lp J'],s) u m):RW P l c J s u m:=by
 cases c with
 |region id ops dr =>
  cases dr with
  |false=>exact RW.reg fn e h
  |true=>cases e
 |_=>cases e
def Vg (r:Loop):Loop:={ r with state:=.busy }
def Aje (p q:Nat)(a b:Value)(t:Array Value):((#[p,q].zip [a,b].toArray).foldl (fun tmps (t,a)=>tmps.setIfInBounds t a) t)=(t.setIfInBounds p a).setIfInBounds q b:=mV
theorem Amn {P:Program}{l n:Nat}{r:Loop}{args:zV}{T:List (Nat×Value)}{u m:PH}{K:PH->PH->Prop}(hm:m l=some (.loop r))(hr:r.state=.ready)(hp:r.pending=none)(hs:args.length=r.params.size)
 (hn:r.tmps.size=n) (hT:∀ x∈T,((r.params.zip args.toArray).foldl (fun tmps (t,a)=>tmps.setIfInBounds t a) r.tmps)[x.1]?=some x.2)
 (h:RW P l r.assign (fun s u1 W=>W l=some (.loop r)/\RW P l r.body (fun _ u2 m2=>m2 l=some (.loop (Vg r))/\K u2 (m2.upd l (.loop r))) s u1 (W.upd l (.loop (Vg r)))) (S.ofT n T) u m) :
 Acq P l args u m fun v u' m'=>v=zT/\K u' m':=by
 intro w H;have hl:=H.pm l _ hm;have a0:((r.params.zip args.toArray).foldl (fun tmps (t,a)=>tmps.setIfInBounds t a) r.tmps).size=n:=by
  rw[<-hn,<-A99];generalize (r.params.zip args.toArray).toList=L;generalize r.tmps=t0;induction L generalizing t0 with
  |nil=>rfl
  |cons x L ih=>grind
 refine⟨r.fn,_,r.assign,r.body,run_yield hl (by simpa using hs),roundIn_of_wpIn trivial ?_⟩;have C:=Rel.start (T:=T) H (tmps:=(r.params.zip args.toArray).foldl (fun tmps (t,a)=>tmps.setIfInBounds t a) r.tmps) hT;rw[a0]at C;refine wpIn_mono (h _ _ _ _ C) fun e a1 w1 hq=>?_;cases e with
 |normal =>
  obtain⟨s1,u1,W,ρ1,j,V,h2⟩:=hq;have Y:=j.gd.pm l _ V;have I:∀ k b,s1.hp k=some b->ρ1 k≠l:=fun k b F e=>by
   obtain⟨_,_,_,U⟩:=j.box k b F;rw[e,V]at U;cases U
  obtain⟨g1,g2⟩:=j.gd.putO (o':=.loop (Vg r)) V rfl;have r2:Rel ⟨w,u,m⟩ s1 u1 (W.upd l (.loop (Vg r))) ρ1 a1 (w1.putObj l (.loop (Vg r))):=by
   refine⟨j.sz,j.tm,j.df.of fun q e _ hu E=>?_,fun k b F=>?_,j.inj,j.lv,g1,j.gr.trans g2⟩
   ·have R:q≠l:=fun e'=>by rw[e',V]at E;cases E
    exact⟨by rw[World.putObj_heap_other R];exact e,hu,by rw[Ad _ _ R];exact E⟩
   obtain⟨e1,X,e3,U⟩:=j.box k b F;exact⟨by rw[World.putObj_heap_other (I k b F)];exact e1,X,e3,by rw[Ad _ _ (I k b F)];exact U⟩
  refine⟨_,run_beginRound Y hr,wpIn_mono (h2 _ _ _ _ r2) fun X a2 w2 Q=>?_⟩;cases X with
  |normal =>
   obtain⟨s2,u2,m2,ρ2,r3,h3,h4⟩:=Q;have Z:=r3.gd.pm l _ h3;refine⟨_,_,run_endRound none Z,?_⟩;have e5:({ Vg r with state:=if (none:Option Code).isNone then .ready else .done,pending:=none }:Loop)=r:=by
    cases r;subst hr;subst hp;rfl
   rw[e5];obtain⟨g3,g4⟩:=r3.gd.putO (o':=.loop r) h3 rfl;exact⟨_,_,_,rfl,g3,r3.gr.trans g4,rfl,h4⟩
  |_=>exact Q.elim
 |_=>exact hq.elim
section
variable {P:Program} [A6 P] {fn:Func} {Post:Ce} {st:List KI×S} {u m:PH}
def Azy (st:List KI×S):Option (Operand×Array Tmp×Code×Code):=match st.1 with
 |.code (.rangeFunc g ps x y)::_=>some (g,ps,x,y)
 |_=>none
def Ais (st:List KI×S):List KI×S:=match st.1 with
 |.code (.rangeFunc _ _ _ _)::k=>(k,st.2)
 |_=>st
theorem G.rangeF (g:Operand)(ps:Array Tmp)(x y:Code)(Q:Nat)(cap:zV)(a0:PH->PH->Prop)(h:Azy (adv P st)=some (g,ps,x,y))(I:(adv P st).2.ev g=.v (.func (.func Q) #[] cap.toArray))(hn:F2 (Ais (adv P st)).1=true)
 (hc:∀ args w,(callFunc Q args).run P w=.ok (.enter Q args) w)
 (R:∀ (l:Nat) (r:Loop),r.state=.ready->r.pending=none->r.params=ps->r.assign=x->r.body=y->r.tmps.size=(adv P st).2.n->(∀ d v,(adv P st).2.tm d=.v v->r.tmps[d]?=some v)->m l=none->u l=none ->
  Ag P Q (.func (.yield l) #[] #[]::cap) u (m.upd l (.loop r)) fun _ u' Z=>∃ r':Loop,r'.state≠.busy/\r'.pending=none/\Z l=some (.loop r')/\∃ V,PH.le V Z/\V l=none/\a0 u' V)
 (k:∀ u' Z,PH.le u u'->a0 u' Z->G P fn Post (Ais (adv P st)) u' Z):G P fn Post st u m:=by
 refine G.stp ?_;generalize adv P st=st' at h I hn R k;obtain⟨ks,s⟩:=st'
 match ks,h with
 |.code (.rangeFunc g' ps' x' y')::kk,h =>
  simp only[Azy,A1f,A2i]at h;obtain⟨rfl,rfl,rfl,rfl⟩:=h;simp only[Ais]at hn R k;refine⟨?_⟩;intro c ρ a w ad L;show (Code.rangeFunc g' ps' x' y').wp P (It P fn Post c kk) a w;refine (wpIn_wide (n:=0)).1 (wpIn_rangeFunc fun fid _=>?_);obtain⟨C,F⟩:∃ C:Loop,C={ state:=.ready,pending:=none,fn:=fid,tmps:=a.tmps,params:=ps',assign:=x',body:=y',defers:=w.heap.size }:=⟨_,rfl⟩;have W:=run_enterLoop_outer (P:=P) (w:=w) fid a.tmps ps' x' y';rw[<-F]at W;obtain⟨E,H⟩:∃ E,E=w.alloc (.deferred (some [])):=⟨_,rfl⟩;rw[<-H]at W;have a8:E.heap.size=w.heap.size+1:=by rw[H,B6]
  rw[<-a8]at W;have a1:E.heap[w.heap.size]?=some (.deferred (some [])):=by rw[H];exact Cn _ _
  have ag:u w.heap.size=none:=L.gd.pu.none (A08 _);have ae:m w.heap.size=none:=L.gd.pm.none (A08 _);have Y:Bv u m E:=by
   refine⟨fun g o I=>?_,fun g o I=>?_,L.gd.ap,fun g cs t fr j z I hj=>?_⟩
   ·rw[H,Aq _ _ (L.gd.pu.lt I)];exact L.gd.pu g o I
   ·rw[H,Aq _ _ (L.gd.pm.lt I)];exact L.gd.pm g o I
   by_cases e:g=w.heap.size
   ·subst e;rw[a1]at I;simp at I
   have K:=Aw I;rw[a8]at K;rw[H,Aq _ _ oV]at I;exact L.gd.cl g cs t fr j z I hj
  have a3:B0 c.u0 c.m0 c.w0 u m E:=L.gr.trans ⟨oV,fun g I _=>by rw[H];exact Aq _ _ I,fun _ _=>rfl,fun _ _ h=>h,by rw[H];exact⟨rfl,rfl⟩,fun _=>by rw[H];exact⟨rfl,A08 _⟩⟩;have T:Rel c s u m ρ { a with defers:=Xm w.heap.size::a.defers } E:=by
   refine⟨L.sz,L.tm,?_,fun k b hb=>?_,L.inj,L.lv,Y,a3⟩
   ·obtain⟨ds,d1,d2,a9,d3⟩:=L.df;refine⟨w.heap.size::ds,A4j.2 ⟨fun a6=>?_,d1⟩,by rw[A2u,<-d2];rfl,by rw[<-a9];rfl,fun q hq=>?_⟩
    ·obtain⟨e,_⟩:=d3 _ a6;exact absurd (Aw e) oV
    rcases A1g.1 hq with rfl|hq
    ·exact⟨a1,L.gr.sz,ag,ae⟩
    obtain⟨e1,e2,e3,e4⟩:=d3 q hq;exact⟨by rw[H,Aq _ _ (Aw e1)];exact e1,e2,e3,e4⟩
   obtain⟨⟨cs,f1,f2,f3⟩,f4⟩:=L.box k b hb;exact⟨⟨cs,by rw[H,Aq _ _ (Aw f1)];exact f1,f2,f3⟩,f4⟩
  obtain⟨g1,g2,g3,g4⟩:=Y.newO (o:=.loop C) rfl;have U:Rel c s u (m.upd E.heap.size (.loop C)) ρ { a with defers:=Xm w.heap.size::a.defers } (E.alloc (.loop C)):=by
   refine⟨T.sz,T.tm,T.df.of fun q e _ hu X=>?_,fun k b hb=>?_,T.inj,T.lv,g1,T.gr.trans g2⟩
   ·have K:=Aw e;exact⟨by rw[Aq _ _ K];exact e,hu,by rw[Ad _ _ oV];exact X⟩
   obtain⟨⟨cs,f1,f2,f3⟩,f4,f5,f6⟩:=T.box k b hb;have K:=Aw f1;exact⟨⟨cs,by rw[Aq _ _ K];exact f1,f2,f3⟩,f4,f5,by rw[Ad _ _ oV];exact f6⟩
  have ab:a.eval g'=.func (.func Q) #[] cap.toArray:=by rw[L.eval g' (by rw[I];simp),I];rfl
  have aa:=R E.heap.size C (by rw[F]) (by rw[F]) (by rw[F]) (by rw[F]) (by rw[F]) (by rw[F];exact L.sz) (fun d v hd=>by
   have:=L.tm d (by rw[hd];simp);rw[hd]at this;rw[F];exact this) g3 g4
  obtain⟨dd,a2⟩:∃ dd:Deferred,dd={ target:=.fn (.func Q) cap.toArray,args:=#[.func (.yield E.heap.size) #[] #[]] }:=⟨_,rfl⟩;have a7:(resolve a.eval (rangeCall g' E.heap.size) 0).run P (E.alloc (.loop C))=.ok dd (E.alloc (.loop C)):=by
   rw[a2];simp only[resolve,ab,Deferred.ofValue];simp[Act.eval]
  have a4:(invoke dd.target dd.args).run P (E.alloc (.loop C))=.ok (.enter Q (.func (.yield E.heap.size) #[] #[]::cap).toArray) (E.alloc (.loop C)):=by
   rw[a2];simp[invoke,hc]
  refine⟨E.heap.size,[Xm w.heap.size],E.alloc (.loop C),dd,E.alloc (.loop C),Q,(.func (.yield E.heap.size) #[] #[]::cap).toArray,E.alloc (.loop C),W,a7,fun _ _=>trivial,a4,(fun h=>by cases h),?_⟩;refine callsIn_wide.2 (Calls.mono (aa _ g1) fun e w3 he=>?_);obtain⟨v,u',Z,rfl,k1,k2,r',q1,q2,q3,V,q4,q5,q6⟩:=he;have ac:=k1.pm _ _ q3;refine⟨none,_,by rw[<-q2];exact run_endLoop ac q1,?_⟩;obtain⟨p1,p2⟩:=k1.putO (o':=.loop { r' with state:=.exhausted }) q3 rfl;have a5:PH.le V (Z.upd E.heap.size (.loop { r' with state:=.exhausted })):=fun g o I=>by
   by_cases e:g=E.heap.size
   ·grind
   rw[Ad _ _ e];exact q4 g o I
  have af:Rel c s u' (Z.upd E.heap.size (.loop { r' with state:=.exhausted })) ρ { a with defers:=Xm w.heap.size::a.defers } (w3.putObj E.heap.size (.loop { r' with state:=.exhausted })):=by
   have g5:=k2.trans p2;refine⟨U.sz,U.tm,U.df.of fun q e _ hu X=>⟨by rw[g5.old _ (Aw e) X];exact e,by rw[g5.us _ (Aw e)];exact hu,g5.ms _ (Aw e) X⟩,fun k b hb=>?_,U.inj,U.lv,p1,U.gr.trans g5⟩;obtain⟨e1,e2,e3,e4⟩:=U.box k b hb;have K:ρ k<(E.alloc (.loop C)).heap.size:=by obtain⟨cs,e,_⟩:=e1;exact Aw e
   refine⟨?_,e2,?_,?_⟩
   ·rw[g5.old _ K e4];exact e1
   ·rw[g5.us _ K];exact e3
   exact g5.ms _ K e4
  have hk:=(k u' V (k2.le g1.pu) q6).out;rw[Sym.ofNo hn]at hk;exact hk c ρ _ _ ad (af.less a5)
end
end
section
variable {b sz:Nat}{es:zV}{m m0:PH}{o:Obj}{t:TypeId}{v:Value}
def Af.base (h:Af m0 m v t sz es)(J:m0 b≠none):Af (m0.upd b o) (m.upd b o) v t sz es:=by
 obtain⟨E,h⟩:=h;rcases h with ⟨u,C,rfl⟩|⟨g,cap,rest,u,rfl,C,F,H,I⟩
 ·exact⟨E,.inl ⟨u,C,rfl⟩⟩
 have j:g≠b:=fun e=>by subst e;exact J u
 exact⟨E,.inr ⟨g,cap,rest,by rw[Ad _ _ j];exact u,Iq _ _ _ j,C,F,H,I⟩⟩
def Af.see (h:Af m0 m v t sz es)(e:m0 b=some o):m b=some o:=h.le b o e
end
section
variable {l:Nat}{m:PH}{o:Obj}
def Alu {l b:Nat}(h:b≠l):(m.upd b o).del l=(m.del l).upd b o:=by
 funext k
 by_cases e:k=l
 ·subst e;rw[Ad _ _ (fun j=>h j.symm)];simp[PH.del]
 by_cases j:k=b
 ·subst j;rw[Ab];simp[PH.del,e,Ab]
 rw[Ad _ _ j];simp[PH.del,e,Ad _ _ j]
def Rk (h:m l=none):(m.upd l o).del l=m:=by
 funext k
 by_cases e:k=l
 ·subst e;simp[PH.del,h]
 simp[PH.del,e,Ad _ _ e]
def Ap6 (m:PH)(l:Nat):PH.le (m.del l) m:=fun g o h=>by
 unfold PH.del at h;split at h
 ·cases h
 exact h
def Axu (m:PH)(l:Nat):m.del l l=none:=by unfold PH.del;simp
def Af.del {m0 m:PH}{v:Value}{t:TypeId}{sz:Nat}{es:zV}{l:Nat}(h:Af m0 m v t sz es)(J:m0 l≠none):Af (m0.del l) (m.del l) v t sz es:=by
 obtain⟨E,h⟩:=h;rcases h with ⟨u,C,rfl⟩|⟨g,cap,rest,u,rfl,C,F,H,I⟩
 ·exact⟨E,.inl ⟨u,C,rfl⟩⟩
 have j:g≠l:=fun e=>by subst e;exact J u
 exact⟨E,.inr ⟨g,cap,rest,by unfold PH.del;rw[if_neg j];exact u,Alu j,C,F,H,I⟩⟩
def Y4 (t et:TypeId)(sz b:Nat)(mr:PH)(es:zV)(m:PH):Prop:=∃ a c,Af (mr.upd b (.cells #[.slice a es.length c] t (0,0))) m (.slice a es.length c) et sz es
def Y4.see {t et:TypeId}{sz b l:Nat}{j m:PH}{es:zV}{o:Obj}(h:Y4 t et sz b j es m)(u:b≠l)(C:j l=some o):m l=some o:=by
 obtain⟨a,c,h⟩:=h;exact h.see (by rw[Ad _ _ (fun e=>u e.symm)];exact C)
def Y4.base {t et:TypeId}{sz b l:Nat}{j m:PH}{es:zV}{o:Obj}(h:Y4 t et sz b j es m)(u:b≠l)(C:j l≠none):Y4 t et sz b (j.upd l o) es (m.upd l o):=by
 obtain⟨a,c,h⟩:=h;refine⟨a,c,?_⟩;rw[Iq _ _ _ (fun e=>u e.symm)];exact h.base (by rw[Ad _ _ (fun e=>u e.symm)];exact C)
end
section
variable {k:Nat}{v:Value}
def Af.fresh {m0 m:PH}{t:TypeId}{sz:Nat}{es:zV}{b:Nat}{o:Obj}(h:Af m0 m v t sz es)(F:m b=none):Af (m0.upd b o) (m.upd b o) v t sz es:=by
 obtain⟨H,h⟩:=h;rcases h with ⟨C,E,rfl⟩|⟨g,cap,rest,C,rfl,E,I,J,K⟩
 ·exact⟨H,.inl ⟨C,E,rfl⟩⟩
 have j:g≠b:=fun e=>by subst e;rw[Ab]at F;cases F
 exact⟨H,.inr ⟨g,cap,rest,by rw[Ad _ _ j];exact C,Iq _ _ _ j,E,I,J,K⟩⟩
section
variable [Cl] [Co] [Pu] {P:Program} [A6 P] {fn:Func} {Post:Ce} {st:List KI×S} {u m:PH}
def G.appendL (e:TypeId)(sz C:Nat)(z:Value)(m0:PH)(es xs:zV)(v:Value)(a:zP)(n c:Nat)(h:Aj P (adv P st)=.app (some (e,sz,C,z)) true [v,.slice a n c])(U:z.cells.toList.all Ax=true)(J:z.cells.size=sz)(H:0<sz)
 (E:Af m0 m v e sz es) (I:Ac u (.slice a n c) sz xs) (T:A9 sz xs) (R:(es.length+xs.length)*C<=140737488355328) (F:es.length+xs.length<=9223372036854775807)
 (k:∀ L K,Af m0 K L e sz (es++xs)->G P fn Post (nx (adv P st) L) u K):G P fn Post st u m:=by
 have t:n=xs.length:=by obtain⟨_,_,Q,_⟩:=I;cases Q;rfl
 cases xs with
 |nil =>
  simp only[A30]at t;subst t;obtain⟨a1,c1,rfl⟩:=E.shape;refine G.append0 e sz C z a1 a es.length c1 c h E.cap ?_;exact k _ _ (by rw[A1x];exact E)
 |cons x xs =>
  obtain⟨b,off,rfl,_⟩:=Ac.at' I (j:=0) (e:=x) rfl;subst t;exact G.append e sz C z m0 es (x::xs) v b off _ c h U J H E I.els T rfl mV R F k
end
def Aue {u:PH}{L:List Par}{p:Par}(h:Ac u v 2 (L.map Ap))(Q:L[k]?=some p)(T:∀ j,j<k->L[j]?≠some p)(W:L.length<=1000000) :
 zF 209 [v,Ap p] u fun r _=>r=zI k:=by
 obtain⟨a,c,rfl⟩:=h.opn;rw[A03]at h⊢;obtain⟨R,F⟩:=A05.1 Q;refine Fn0.o func209<|G.l (ι:=Nat) (fun i=>[(0,sV a L.length c),(3,.p 0 0),(7,iV L.length),(8,iV i)]) (fun _=>[(0,⟨118,[iV p.1,tV p.2]⟩)])
  (fun i Z U=>i<=k/\U=PH.mt) (fun i=>k+1-i) 0 ⟨oV,rfl⟩ ?_
 rintro J i K u1 X H ⟨hi,rfl⟩;refine G.lT i L.length ?_;have t:L[i]?=some L[i]:=A01 oV;obtain⟨V,Y,rfl,I⟩:=Ac.at' (h.mono H) (j:=i) (e:=Ap L[i]) (by simp[t]);refine G.n L.length c I ?_;by_cases E:p=L[i]
 ·have C:i=k:=by
   rcases A2e i k with e|e
   ·exact absurd (by rw[t,<-E]) (T i e)
   omega
  exact G.eqAgg 118 #[zI p.1,zS p.2] #[zI L[i].1,zS L[i].2] true kV kV kV (fun w=>by rw[<-decide_eq_true E];exact Bq.eq p L[i] w)<|G.r (zI i) ⟨rfl,by rw[C]⟩
 have C:i≠k:=fun e=>by subst e;exact E F.symm
 exact G.eqAgg 118 #[zI p.1,zS p.2] #[zI L[i].1,zS L[i].2] false kV kV kV (fun w=>by rw[<-decide_eq_false E];exact Bq.eq p L[i] w)<|G.i i<|G.b (K (i+1) _ _ _ cV H ⟨oV,rfl⟩ oV)
def F5 (P:List Par)(L:List (Par×Rat)):zW:=[49]::P.map fun p=>Ae (Fo p L)
def Ae2 (P:List Par)(L:List (Par×Rat)):(F5 P L).length=P.length+1:=by unfold F5;simp
def Ar9 (P:List Par):F5 P [] = [49]::List.replicate P.length [48]:=by
 unfold F5
 congr 1
 have:(fun p:Par=>Ae (Fo p []))=fun _=>[48]:=by funext p;unfold Fo;exact Fz
 rw[this,List.map_const']
def Zb {κ:Type}[DecidableEq κ]{a:κ}{x:κ×Rat}:∀ {L:List (κ×Rat)},x.1∉L.map (·.1)->Fo a (L++[x])=if a=x.1 then x.2 else Fo a L
 |[],_=>by obtain⟨b,q⟩:=x;simp[Fo]
 |(b,q)::L,h=>by
  rw[A2u,A1g,not_or]at h;rw[A4x];unfold Fo;by_cases e:a=b
  ·rw[if_pos e,if_neg (fun j=>h.1 (by rw[<-j,e]))];simp[e]
  rw[if_neg e,Zb h.2];simp[e]
def Yu {κ:Type}{l:List κ}(h:l.Nodup){i j:Nat}{x:κ}(E:l[i]?=some x)(F:l[j]?=some x):i=j:=by
 obtain⟨a1,a2⟩:=A05.1 E;obtain⟨t,C⟩:=A05.1 F;rcases A5u i j with e|e|e
 ·exact absurd (a2.trans C.symm) (A3n.1 h i j a1 t e)
 ·exact e
 exact absurd (C.trans a2.symm) (A3n.1 h j i t a1 e)
def Amm {P:List Par}{L:List (Par×Rat)}{x:Par×Rat}(C:P[k]?=some x.1)(H:P.Nodup)(I:x.1∉L.map (·.1)):(F5 P L).set (k+1) (Ae x.2)=F5 P (L++[x]):=by
 unfold F5;rw[A2j]
 congr 1
 obtain⟨F,h⟩:=A05.1 C;refine A5l mV fun j t J=>?_;rw[List.getElem_set];simp only[A3v];rw[Zb I];by_cases e:k=j
 ·subst e;rw[if_pos rfl,if_pos h]
 rw[if_neg e,if_neg];intro E;simp at t;exact e (Yu H C (by rw[A01 (by simpa using t),E]))
def Anh {u:PH}{v pv tv:Value}{T:List (List UInt8×Nat)}{R:List Br}{F:List Al}{lab:Int}{ss:List (List UInt8)}{Q:List Par}(h:Mv u v tv T R F lab ss)(hQ:Ac u pv 2 (Q.map Ap))(hs:Hb Bk Q)(b9:∀ x∈Dx F ss F.length,x.1∈Q)(hl:Q.length<=100000) :
 Fn0 prog 140 [v,pv,tv] u fun r X=>∃ lv,r=.tuple #[lv,.int .i64 0]/\Ac X lv 1 ((F5 Q (Dx F ss F.length)).map nmV):=by
 have ap:=Lm h;have ag:=fun (X:PH) (l:PH.le u X)=>Aql (h.mono l);have ak:=h;have bu:=h.ok.f2;obtain⟨⟨xa,xc,xb,xd,xe,xf,rfl,bs,br,bq⟩,ok,hS,hT⟩:=h;obtain⟨ya,yc,rfl⟩:=hS.opn;obtain⟨pa,pc,rfl⟩:=hQ.opn;rw[A03]at hS ap ag ak hQ⊢;rw[A03]at⊢;have aj:=hs.nodup Et;refine Fn0.o func140<|G.c call89 ap ?_;rintro v1 u1 l1 rfl;refine G.nF 0 0<|G.l (ι:=Nat) (fun i=>[(2,sV ya ss.length yc),(3,.p 0 0),(4,.p 1 0),(6,.p 2 0),(7,.p 3 0),(9,iV i)])
  (fun _=>[(0,⟨30,[sV xa T.length xc,sV xb R.length xd,sV xe F.length xf,iV lab]⟩),(1,⟨43,[sV pa Q.length pc]⟩),(2,⟨46,[sV none 0 0]⟩),(3,⟨39,[iV 0]⟩)])
  (fun i X C=>1<=i/\C=PH.mt) (fun i=>Q.length-i) 1 ⟨oV,rfl⟩ ?_
 rintro J i H u2 m2 l2 ⟨hi,rfl⟩;by_cases a4:i<Q.length
 ·refine G.lT i Q.length ?_;have ad:=hQ.mono (l1.trans l2);have b0:Q[i]?=some Q[i]:=A01 a4;have b3:Q[i-1]?=some (Q[i-1]'oV):=A01 oV;have b5:Bk (Q[i-1]'oV) Q[i]<0:=A3n.1 hs (i-1) i oV a4 oV;obtain⟨ba,oa,e0,ea⟩:=Ac.at' ad (j:=i) (e:=Ap Q[i]) (by simp[b0]);obtain⟨bo,bz,a9,eb⟩:=Ac.at' ad (j:=i-1) (e:=Ap (Q[i-1]'oV)) (by simp[b3]);rw[e0]at a9;cases a9;subst e0;refine G.s i 1 (i-1:Nat)<|G.a ba oa Q.length pc (i-1) 2 oV<|G.lU (some 2) ba (oa+(i-1)*2) (Ap (Q[i-1]'oV)) eb<|G.a ba oa Q.length pc i 2 a4<|G.lU (some 2) ba (oa+i*2) (Ap Q[i]) ea<|G.c call127 (Re _ _ true (decide_eq_true b5)) ?_;rintro v3 u3 l3 rfl;exact G.i i<|G.b (H (i+1) _ _ _ cV (l2.trans l3) ⟨oV,rfl⟩ oV)
 refine G.lF i Q.length ?_;clear H;refine G.pub 1 43 [.slice pa Q.length pc] kV kV ?_;intro U bl bm;refine G.buildM 34 1 16 (.string (mkS [])) [.string (mkS [49])] kV (Gc [[49]]) rfl oV mV mV ?_;intro g3 m3 aa;refine G.B 34 1 16 (.string (mkS [])) [.string (mkS [48])] (Gc [[48]]) ?_;intro g4 u4 l4 e4;have az:Ac u4 (.slice (some ⟨g4,0,none⟩) 1 1) 1 [.string (mkS [48])]:=⟨_,1,rfl,A08 _,fun j e hj=>⟨g4,0,rfl,e4 j e hj⟩⟩;refine G.lM none U 0 (.slice pa Q.length pc) (My (xs:=[.slice pa Q.length pc]) (aa.see (Ab _ _ _)) rfl)<|G.c call207 (Ao2 (n:=Q.length) az (Gc [[48]]) oV) ?_;intro v5 u5 l5 k5;obtain⟨a5,c5,rfl⟩:=Ac.opn k5;have b6:(F5 Q []).map nmV = [Value.string (mkS [49])]++List.replicate Q.length (Value.string (mkS [48])):=by
  rw[Ar9,A2u,A8z];rfl
 refine G.appendL 34 1 16 (.string (mkS [])) _ [.string (mkS [49])] (List.replicate Q.length (.string (mkS [48]))) _ a5 _ c5 kV rfl rfl oV aa k5 ((Gc [[48]]).replicate _) gV gV ?_;intro v6 m6 V;rw[<-b6]at V;obtain⟨a6,c6,rfl⟩:=V.shape;refine G.pub 9006 46 [.slice a6 ((F5 Q []).map nmV).length c6] kV kV ?_;intro b bt a2;have af:m6 U=some (.cells [Value.slice pa Q.length pc].toArray 43 (0,0)):=V.see (Ab _ _ _);have a3:b≠U:=fun e=>by subst e;rw[af]at a2;cases a2
 have aq:=V.fresh (o:=.cells [Value.slice a6 ((F5 Q []).map nmV).length c6].toArray 46 (0,0)) a2;have a8:PH.le u u5:=(((l1.trans l2).trans l4).trans l5);refine G.c call208 (ag u5 a8) ?_;rintro v8 u8 l8 ⟨b1,b2,rfl,e1,e2⟩;obtain⟨E,W⟩:∃ E,E=Pj U (.cells [Value.slice pa Q.length pc].toArray 43 (0,0)):=⟨_,rfl⟩;have ar:Y4 46 34 1 b E ((F5 Q []).map nmV) (m6.upd b (.cells [Value.slice a6 ((F5 Q []).map nmV).length c6].toArray 46 (0,0))):=by
  rw[W];exact⟨a6,c6,aq⟩
 have be:E U=some (.cells [Value.slice pa Q.length pc].toArray 43 (0,0)):=by rw[W];exact Ck _ _
 have b7:∀ {es:List Value} {C:PH},Y4 46 34 1 b E es C->PH.le E C:=fun h=>(by
  obtain⟨a,c,h⟩:=h;exact fun g o hg=>h.see (by rw[Ad _ _ (fun e=>by rw[W]at hg;rw[e,Mz _ a3]at hg;cases hg)];exact hg))
 refine G.rangeF (rfG Tryz.f140) (A0v Tryz.f140) (rfX Tryz.f140) (rfY Tryz.f140) 251 [.pointer (some ⟨b1,0,none⟩),.pointer (some ⟨b2,0,none⟩)] (fun X C=>Y4 46 34 1 b E ((F5 Q (Dx F ss F.length)).map nmV) C) kV kV kV call251 ?_ ?_
 ·intro l r r1 r2 r3 r4 r5 r6 r7 K ah;have t:b≠l:=fun e=>by subst e;rw[Ab]at K;cases K
  have al:U≠l:=fun e=>by subst e;rw[Ad _ _ (fun e=>a3 e.symm),af]at K;cases K
  have ai:E l=none:=by rw[W];exact Mz _ (fun e=>al e.symm)
  have am:r.params = #[46,47]:=r3.trans kV;have hn:r.tmps.size=59:=r6.trans kV;have bg:r.tmps[4]?=some (.pointer (some ⟨U,0,none⟩)):=r7 4 _ kV;have ao:r.tmps[10]?=some (.pointer (some ⟨b,0,none⟩)):=r7 10 _ kV;have a7:∀ {es:List Value} {C:PH},Y4 46 34 1 b (E.upd l (.loop r)) es C->C l=some (.loop r):=fun h=>h.see t (Ab _ _ _);refine Ag.weak (Arp (ak.mono (a8.trans l8)) e1 e2 (fun L X C=>PH.le u8 X/\Y4 46 34 1 b (E.upd l (.loop r)) ((F5 Q L).map nmV) C) (fun _ _ _ _ hl h=>⟨h.1.trans hl,h.2⟩) (fun i x X C hi hl H hx bw=>?_) ?_) ?_
  ·obtain⟨ac,H⟩:=H;have bh:=b9 x hx;obtain⟨k,hk,bd⟩:=A2y bh;have I:Q[k]?=some x.1:=by rw[A01 hk,bd]
   have bi:x.1∉(Dx F ss i).map (·.1):=fun hm=>by
    obtain⟨y,hy,bj⟩:=A1b.1 hm;obtain⟨j,f,hj,_,hv⟩:=F9.1 hy;have:=Ow hv;rw[bj]at this;omega
   refine Amn (n:=59) (T:=[(4,.pointer (some ⟨U,0,none⟩)),(10,.pointer (some ⟨b,0,none⟩)),(46,Ap x.1),(47,.string (mkS (Ae x.2)))]) (a7 H) r1 r2 (by rw[am];rfl) hn (fun y hy=>?_) ?_
   ·rw[am,Aje];simp only[A1g,A11,or_false]at hy;rcases hy with rfl|rfl|rfl|rfl
    ·rw[A2m mV,A2m mV];exact bg
    ·rw[A2m mV,A2m mV];exact ao
    ·rw[A2m mV];simp[hn]
    simp[hn]
   rw[r4,r5];refine RW.seq' kV (RW.reg' Tryz.f140 kV fun Post J' au=>?_);refine G.b (au _ _ _ (RW.reg' Tryz.f140 kV fun Post J2 av=>?_));have a1:=H.base (o:=.loop (Vg r)) t (by rw[Ab];simp);rw[Dp]at a1;have bf:(C.upd l (.loop (Vg r))) U=some (.cells [Value.slice pa Q.length pc].toArray 43 (0,0)):=a1.see a3.symm.symm (by rw[Ad _ _ al];exact be);obtain⟨a,c,Y⟩:=a1;have b4:∀ {n c':Nat} {a':Option Addr},((E.upd l (.loop (Vg r))).upd b (.cells #[.slice a' n c'] 46 (0,0))) b=some (.cells [Value.slice a' n c'].toArray 46 (0,0)):=Ab _ _ _;refine G.b (av _ _ _ ⟨a7 H,RW.block' kV (RW.seq' kV (RW.reg' Tryz.f140 kV fun Post J3 aw=>?_))⟩);refine G.lM none U 0 (.slice pa Q.length pc) (My (xs:=[.slice pa Q.length pc]) bf rfl)<|G.c call209 (Aue (hQ.mono ((a8.trans l8).trans ac)) I (fun j hj bb=>?_) oV) ?_
   ·have:=Yu aj bb I;omega
   rintro v9 u9 l9 rfl;refine G.b (aw _ _ _ (RW.seq' kV (RW.seq' kV (RW.reg' Tryz.f140 kV fun Post J4 ax=>?_))));refine G.lF k 0<|G.b (ax _ _ _ (RW.condF' kV kV (RW.skip' kV ?_)));refine RW.reg' Tryz.f140 kV fun Post J5 ay=>?_;refine G.lM none b 0 (.slice a ((F5 Q (Dx F ss i)).map nmV).length c) (My (xs:=[.slice a ((F5 Q (Dx F ss i)).map nmV).length c]) (Y.see b4) rfl) ?_;obtain⟨g,c',b8⟩:=Y.ptr (by unfold F5;simp);cases b8;refine G.i k ?_;have bn:((F5 Q (Dx F ss i)).map nmV).length=Q.length+1:=by rw[A03,Ae2]
   refine G.a g 0 ((F5 Q (Dx F ss i)).map nmV).length c (k+1) 1 oV<|G.storeA 1 _ ((F5 Q (Dx F ss i)).map nmV) g ((F5 Q (Dx F ss i)).map nmV).length c (k+1) (.string (mkS (Ae x.2))) kV Y oV rfl rfl ?_;intro bk Z;have an:((F5 Q (Dx F ss i)).map nmV).set (k+1) (.string (mkS (Ae x.2)))=(F5 Q (Dx F ss i++[x])).map nmV:=by
    rw[<-Amm I aj bi,A2g];rfl
   have ah:((F5 Q (Dx F ss i)).map nmV).length=((F5 Q (Dx F ss i++[x])).map nmV).length:=by simp[Ae2]
   rw[an,ah]at Z;have hB:Y4 46 34 1 b (E.upd l (.loop (Vg r))) ((F5 Q (Dx F ss i++[x])).map nmV) bk:=⟨_,_,Z⟩;refine G.b (ay _ _ _ ⟨hB.see t (Ab _ _ _),ac.trans l9,?_⟩);have ab:=hB.base (o:=.loop r) t (by rw[Ab];simp);rw[Dp]at ab;exact ab
  ·refine⟨PH.le_refl _,?_⟩;obtain⟨a,c,h⟩:=ar;refine⟨a,c,?_⟩;rw[Iq _ _ _ (fun e=>t e.symm)];exact h.fresh K
  rintro v' X C ⟨_,H⟩;refine⟨r,by rw[r1];simp,r2,a7 H,C.del l,Ap6 _ _,Axu _ _,?_⟩;obtain⟨a,c,Y⟩:=H;have:=Y.del (l:=l) (by rw[Ad _ _ (fun e=>t e.symm),Ab];simp);rw[Alu t,Rk ai]at this;exact⟨a,c,this⟩
 rintro u9 m9 l9 ⟨a,c,Y⟩;refine G.giveP (ma:=m9) (sm:=PH.mt) kV (by funext g;unfold PH.or;cases m9 g<;>rfl) (fun g=>.inr rfl) (fun g=>.inl rfl) ?_
 intro c0 bx a0;have ae:m9 b=some (.cells [Value.slice a ((F5 Q (Dx F ss F.length)).map nmV).length c].toArray 46 (0,0)):=Y.see (Ab _ _ _);exact G.lU none b 0 (.slice a ((F5 Q (Dx F ss F.length)).map nmV).length c) ((My (xs:=[.slice a ((F5 Q (Dx F ss F.length)).map nmV).length c]) ae rfl).mono a0)<|G.r (.tuple #[.slice a ((F5 Q (Dx F ss F.length)).map nmV).length c,.int .i64 0]) ⟨rfl,_,rfl,Y.list a0⟩
end
section
def Bgk:Code->Bool
 |.ret=>true
 |_=>false
def RWr (P:Program)(l:Nat)(c:Code)(J:PH->PH->Prop)(s:S)(u m:PH):Prop :=
 ∀ (cx:Cx) (ρ:Nat->Nat) (a:Act) (w:World),Rel cx s u m ρ a w->c.wpIn (Fence.wide.inRound l) 0 P (fun e a w=>e=.ret/\∃ s u m ρ,Rel cx s u m ρ a w/\J u m) a w
section
variable {P:Program} {l:Nat} {J:PH->PH->Prop} {s:S} {u m:PH} {c:Code}
def RWr.ret' (e:Bgk c=true)(h:J u m):RWr P l c J s u m:=by
 cases c<;>first|exact fun t ρ a w j=>wpIn_ret ⟨rfl,s,u,m,ρ,j,h⟩|cases e
def RWr.seqN (F:Az5 c=true)(h:RW P l (A0q c) (fun s u m=>RWr P l (A0w c) J s u m) s u m):RWr P l c J s u m:=by
 cases c<;>first|exact fun j ρ a w H=>wpIn_seq (wpIn_mono (h j ρ a w H) fun e a w t=>by
  cases e with
  |normal=>obtain⟨s,u,m,ρ,C,E⟩:=t;exact E j ρ a w C
  |_=>exact t.elim)|cases F
def RWr.seqR (C:Az5 c=true)(h:RWr P l (A0q c) J s u m):RWr P l c J s u m:=by
 cases c<;>first|exact fun t ρ a w E=>wpIn_seq (wpIn_mono (h t ρ a w E) fun e a w j=>by
  obtain⟨rfl,j⟩:=j;exact⟨rfl,j⟩)|cases C
def RWr.block' (C:A0r c=true)(h:RWr P l (A0f c) J s u m):RWr P l c J s u m:=by
 cases c<;>first|exact fun t ρ a w E=>wpIn_block (wpIn_mono (h t ρ a w E) fun e a w j=>by
  obtain⟨rfl,j⟩:=j;exact⟨rfl,j⟩)|cases C
def RWr.condT {x:Operand}{y z:Code}(j:s.ev x=.v zT)(h:RWr P l y J s u m):RWr P l (.cond x y z) J s u m:=fun t ρ a w e =>
 wpIn_cond_true (by rw[e.eval x (by rw[j];simp),j];rfl) (h t ρ a w e)
def RWr.condT' (e:cnB c=true)(j:s.ev (cnX c)=.v zT)(h:RWr P l (cnY c) J s u m):RWr P l c J s u m:=by
 cases c<;>first|exact RWr.condT j h|cases e
end
theorem Bfv {P:Program}{l n:Nat}{r:Loop}{args:zV}{T:List (Nat×Value)}{u m:PH}{K:PH->PH->Prop}(hm:m l=some (.loop r))(hr:r.state=.ready)(hs:args.length=r.params.size)
 (hn:r.tmps.size=n) (hT:∀ x∈T,((r.params.zip args.toArray).foldl (fun tmps (t,a)=>tmps.setIfInBounds t a) r.tmps)[x.1]?=some x.2)
 (h:RW P l r.assign (fun s u1 W=>W l=some (.loop r)/\RWr P l r.body (fun u2 F=>F l=some (.loop (Vg r))/\K u2 F) s u1 (W.upd l (.loop (Vg r)))) (S.ofT n T) u m) :
 Acq P l args u m fun v u' m'=>v=zL/\∃ F,m'=F.upd l (.loop { Vg r with state:=.done,pending:=some .ret })/\K u' F:=by
 intro w I;have hl:=I.pm l _ hm;have a0:((r.params.zip args.toArray).foldl (fun tmps (t,a)=>tmps.setIfInBounds t a) r.tmps).size=n:=by
  rw[<-hn,<-A99];generalize (r.params.zip args.toArray).toList=L;generalize r.tmps=t0;induction L generalizing t0 with
  |nil=>rfl
  |cons x L ih=>grind
 refine⟨r.fn,_,r.assign,r.body,run_yield hl (by simpa using hs),roundIn_of_wpIn trivial ?_⟩;have C:=Rel.start (T:=T) I (tmps:=(r.params.zip args.toArray).foldl (fun tmps (t,a)=>tmps.setIfInBounds t a) r.tmps) hT;rw[a0]at C;refine wpIn_mono (h _ _ _ _ C) fun e a1 w1 hq=>?_;cases e with
 |normal =>
  obtain⟨s1,u1,W,ρ1,j,V,h2⟩:=hq;have X:=j.gd.pm l _ V;have Q:∀ k b,s1.hp k=some b->ρ1 k≠l:=fun k b H e=>by
   obtain⟨_,_,_,U⟩:=j.box k b H;rw[e,V]at U;cases U
  obtain⟨g1,g2⟩:=j.gd.putO (o':=.loop (Vg r)) V rfl;have r2:Rel ⟨w,u,m⟩ s1 u1 (W.upd l (.loop (Vg r))) ρ1 a1 (w1.putObj l (.loop (Vg r))):=by
   refine⟨j.sz,j.tm,j.df.of fun q e _ hu E=>?_,fun k b H=>?_,j.inj,j.lv,g1,j.gr.trans g2⟩
   ·have R:q≠l:=fun e'=>by rw[e',V]at E;cases E
    exact⟨by rw[World.putObj_heap_other R];exact e,hu,by rw[Ad _ _ R];exact E⟩
   obtain⟨e1,e2,e3,U⟩:=j.box k b H;exact⟨by rw[World.putObj_heap_other (Q k b H)];exact e1,e2,e3,by rw[Ad _ _ (Q k b H)];exact U⟩
  refine⟨_,run_beginRound X hr,wpIn_mono (h2 _ _ _ _ r2) fun e2 a2 w2 Z=>?_⟩;obtain⟨rfl,s2,u2,F,ρ2,r3,h3,h4⟩:=Z;have Y:=r3.gd.pm l _ h3;refine⟨_,_,run_endRound (some .ret) Y,?_⟩;obtain⟨g3,g4⟩:=r3.gd.putO (o':=.loop { Vg r with state:=.done,pending:=some .ret }) h3 rfl;exact⟨_,_,_,rfl,g3,r3.gr.trans g4,rfl,F,rfl,h4⟩
 |_=>exact hq.elim
section
variable {P:Program} [A6 P] {fn:Func} {Post:Ce} {st:List KI×S} {u m:PH}
def Bgf (st:List KI×S):List KI×S:=match st.1 with
 |.code (.rangeFunc _ _ _ _)::k=>(.code .ret::k,st.2)
 |_=>st
theorem G.rangeX (g:Operand)(ps:Array Tmp)(x y:Code)(Q:Nat)(cap:zV)(a3 a0:PH->PH->Prop)(h:Azy (adv P st)=some (g,ps,x,y))(I:(adv P st).2.ev g=.v (.func (.func Q) #[] cap.toArray))(hn:F2 (Ais (adv P st)).1=true)
 (hc:∀ args w,(callFunc Q args).run P w=.ok (.enter Q args) w)
 (T:∀ (l:Nat) (r:Loop),r.state=.ready->r.pending=none->r.params=ps->r.assign=x->r.body=y->r.tmps.size=(adv P st).2.n->(∀ d v,(adv P st).2.tm d=.v v->r.tmps[d]?=some v)->m l=none->u l=none ->
  Ag P Q (.func (.yield l) #[] #[]::cap) u (m.upd l (.loop r)) fun _ W X=>∃ r':Loop,r'.state≠.busy/\X l=some (.loop r')/\∃ R,PH.le R X/\R l=none/\(r'.pending=none/\a3 W R\/r'.pending=some .ret/\a0 W R))
 (k:∀ W X,PH.le u W->a3 W X->G P fn Post (Ais (adv P st)) W X) (kr:∀ W X,PH.le u W->a0 W X->G P fn Post (Bgf (adv P st)) W X):G P fn Post st u m:=by
 refine G.stp ?_;generalize adv P st=st' at h I hn T k kr;obtain⟨ks,s⟩:=st'
 match ks,h with
 |.code (.rangeFunc g' ps' x' y')::kk,h =>
  simp only[Azy,A1f,A2i]at h;obtain⟨rfl,rfl,rfl,rfl⟩:=h;simp only[Ais]at hn T k;simp only[Bgf]at kr;refine⟨?_⟩;intro c ρ a w a9 L;show (Code.rangeFunc g' ps' x' y').wp P (It P fn Post c kk) a w;refine (wpIn_wide (n:=0)).1 (wpIn_rangeFunc fun fid _=>?_);obtain⟨C,F⟩:∃ C:Loop,C={ state:=.ready,pending:=none,fn:=fid,tmps:=a.tmps,params:=ps',assign:=x',body:=y',defers:=w.heap.size }:=⟨_,rfl⟩;have Y:=run_enterLoop_outer (P:=P) (w:=w) fid a.tmps ps' x' y';rw[<-F]at Y;obtain⟨E,H⟩:∃ E,E=w.alloc (.deferred (some [])):=⟨_,rfl⟩;rw[<-H]at Y;have ad:E.heap.size=w.heap.size+1:=by rw[H,B6]
  rw[<-ad]at Y;have a4:E.heap[w.heap.size]?=some (.deferred (some [])):=by rw[H];exact Cn _ _
  have ai:u w.heap.size=none:=L.gd.pu.none (A08 _);have ah:m w.heap.size=none:=L.gd.pm.none (A08 _);have a1:Bv u m E:=by
   refine⟨fun g o I=>?_,fun g o I=>?_,L.gd.ap,fun g cs t fr j z I hj=>?_⟩
   ·rw[H,Aq _ _ (L.gd.pu.lt I)];exact L.gd.pu g o I
   ·rw[H,Aq _ _ (L.gd.pm.lt I)];exact L.gd.pm g o I
   by_cases e:g=w.heap.size
   ·subst e;rw[a4]at I;simp at I
   have K:=Aw I;rw[ad]at K;rw[H,Aq _ _ oV]at I;exact L.gd.cl g cs t fr j z I hj
  have a6:B0 c.u0 c.m0 c.w0 u m E:=L.gr.trans ⟨oV,fun g I _=>by rw[H];exact Aq _ _ I,fun _ _=>rfl,fun _ _ h=>h,by rw[H];exact⟨rfl,rfl⟩,fun _=>by rw[H];exact⟨rfl,A08 _⟩⟩;have U:Rel c s u m ρ { a with defers:=Xm w.heap.size::a.defers } E:=by
   refine⟨L.sz,L.tm,?_,fun k b hb=>?_,L.inj,L.lv,a1,a6⟩
   ·obtain⟨ds,d1,d2,ae,d3⟩:=L.df;refine⟨w.heap.size::ds,A4j.2 ⟨fun aa=>?_,d1⟩,by rw[A2u,<-d2];rfl,by rw[<-ae];rfl,fun q hq=>?_⟩
    ·obtain⟨e,_⟩:=d3 _ aa;exact absurd (Aw e) oV
    rcases A1g.1 hq with rfl|hq
    ·exact⟨a4,L.gr.sz,ai,ah⟩
    obtain⟨e1,e2,e3,e4⟩:=d3 q hq;exact⟨by rw[H,Aq _ _ (Aw e1)];exact e1,e2,e3,e4⟩
   obtain⟨⟨cs,f1,f2,f3⟩,f4⟩:=L.box k b hb;exact⟨⟨cs,by rw[H,Aq _ _ (Aw f1)];exact f1,f2,f3⟩,f4⟩
  obtain⟨g1,g2,g3,g4⟩:=a1.newO (o:=.loop C) rfl;have V:Rel c s u (m.upd E.heap.size (.loop C)) ρ { a with defers:=Xm w.heap.size::a.defers } (E.alloc (.loop C)):=by
   refine⟨U.sz,U.tm,U.df.of fun q e _ hu Z=>?_,fun k b hb=>?_,U.inj,U.lv,g1,U.gr.trans g2⟩
   ·have K:=Aw e;exact⟨by rw[Aq _ _ K];exact e,hu,by rw[Ad _ _ oV];exact Z⟩
   obtain⟨⟨cs,f1,f2,f3⟩,f4,f5,f6⟩:=U.box k b hb;have K:=Aw f1;exact⟨⟨cs,by rw[Aq _ _ K];exact f1,f2,f3⟩,f4,f5,by rw[Ad _ _ oV];exact f6⟩
  have ag:a.eval g'=.func (.func Q) #[] cap.toArray:=by rw[L.eval g' (by rw[I];simp),I];rfl
  have af:=T E.heap.size C (by rw[F]) (by rw[F]) (by rw[F]) (by rw[F]) (by rw[F]) (by rw[F];exact L.sz) (fun d v hd=>by
   have:=L.tm d (by rw[hd];simp);rw[hd]at this;rw[F];exact this) g3 g4
  obtain⟨dd,a5⟩:∃ dd:Deferred,dd={ target:=.fn (.func Q) cap.toArray,args:=#[.func (.yield E.heap.size) #[] #[]] }:=⟨_,rfl⟩;have ac:(resolve a.eval (rangeCall g' E.heap.size) 0).run P (E.alloc (.loop C))=.ok dd (E.alloc (.loop C)):=by
   rw[a5];simp only[resolve,ag,Deferred.ofValue];simp[Act.eval]
  have a7:(invoke dd.target dd.args).run P (E.alloc (.loop C))=.ok (.enter Q (.func (.yield E.heap.size) #[] #[]::cap).toArray) (E.alloc (.loop C)):=by
   rw[a5];simp[invoke,hc]
  refine⟨E.heap.size,[Xm w.heap.size],E.alloc (.loop C),dd,E.alloc (.loop C),Q,(.func (.yield E.heap.size) #[] #[]::cap).toArray,E.alloc (.loop C),Y,ac,fun _ _=>trivial,a7,(fun h=>by cases h),?_⟩;refine callsIn_wide.2 (Calls.mono (af _ g1) fun e w3 he=>?_);obtain⟨v,W,X,rfl,k1,k2,r',q1,q3,R,q4,q5,q6⟩:=he;have a8:=k1.pm _ _ q3;obtain⟨p1,p2⟩:=k1.putO (o':=.loop { r' with state:=.exhausted }) q3 rfl;have a2:PH.le R (X.upd E.heap.size (.loop { r' with state:=.exhausted })):=fun g o I=>by
   by_cases e:g=E.heap.size
   ·grind
   rw[Ad _ _ e];exact q4 g o I
  have ab:Rel c s W (X.upd E.heap.size (.loop { r' with state:=.exhausted })) ρ { a with defers:=Xm w.heap.size::a.defers } (w3.putObj E.heap.size (.loop { r' with state:=.exhausted })):=by
   have g5:=k2.trans p2;refine⟨V.sz,V.tm,V.df.of fun q e _ hu Z=>⟨by rw[g5.old _ (Aw e) Z];exact e,by rw[g5.us _ (Aw e)];exact hu,g5.ms _ (Aw e) Z⟩,fun k b hb=>?_,V.inj,V.lv,p1,V.gr.trans g5⟩;obtain⟨e1,e2,e3,e4⟩:=V.box k b hb;have K:ρ k<(E.alloc (.loop C)).heap.size:=by obtain⟨cs,e,_⟩:=e1;exact Aw e
   refine⟨?_,e2,?_,?_⟩
   ·rw[g5.old _ K e4];exact e1
   ·rw[g5.us _ K];exact e3
   exact g5.ms _ K e4
  rcases q6 with ⟨q2,q6⟩|⟨q2,q6⟩
  ·refine⟨none,_,by rw[<-q2];exact run_endLoop a8 q1,?_⟩;have hk:=(k W R (k2.le g1.pu) q6).out;rw[Sym.ofNo hn]at hk;exact hk c ρ _ _ a9 (ab.less a2)
  refine⟨some .ret,_,by rw[<-q2];exact run_endLoop a8 q1,?_⟩;have hk:=(kr W R (k2.le g1.pu) q6).out;rw[Sym.ofNo rfl]at hk;exact (wpIn_wide (n:=0)).2 (hk c ρ _ _ a9 (ab.less a2))
end
end
section
variable {a:Act}{c:Cx}{s:S}{v:Value}{w:World}{y:PH}{ρ:Nat->Nat}
section
variable {P:Program} [A6 P] {fn:Func} {Post:Ce} {st:List KI×S} {u m:PH}
def Bff (j:Rel c s u m ρ a w)(H:Fj y w){r:ResultVar}{x:Value}(h:Asq P s y r x):(Ms a.tmps r).run P w=.ok x w:=by
 rcases h with h|⟨p,t,g,off,I,rfl,e,C,E,F⟩
 ·exact Ys j h
 have:=j.tm p (by rw[e];simp);rw[e]at this;simp[Ms,this,SV.den,asAddr,Kj C E F H]
def Be8 (t:Rel c s u m ρ a w)(C:Fj y w){l:zV}(h:T6 P s y fn.results.toList l):(results fn a.tmps).run P w=.ok (Pc l) w:=by
 have key:∀ (j:List ResultVar) (l:zV),T6 P s y j l->(j.mapM (Ms a.tmps)).run P w=.ok l w:=by
  intro j;induction j with
  |nil=>intro l h;cases l with|nil=>simp|cons=>exact h.elim
  |cons r j ih =>
   intro l h;cases l with
   |nil=>exact h.elim
   |cons x xs =>
    rw[A9p];simp only[Sem.run_bind,Bff t C h.1,Result.andThen_ok,ih xs h.2,Sem.run_pure]
 have e:results fn a.tmps=(do let vs <-fn.results.mapM (Ms a.tmps);pure (if h:vs.size=1 then vs[0] else .tuple vs)):=by
  unfold results;rfl
 rw[e,<-A5x (xs:=fn.results),A81];simp only[Sem.run_bind,Sem.run_map,key _ l h,Result.andThen_ok,Sem.run_pure]
 congr 1
 match l with
 |[]=>rfl
 |[x]=>rfl
 |x::y::l=>rfl
def G.retU (l:zV)(h:Akf (adv P st)=true)(C:T6 P (adv P st).2 u fn.results.toList l)(hp:Post.post (Pc l) u m):G P fn Post st u m:=by
 refine G.stp ?_;generalize adv P st=st' at h C;obtain⟨E,s⟩:=st';unfold Akf at h;simp only at h;split at h
 ·refine⟨?_⟩;intro c ρ a w t e;exact wp_ret (J6 (e.ends fun w' j=>⟨Be8 (a:=⟨a.tmps,[]⟩) j j.gd.pu C,_,_,_,rfl,j.gd,j.gr,hp⟩).1 _)
 ·refine⟨?_⟩;intro c ρ a w t e;exact (e.ends fun w' j=>⟨Be8 (a:=⟨a.tmps,[]⟩) j j.gd.pu C,_,_,_,rfl,j.gd,j.gr,hp⟩).2
 cases h
end
def Bf7 {u:PH}{L:List Par}{p:Par}(h:Ac u v 2 (L.map Ap))(K:p∉L)(T:L.length<=1000000) :
 zF 209 [v,Ap p] u fun r _=>r=zI (-1):=by
 obtain⟨a,c,rfl⟩:=h.opn;rw[A03]at h⊢;refine Fn0.o func209<|G.l (ι:=Nat) (fun i=>[(0,sV a L.length c),(3,.p 0 0),(7,iV L.length),(8,iV i)]) (fun _=>[(0,⟨118,[iV p.1,tV p.2]⟩)])
  (fun i W Q=>i<=L.length/\Q=PH.mt) (fun i=>L.length-i) 0 ⟨oV,rfl⟩ ?_
 rintro J i H X U E ⟨hi,rfl⟩;by_cases t:i<L.length
 ·refine G.lT i L.length ?_;have C:L[i]?=some L[i]:=A01 t;obtain⟨R,V,rfl,F⟩:=Ac.at' (h.mono E) (j:=i) (e:=Ap L[i]) (by simp[C]);refine G.N L.length c t F ?_;have I:p≠L[i]:=fun e=>K (by rw[e];exact A09 t);exact G.eqAgg 118 #[zI p.1,zS p.2] #[zI L[i].1,zS L[i].2] false kV kV kV (fun w=>by rw[<-decide_eq_false I];exact Bq.eq p L[i] w)<|G.i i<|G.b (H (i+1) _ _ _ cV E ⟨oV,rfl⟩ oV)
 exact G.lF i L.length<|G.z (zI (-1))
def Bfx {u:PH}{v pv tv:Value}{T:List (List UInt8×Nat)}{R:List Br}{F:List Al}{lab:Int}{ss:List (List UInt8)}{Q:List Par}(h:Mv u v tv T R F lab ss)(hQ:Ac u pv 2 (Q.map Ap))(hs:Hb Bk Q)(hl:Q.length<=100000) :
 Fn0 prog 140 [v,pv,tv] u fun r u'=>(∀ x∈Dx F ss F.length,x.1∈Q)/\(∃ lv,r=.tuple #[lv,.int .i64 0]/\Ac u' lv 1 ((F5 Q (Dx F ss F.length)).map nmV))\/(∃ x∈Dx F ss F.length,x.1∉Q)/\r=.tuple #[.slice none 0 0,.int .i64 16]:=by
 have bd:=Lm h;have b0:=fun (u':PH) (l:PH.le u u')=>Aql (h.mono l);have b8:=h;have cg:=h.ok.f2;obtain⟨⟨xa,xc,xb,xd,xe,xf,rfl,cd,cc,cb⟩,ok,hS,hT⟩:=h;obtain⟨ya,yc,rfl⟩:=hS.opn;obtain⟨pa,pc,rfl⟩:=hQ.opn;rw[A03]at hS bd b0 b8 hQ⊢;rw[A03]at⊢;have b5:=hs.nodup Et;refine Fn0.o func140<|G.c call89 bd ?_;rintro v1 u1 l1 rfl;refine G.nF 0 0<|G.l (ι:=Nat) (fun i=>[(2,sV ya ss.length yc),(3,.p 0 0),(4,.p 1 0),(6,.p 2 0),(7,.p 3 0),(9,iV i)])
  (fun _=>[(0,⟨30,[sV xa T.length xc,sV xb R.length xd,sV xe F.length xf,iV lab]⟩),(1,⟨43,[sV pa Q.length pc]⟩),(2,⟨46,[sV none 0 0]⟩),(3,⟨39,[iV 0]⟩)])
  (fun i u' H=>1<=i/\H=PH.mt) (fun i=>Q.length-i) 1 ⟨oV,rfl⟩ ?_
 rintro J i hJ u2 m2 l2 ⟨hi,rfl⟩;by_cases ar:i<Q.length
 ·refine G.lT i Q.length ?_;have az:=hQ.mono (l1.trans l2);have bj:Q[i]?=some Q[i]:=A01 ar;have bk:Q[i-1]?=some (Q[i-1]'oV):=A01 oV;have bm:Bk (Q[i-1]'oV) Q[i]<0:=A3n.1 hs (i-1) i oV ar oV;obtain⟨ba,oa,e0,ea⟩:=Ac.at' az (j:=i) (e:=Ap Q[i]) (by simp[bj]);obtain⟨c8,cj,aw,eb⟩:=Ac.at' az (j:=i-1) (e:=Ap (Q[i-1]'oV)) (by simp[bk]);rw[e0]at aw;cases aw;subst e0;refine G.s i 1 (i-1:Nat)<|G.a ba oa Q.length pc (i-1) 2 oV<|G.lU (some 2) ba (oa+(i-1)*2) (Ap (Q[i-1]'oV)) eb<|G.a ba oa Q.length pc i 2 ar<|G.lU (some 2) ba (oa+i*2) (Ap Q[i]) ea<|G.c call127 (Re _ _ true (decide_eq_true bm)) ?_;rintro v3 u3 l3 rfl;exact G.i i<|G.b (hJ (i+1) _ _ _ cV (l2.trans l3) ⟨oV,rfl⟩ oV)
 refine G.lF i Q.length ?_;clear hJ;refine G.pub 1 43 [.slice pa Q.length pc] kV kV ?_;intro bp c3 c4;refine G.pub 2 46 [.slice none 0 0] kV kV ?_;intro X _ Z;refine G.pub 3 39 [.int .i64 0] kV kV ?_;intro W _ I;obtain⟨V,ad⟩:∃ V,V=((PH.mt.upd bp (.cells [Value.slice pa Q.length pc].toArray 43 (0,0))).upd X (.cells [Value.slice none 0 0].toArray 46 (0,0))).upd W (.cells [Value.int .i64 0].toArray 39 (0,0)):=⟨_,rfl⟩;rw[<-ad];have Y:W≠X:=fun e=>by subst e;rw[Ab]at I;cases I
 have bf:W≠bp:=fun e=>by subst e;rw[Ad _ _ Y,Ab]at I;cases I
 have be:X≠bp:=fun e=>by subst e;rw[Ab]at Z;cases Z
 have ac:V bp=some (.cells [Value.slice pa Q.length pc].toArray 43 (0,0)):=by rw[ad,Ad _ _ bf.symm,Ad _ _ be.symm,Ab]
 have a0:V X=some (.cells [Value.slice none 0 0].toArray 46 (0,0)):=by rw[ad,Ad _ _ Y.symm,Ab]
 have a3:V W=some (.cells [Value.int .i64 0].toArray 39 (0,0)):=by rw[ad,Ab]
 clear Z I ad;refine G.buildM 34 1 16 (.string (mkS [])) [.string (mkS [49])] kV (Gc [[49]]) rfl oV mV mV ?_;intro g3 m3 ax;refine G.B 34 1 16 (.string (mkS [])) [.string (mkS [48])] (Gc [[48]]) ?_;intro g4 u4 l4 e4;have bi:Ac u4 (.slice (some ⟨g4,0,none⟩) 1 1) 1 [.string (mkS [48])]:=⟨_,1,rfl,A08 _,fun j e hj=>⟨g4,0,rfl,e4 j e hj⟩⟩;refine G.lM none bp 0 (.slice pa Q.length pc) (My (xs:=[.slice pa Q.length pc]) (ax.see ac) rfl)<|G.c call207 (Ao2 (n:=Q.length) bi (Gc [[48]]) oV) ?_;intro v5 u5 l5 k5;obtain⟨a5,c5,rfl⟩:=Ac.opn k5;have bn:(F5 Q []).map nmV = [Value.string (mkS [49])]++List.replicate Q.length (Value.string (mkS [48])):=by
  rw[Ar9,A2u,A8z];rfl
 refine G.appendL 34 1 16 (.string (mkS [])) _ [.string (mkS [49])] (List.replicate Q.length (.string (mkS [48]))) _ a5 _ c5 kV rfl rfl oV ax k5 ((Gc [[48]]).replicate _) gV gV ?_;intro v6 m6 a4;rw[<-bn]at a4;obtain⟨a6,c6,rfl⟩:=a4.shape;refine G.pub 9006 46 [.slice a6 ((F5 Q []).map nmV).length c6] kV kV ?_;intro b ce aq;have C:∀ {k o},V k=some o->b≠k:=fun h e=>by subst e;rw[a4.see h]at aq;cases aq
 have bg:=a4.fresh (o:=.cells [Value.slice a6 ((F5 Q []).map nmV).length c6].toArray 46 (0,0)) aq;have af:PH.le u u5:=(((l1.trans l2).trans l4).trans l5);refine G.c call208 (b0 u5 af) ?_;rintro v8 u8 l8 ⟨b1,b2,rfl,e1,e2⟩;have bh:Y4 46 34 1 b V ((F5 Q []).map nmV) (m6.upd b (.cells [Value.slice a6 ((F5 Q []).map nmV).length c6].toArray 46 (0,0))):=⟨a6,c6,bg⟩;refine G.rangeX (rfG Tryz.f140) (A0v Tryz.f140) (rfX Tryz.f140) (rfY Tryz.f140) 251 [.pointer (some ⟨b1,0,none⟩),.pointer (some ⟨b2,0,none⟩)] (fun u' H=>(∀ x∈Dx F ss F.length,x.1∈Q)/\Y4 46 34 1 b V ((F5 Q (Dx F ss F.length)).map nmV) H) (fun u' H=>(∃ x∈Dx F ss F.length,x.1∉Q)/\H X=some (.cells [Value.slice none 0 0].toArray 46 (0,0))/\H W=some (.cells [Value.int .i64 16].toArray 39 (0,0))) kV kV kV call251 ?_ ?_ ?_
 ·intro l r r1 r2 r3 r4 r5 r6 r7 a8 b3;have U:b≠l:=fun e=>by subst e;rw[Ab]at a8;cases a8
  have a1:∀ {k o},V k=some o->k≠l:=fun h e=>by subst e;rw[Ad _ _ (C h).symm,a4.see h]at a8;cases a8
  have b4:V l=none:=by
   cases e:V l with
   |none=>rfl
   |some o=>exact absurd rfl (a1 e)
  have au:r.params = #[46,47]:=r3.trans kV;have hn:r.tmps.size=59:=r6.trans kV;have bu:r.tmps[4]?=some (.pointer (some ⟨bp,0,none⟩)):=r7 4 _ kV;have bw:r.tmps[6]?=some (.pointer (some ⟨X,0,none⟩)):=r7 6 _ kV;have bx:r.tmps[7]?=some (.pointer (some ⟨W,0,none⟩)):=r7 7 _ kV;have bb:r.tmps[10]?=some (.pointer (some ⟨b,0,none⟩)):=r7 10 _ kV;have aa:∀ {es:List Value} {H:PH},Y4 46 34 1 b (V.upd l (.loop r)) es H->H l=some (.loop r):=fun h=>h.see U (Ab _ _ _);refine Ag.weak (Bcw (b8.mono (af.trans l8)) e1 e2 (fun L u' H=>PH.le u8 u'/\(∀ x∈L,x.1∈Q)/\Y4 46 34 1 b (V.upd l (.loop r)) ((F5 Q L).map nmV) H)
   (fun u' H=>∃ m2:PH,H=m2.upd l (.loop { Vg r with state:=.done,pending:=some .ret })/\(∃ x∈Dx F ss F.length,x.1∉Q)/\m2 X=some (.cells [Value.slice none 0 0].toArray 46 (0,0))/\m2 W=some (.cells [Value.int .i64 16].toArray 39 (0,0))) (fun _ _ _ _ hl h=>⟨h.1.trans hl,h.2⟩) (fun i x u' H hi hl hJ hx ch=>?_) ?_) ?_
  ·obtain⟨ap,ao,hJ⟩:=hJ;have ai:∀ y∈([(4,.pointer (some ⟨bp,0,none⟩)),(6,.pointer (some ⟨X,0,none⟩)),(7,.pointer (some ⟨W,0,none⟩)),(10,.pointer (some ⟨b,0,none⟩)),(46,Ap x.1),(47,.string (mkS (Ae x.2)))]:List (Nat×Value)),((r.params.zip [Ap x.1,.string (mkS (Ae x.2))].toArray).foldl (fun tmps (t,a)=>tmps.setIfInBounds t a) r.tmps)[y.1]?=some y.2:=fun y E=>by
    rw[au,Aje];simp only[A1g,A11,or_false]at E;rcases E with rfl|rfl|rfl|rfl|rfl|rfl
    ·rw[A2m mV,A2m mV];exact bu
    ·rw[A2m mV,A2m mV];exact bw
    ·rw[A2m mV,A2m mV];exact bx
    ·rw[A2m mV,A2m mV];exact bb
    ·rw[A2m mV];simp[hn]
    simp[hn]
   by_cases ae:x.1∈Q
   case neg =>
    refine Acq.mono (Bfv (n:=59) (K:=fun u2 m2=>(∃ x∈Dx F ss F.length,x.1∉Q)/\m2 X=some (.cells [Value.slice none 0 0].toArray 46 (0,0))/\m2 W=some (.cells [Value.int .i64 16].toArray 39 (0,0))) (aa hJ) r1 (by rw[au];rfl) hn ai ?_) fun _ _ _ ⟨h1,m2,h2,h3⟩=>.inr ⟨h1,m2,h2,h3⟩;rw[r4,r5];refine RW.seq' kV (RW.reg' Tryz.f140 kV fun Post J' aj=>?_);refine G.b (aj _ _ _ (RW.reg' Tryz.f140 kV fun Post J2 ak=>?_));have a2:=hJ.base (o:=.loop (Vg r)) U (by rw[Ab];simp);rw[Dp]at a2;have av:∀ {k o},V k=some o->(H.upd l (.loop (Vg r))) k=some o:=fun h=>a2.see (C h) (by rw[Ad _ _ (a1 h)];exact h);refine G.b (ak _ _ _ ⟨aa hJ,RWr.block' kV (RWr.seqN kV (RW.reg' Tryz.f140 kV fun Post J3 al=>?_))⟩);refine G.lM none bp 0 (.slice pa Q.length pc) (My (xs:=[.slice pa Q.length pc]) (av ac) rfl)<|G.c call209 (Bf7 (hQ.mono ((af.trans l8).trans ap)) ae oV) ?_;rintro v9 u9 l9 rfl;refine G.b (al _ _ _ (RWr.seqR kV (RWr.seqN kV (RW.reg' Tryz.f140 kV fun Post J4 am=>?_))));refine G.lT (-1) 0<|G.b (am _ _ _ (RWr.condT' kV kV (RWr.seqN kV (RW.reg' Tryz.f140 kV fun Post J5 an=>?_))));refine G.storeM 1 X 0 46 [.slice none 0 0] (.slice none 0 0) kV (av a0) (fun y E=>by simp at E;subst E;rfl) mV rfl rfl<|G.storeM 1 W 0 39 [.int .i64 0] (.int .i64 16) kV (by rw[Ad _ _ Y];exact av a3) (fun y E=>by simp at E;subst E;rfl) mV rfl rfl<|G.b (an _ _ _ (RWr.ret' kV ⟨?_,⟨x,hx,ae⟩,?_,?_⟩))
    ·rw[Ad _ _ (a1 a3).symm,Ad _ _ (a1 a0).symm,Ab]
    ·rw[Ad _ _ Y.symm,Ab];rfl
    rw[Ab];rfl
   refine Acq.mono ?_ fun _ _ _ h=>.inl h;obtain⟨k,hk,bs⟩:=A2y ae;have a7:Q[k]?=some x.1:=by rw[A01 hk,bs]
   have bz:x.1∉(Dx F ss i).map (·.1):=fun hm=>by
    obtain⟨y,E,c0⟩:=A1b.1 hm;obtain⟨j,f,hj,_,hv⟩:=F9.1 E;have:=Ow hv;rw[c0]at this;omega
   refine Amn (n:=59) (aa hJ) r1 r2 (by rw[au];rfl) hn ai ?_;rw[r4,r5];refine RW.seq' kV (RW.reg' Tryz.f140 kV fun Post J' aj=>?_);refine G.b (aj _ _ _ (RW.reg' Tryz.f140 kV fun Post J2 ak=>?_));have a2:=hJ.base (o:=.loop (Vg r)) U (by rw[Ab];simp);rw[Dp]at a2;have bt:(H.upd l (.loop (Vg r))) bp=some (.cells [Value.slice pa Q.length pc].toArray 43 (0,0)):=a2.see (C ac) (by rw[Ad _ _ (a1 ac)];exact ac);obtain⟨a,c,hA⟩:=a2;have bl:∀ {n c':Nat} {a':Option Addr},((V.upd l (.loop (Vg r))).upd b (.cells #[.slice a' n c'] 46 (0,0))) b=some (.cells [Value.slice a' n c'].toArray 46 (0,0)):=Ab _ _ _;refine G.b (ak _ _ _ ⟨aa hJ,RW.block' kV (RW.seq' kV (RW.reg' Tryz.f140 kV fun Post J3 al=>?_))⟩);refine G.lM none bp 0 (.slice pa Q.length pc) (My (xs:=[.slice pa Q.length pc]) bt rfl)<|G.c call209 (Aue (hQ.mono ((af.trans l8).trans ap)) a7 (fun j hj br=>?_) oV) ?_
   ·have:=Yu b5 br a7;omega
   rintro v9 u9 l9 rfl;refine G.b (al _ _ _ (RW.seq' kV (RW.seq' kV (RW.reg' Tryz.f140 kV fun Post J4 am=>?_))));refine G.lF k 0<|G.b (am _ _ _ (RW.condF' kV kV (RW.skip' kV ?_)));refine RW.reg' Tryz.f140 kV fun Post J5 an=>?_;refine G.lM none b 0 (.slice a ((F5 Q (Dx F ss i)).map nmV).length c) (My (xs:=[.slice a ((F5 Q (Dx F ss i)).map nmV).length c]) (hA.see bl) rfl) ?_;obtain⟨g,c',bo⟩:=hA.ptr (by unfold F5;simp);cases bo;refine G.i k ?_;have c7:((F5 Q (Dx F ss i)).map nmV).length=Q.length+1:=by rw[A03,Ae2]
   refine G.a g 0 ((F5 Q (Dx F ss i)).map nmV).length c (k+1) 1 oV<|G.storeA 1 _ ((F5 Q (Dx F ss i)).map nmV) g ((F5 Q (Dx F ss i)).map nmV).length c (k+1) (.string (mkS (Ae x.2))) kV hA oV rfl rfl ?_;intro c1 ag;have b9:((F5 Q (Dx F ss i)).map nmV).set (k+1) (.string (mkS (Ae x.2)))=(F5 Q (Dx F ss i++[x])).map nmV:=by
    rw[<-Amm a7 b5 bz,A2g];rfl
   have b3:((F5 Q (Dx F ss i)).map nmV).length=((F5 Q (Dx F ss i++[x])).map nmV).length:=by simp[Ae2]
   rw[b9,b3]at ag;have hB:Y4 46 34 1 b (V.upd l (.loop (Vg r))) ((F5 Q (Dx F ss i++[x])).map nmV) c1:=⟨_,_,ag⟩;refine G.b (an _ _ _ ⟨hB.see U (Ab _ _ _),ap.trans l9,fun y E=>(A1h.1 E).elim (ao y) fun e=>by rw[A12.1 e];exact ae,?_⟩);have ay:=hB.base (o:=.loop r) U (by rw[Ab];simp);rw[Dp]at ay;exact ay
  ·refine⟨PH.le_refl _,fun y E=>by simp at E,?_⟩;obtain⟨a,c,h⟩:=bh;refine⟨a,c,?_⟩;rw[Iq _ _ _ (fun e=>U e.symm)];exact h.fresh a8
  rintro v' u' H (⟨_,ao,hJ⟩|⟨m2,rfl,hx,h6,h7⟩)
  ·refine⟨r,by rw[r1];simp,aa hJ,H.del l,Ap6 _ _,Axu _ _,.inl ⟨r2,ao,?_⟩⟩;obtain⟨a,c,hA⟩:=hJ;have:=hA.del (l:=l) (by rw[Ad _ _ (fun e=>U e.symm),Ab];simp);rw[Alu U,Rk b4]at this;exact⟨a,c,this⟩
  have hd:∀ {k},k≠l->((m2.upd l (.loop { Vg r with state:=.done,pending:=some .ret })).del l) k=m2 k:=fun h=>by
   show (if _ then _ else _)=_;rw[if_neg h,Ad _ _ h]
  exact⟨_,mV,Ab _ _ _,_,Ap6 _ _,Axu _ _,.inr ⟨rfl,hx,by rw[hd (a1 a0)];exact h6,by rw[hd (a1 a3)];exact h7⟩⟩
 ·rintro u9 m9 l9 ⟨bq,hB⟩;have Z:=C a0;have I:=C a3;have hs:∀ {k o},V k=some o->m9 k=some o:=fun h=>hB.see (C h) h;have ca:=(hB.base (o:=.cells [Value.slice none 0 0].toArray 46 (0,0)) Z (by rw[a0];simp));obtain⟨a,c,hA⟩:=hB;have ah:m9 b=some (.cells [Value.slice a ((F5 Q (Dx F ss F.length)).map nmV).length c].toArray 46 (0,0)):=hA.see (Ab _ _ _);refine G.lM none b 0 (.slice a ((F5 Q (Dx F ss F.length)).map nmV).length c) (My (xs:=[.slice a ((F5 Q (Dx F ss F.length)).map nmV).length c]) ah rfl)<|G.storeM 1 X 0 46 [.slice none 0 0] (.slice a ((F5 Q (Dx F ss F.length)).map nmV).length c) kV (hs a0) (fun y E=>by simp at E;subst E;rfl) mV rfl rfl<|G.storeM 1 W 0 39 [.int .i64 0] (.int .i64 0) kV (by rw[Ad _ _ Y];exact hs a3) (fun y E=>by simp at E;subst E;rfl) mV rfl rfl ?_;obtain⟨mm,ab⟩:∃ mm,mm=(m9.upd X (.cells ([Value.slice none 0 0].take 0++(Value.slice a ((F5 Q (Dx F ss F.length)).map nmV).length c).cells.toList++[Value.slice none 0 0].drop (0+1)).toArray 46 (0,0))).upd W (.cells ([Value.int .i64 0].take 0++(Value.int .i64 0).cells.toList++[Value.int .i64 0].drop (0+1)).toArray 39 (0,0)):=⟨_,rfl⟩;rw[<-ab];refine G.giveP (ma:=mm) (sm:=PH.mt) kV (by funext g;unfold PH.or;cases mm g<;>rfl) (fun g=>.inr rfl) (fun g=>.inl rfl) ?_
  intro c2 ci a9;have h6:mm X=some (.cells [Value.slice a ((F5 Q (Dx F ss F.length)).map nmV).length c].toArray 46 (0,0)):=by rw[ab,Ad _ _ Y.symm,Ab];rfl
  have h7:mm W=some (.cells [Value.int .i64 0].toArray 39 (0,0)):=by rw[ab,Ab];rfl
  have hL:Ac c2 (.slice a ((F5 Q (Dx F ss F.length)).map nmV).length c) 1 ((F5 Q (Dx F ss F.length)).map nmV):=by
   have h1:=Y4.base (o:=.cells ([Value.slice none 0 0].take 0++(Value.slice a ((F5 Q (Dx F ss F.length)).map nmV).length c).cells.toList++[Value.slice none 0 0].drop (0+1)).toArray 46 (0,0)) ⟨a,c,hA⟩ Z (by rw[a0];simp);have h2:=h1.base (l:=W) (o:=.cells ([Value.int .i64 0].take 0++(Value.int .i64 0).cells.toList++[Value.int .i64 0].drop (0+1)).toArray 39 (0,0)) I (by rw[Ad _ _ Y,a3];simp);rw[<-ab]at h2;obtain⟨a',c',h3⟩:=h2;have e:=h3.see (Ab _ _ _);rw[ab,Ad _ _ I,Ad _ _ Z,ah]at e;simp only[A1f,Obj.cells.injEq,List.toArray_inj,A5j,A3g,Value.slice.injEq,and_true,true_and]at e;obtain⟨rfl,rfl⟩:=e;exact h3.list a9
  exact G.retU [.slice a ((F5 Q (Dx F ss F.length)).map nmV).length c,.int .i64 0] kV ⟨.inr ⟨6,_,X,0,none,rfl,kV,kV,rfl,(My (xs:=[.slice a ((F5 Q (Dx F ss F.length)).map nmV).length c]) h6 rfl).mono a9⟩,.inr ⟨7,_,W,0,none,rfl,kV,kV,rfl,(My (xs:=[.int .i64 0]) h7 rfl).mono a9⟩,trivial⟩ ⟨rfl,.inl ⟨bq,_,rfl,hL⟩⟩
 rintro u9 m9 l9 ⟨hx,h6,h7⟩;exact G.retM [.slice none 0 0,.int .i64 16] PH.mt kV ⟨.inr ⟨6,_,X,0,none,rfl,kV,kV,rfl,My (xs:=[.slice none 0 0]) h6 rfl⟩,.inr ⟨7,_,W,0,none,rfl,kV,kV,rfl,My (xs:=[.int .i64 16]) h7 rfl⟩,trivial⟩ (PH.mt_le _) ⟨rfl,.inr ⟨hx,rfl⟩⟩
end
section
section
variable {P:Program}
def Ahc {t e ti ts:TypeId}{k:IntKind}(V:P.underlying t=some (.array 2 e))(hi:(P.info? e).isSome=true)(U:P.cellsOf e=2)(j:szB P e=some 2)
 (I:(P.fieldsOf e).toList.map Abc = [(true,ti,0),(true,ts,1)]) (m:P.underlying e=some (.struct (P.fieldsOf e))) (J:P.stoodInHeld e=false) (K:P.underlying ti=some (.int k)) (Q:P.underlying ts=some .string) (d:Nat) (a b:Par×Par) (w:World) :
 (Op.equalIn (d+3) t (prV a) (prV b)).run P w=.ok (decide (a=b)) w:=by
 have h:Qj P e=some true:=by unfold Qj;rw[m]
 obtain⟨i,hi⟩:=A6a.1 hi;unfold prV;rw[run_equalIn_array w (d+2) _ _ V hi,U];obtain⟨⟨a1,a2⟩,a3,u⟩:=a;obtain⟨⟨C,E⟩,F,H⟩:=b;rw[show List.range 2 = [0,1] from rfl];simp only[Op.eqItems,Sem.run_bind,A58,A3i];rw[Jq h j,Result.andThen_ok,Jq h j,Result.andThen_ok];have R:=Qn I m J K Q d (a1,a2) (C,E) w;have T:=Qn I m J K Q d (a3,u) (F,H) w;unfold Ap at R T;have W:(#[Value.int .i64 a1,zS a2,zI a3,zS u].extract 0 (0+2)) = #[zI a1,zS a2]:=rfl;have X:(#[Value.int .i64 C,zS E,zI F,zS H].extract 0 (0+2)) = #[zI C,zS E]:=rfl;have Y:(#[Value.int .i64 a1,zS a2,zI a3,zS u].extract 2 (2+2)) = #[zI a3,zS u]:=rfl;have Z:(#[Value.int .i64 C,zS E,zI F,zS H].extract 2 (2+2)) = #[zI F,zS H]:=rfl;simp only[W,X,R,Result.andThen_ok];by_cases e:((a1,a2):Par)=(C,E)
 ·simp only[e,decide_true,A72,A4z,if_false,Sem.run_bind];rw[Jq h j,Result.andThen_ok,Jq h j,Result.andThen_ok];simp only[Y,Z,T,Result.andThen_ok];by_cases L:((a3,u):Par)=(F,H)
  ·simp[L]
  simp[L]
 simp[e]
def Agq {t e ti ts:TypeId}{k:IntKind}(J:P.underlying t=some (.array 2 e))(h:szB P e=some 2)
 (C:(P.fieldsOf e).toList.map Abc = [(true,ti,0),(true,ts,1)]) (m:P.underlying e=some (.struct (P.fieldsOf e))) (E:P.underlying ti=some (.int k)) (F:P.underlying ts=some .string) (j:Bool) (d:Nat) (a:Par×Par) (w:World) :
 (Instr.checkKey j (d+3) t (prV a)).run P w=.ok () w:=by
 have u:Qj P e=some true:=by unfold Qj;rw[m]
 unfold prV;rw[Instr.checkKey];simp only[Sem.run_bind,run_underlying J,Result.andThen_ok];have H:=Ns C m E F j d a.1 w;have I:=Ns C m E F j d a.2 w;unfold Ap at H I;have K:(#[Value.int .i64 a.1.1,zS a.1.2,zI a.2.1,zS a.2.2].extract 0 (0+2)) = #[zI a.1.1,zS a.1.2]:=rfl;have L:(#[Value.int .i64 a.1.1,zS a.1.2,zI a.2.1,zS a.2.2].extract 2 (2+2)) = #[zI a.2.1,zS a.2.2]:=rfl;simp only[Std.Legacy.Range.forIn_eq_forIn_range',Std.Legacy.Range.size,A6t,Nat.add_one_sub_one,Ba5,show List.range' 0 2 1 = [0,1] from rfl,List.forIn_cons,List.forIn_nil,Sem.run_bind,Bf h,Result.andThen_ok,A58,A3i];rw[Jq u h,Result.andThen_ok,K,H];simp only[Result.andThen_ok,Sem.run_pure,Sem.run_bind,Bf h,A3i];rw[Jq u h,Result.andThen_ok,L,I];simp
end
theorem I1:Zk prog 175 prV :=
 ⟨fun a b w=>Ahc (P:=prog) (t:=175) (e:=118) (ti:=3) (ts:=9) (k:=.i64) kV kV kV kV kV kV kV kV kV 9997 a b w,
  ⟨_,(by kernel_rfl:prog.underlying 175=some (.array 2 118)),.inl fun _ _=>rfl⟩,
  fun e a w=>Agq (P:=prog) (t:=175) (e:=118) (ti:=3) (ts:=9) (k:=.i64) kV kV kV kV kV kV e 9997 a w,Ava,Auq⟩
end
section
variable {F:CF}{K:Nat}{p q:Par}{u:PH}{v:Value}
def Auh (h:p.1<q.1):Bk p q<0:=by
 have e:Q1 p.1 q.1 = -1:=by unfold Q1;rw[if_pos h]
 unfold Bk;rw[e,if_pos fV];decide
def At8 (h:¬ p.1<q.1)(j:p.1≠q.1):¬ Bk p q<0:=by
 have e:Q1 p.1 q.1=1:=by unfold Q1;rw[if_neg h,if_pos oV]
 unfold Bk;rw[e,if_pos fV];decide
def Au3 (h:p.1=q.1):decide (Bk p q<0)=Op.bytesLess p.2 q.2:=by
 have e:Q1 p.1 q.1=0:=by unfold Q1;rw[if_neg oV,if_neg oV]
 unfold Bk;rw[e,if_neg fV];unfold Vj;cases Op.bytesLess p.2 q.2 with
 |true=>rfl
 |false =>
  simp only[A4z,if_false];split<;>rfl
def Fp (p q:Par)(r:Bool)(h:decide (Bk p q<0)=r):zF 113 [Ap p,Ap q] u fun v _=>v=.bool r:=by
 refine Fn0.o func113 ?_;by_cases e:p.1<q.1
 ·refine G.lT' p.1 q.1 e ?_;rw[decide_eq_true (Auh e)]at h;subst h;exact G.z zT
 refine G.lF' p.1 q.1 e ?_;by_cases j:p.1=q.1
 ·rw[Au3 j]at h;refine G.eT' p.1 q.1 j<|G.ltS p.2 q.2 r kV h ?_;cases r with
  |true=>exact G.z zT
  |false=>exact G.z zL
 rw[decide_eq_false (At8 e j)]at h;subst h;exact G.eF' p.1 q.1 j<|G.z zL
def At9 (p:Par)(h:No u v F K)(hK:K<=1000000):zF 137 [v,Ap p] u fun r _=>r=zS (Ae (F.s p)):=by
 obtain⟨T,Q,a1,c1,a2,c2,rfl,hT,hQ,I,Z,kT,kQ⟩:=h;refine Fn0.o func137<|G.l (ι:=Nat) (fun i=>[(3,.p 1 0),(8,sV a1 T.length c1),(9,iV T.length),(10,iV i)]) (fun _=>[(1,⟨118,[iV p.1,tV p.2]⟩)])
  (fun i u' X=>i<=T.length/\(∀ j (m:j<T.length),j<i->(T[j]'m).1≠p)/\X=PH.mt) (fun i=>T.length-i) 0 ⟨oV,fun j m h=>oV,rfl⟩ ?_
 rintro J i R u1 m1 L ⟨hi,h0,rfl⟩;by_cases t:i<T.length
 ·refine G.lT i T.length ?_;have H:T[i]?=some T[i]:=A01 t;have C:=(I.val _ (A09 t)).1;obtain⟨Y,oa,rfl,P⟩:=Ac.at' (hT.mono L) (j:=i) (e:=Bt T[i]) (by simp[H]);refine G.n T.length c1 P ?_;by_cases E:T[i].1=p
  ·exact G.eqAgg 118 #[zI T[i].1.1,zS T[i].1.2] #[zI p.1,zS p.2] true kV kV kV (fun w=>by rw[<-decide_eq_true E];exact Bq.eq T[i].1 p w)<|G.r (zS (Ae T[i].2)) ⟨rfl,by rw[C,E]⟩
  refine G.eqAgg 118 #[zI T[i].1.1,zS T[i].1.2] #[zI p.1,zS p.2] false kV kV kV (fun w=>by rw[<-decide_eq_false E];exact Bq.eq T[i].1 p w)<|G.i i ?_;exact G.b (R (i+1) _ _ _ cV L ⟨oV,fun j m h=>by
   rcases (by omega:j<i\/j=i) with e|rfl
   ·exact h0 j m e
   exact E,rfl⟩ oV)
 obtain rfl:i=T.length:=oV;refine G.lF T.length T.length ?_;have W:F.s p=0:=I.out p fun U=>by
  obtain⟨x,V,e⟩:=A1b.1 U;obtain⟨j,m,rfl⟩:=A2y V;exact h0 j m m e
 exact G.r (zS [48]) ⟨rfl,by rw[W,Fz]⟩
def U2 (p q:Par)(h:No u v F K)(hK:K<=1000000):zF 66 [v,Ap p,Ap q] u fun r _=>r=zS (Ae (F.t (Ay p q))):=by
 obtain⟨T,Q,a1,c1,a2,c2,rfl,hT,hQ,cT,X,kT,kQ⟩:=h;refine Fn0.o func66 ?_;by_cases P:Bk q p<0
 ·rw[show Ay p q=(q,p) by unfold Ay;rw[if_pos ((Et.sym _ _).1 P)]];refine G.c call113 (Fp q p true (decide_eq_true P)) ?_;rintro v0 u0 l0 rfl;refine G.l (ι:=Nat) (fun i=>[(4,.p 1 0),(5,.p 2 0),(15,sV a2 Q.length c2),(16,iV Q.length),(17,iV i)]) (fun _=>[(1,⟨118,[iV q.1,tV q.2]⟩),(2,⟨118,[iV p.1,tV p.2]⟩)])
   (fun i u' m'=>i<=Q.length/\(∀ j (E:j<Q.length),j<i->(Q[j]'E).1≠(q,p))/\m'=PH.mt) (fun i=>Q.length-i) 0 ⟨oV,fun j E h=>oV,rfl⟩ ?_
  rintro J i W u1 m1 V ⟨hi,h0,rfl⟩;by_cases H:i<Q.length
  ·refine G.lT i Q.length ?_;have R:Q[i]?=some Q[i]:=A01 H;have I:=(X.val _ (A09 H)).1;obtain⟨ba,oa,rfl,Y⟩:=Ac.at' (hQ.mono (l0.trans V)) (j:=i) (e:=D8 Q[i]) (by simp[R]);have m:Q[i].1≠(q,p)->∀ j (E:j<Q.length),j<i+1->(Q[j]'E).1≠(q,p):=fun U j E h=>by
    rcases (by omega:j<i\/j=i) with e|rfl
    ·exact h0 j E e
    exact U
   refine G.n Q.length c2 Y ?_;by_cases L:Q[i].1.1=q
   ·refine G.eqAgg 118 #[zI Q[i].1.1.1,zS Q[i].1.1.2] #[zI q.1,zS q.2] true kV kV kV (fun w=>by rw[<-decide_eq_true L];exact Bq.eq Q[i].1.1 q w) ?_;by_cases C:Q[i].1.2=p
    ·exact G.eqAgg 118 #[zI Q[i].1.2.1,zS Q[i].1.2.2] #[zI p.1,zS p.2] true kV kV kV (fun w=>by rw[<-decide_eq_true C];exact Bq.eq Q[i].1.2 p w)<|G.r (zS (Ae Q[i].2)) ⟨rfl,by rw[I,show Q[i].1=(q,p) from A6z L C]⟩
    exact G.eqAgg 118 #[zI Q[i].1.2.1,zS Q[i].1.2.2] #[zI p.1,zS p.2] false kV kV kV (fun w=>by rw[<-decide_eq_false C];exact Bq.eq Q[i].1.2 p w)<|G.i i<|G.b (W (i+1) _ _ _ cV V ⟨oV,m fun e=>C (congrArg Prod.snd e),rfl⟩ oV)
   exact G.eqAgg 118 #[zI Q[i].1.1.1,zS Q[i].1.1.2] #[zI q.1,zS q.2] false kV kV kV (fun w=>by rw[<-decide_eq_false L];exact Bq.eq Q[i].1.1 q w)<|G.i i<|G.b (W (i+1) _ _ _ cV V ⟨oV,m fun e=>L (congrArg Prod.fst e),rfl⟩ oV)
  obtain rfl:i=Q.length:=oV;refine G.lF Q.length Q.length ?_;have hz:F.t (q,p)=0:=X.out (q,p) fun Z=>by
   obtain⟨x,hx,e⟩:=A1b.1 Z;obtain⟨j,E,rfl⟩:=A2y hx;exact h0 j E E e
  exact G.r (zS [48]) ⟨rfl,by rw[hz,Fz]⟩
 rw[show Ay p q=(p,q) by unfold Ay;rw[if_neg fun e=>P ((Et.sym _ _).2 e)]];refine G.c call113 (Fp q p false (decide_eq_false P)) ?_;rintro v0 u0 l0 rfl;refine G.l (ι:=Nat) (fun i=>[(4,.p 1 0),(5,.p 2 0),(15,sV a2 Q.length c2),(16,iV Q.length),(17,iV i)]) (fun _=>[(1,⟨118,[iV p.1,tV p.2]⟩),(2,⟨118,[iV q.1,tV q.2]⟩)])
  (fun i u' m'=>i<=Q.length/\(∀ j (E:j<Q.length),j<i->(Q[j]'E).1≠(p,q))/\m'=PH.mt) (fun i=>Q.length-i) 0 ⟨oV,fun j E h=>oV,rfl⟩ ?_
 rintro J i W u1 m1 V ⟨hi,h0,rfl⟩;by_cases H:i<Q.length
 ·refine G.lT i Q.length ?_;have R:Q[i]?=some Q[i]:=A01 H;have I:=(X.val _ (A09 H)).1;obtain⟨ba,oa,rfl,Y⟩:=Ac.at' (hQ.mono (l0.trans V)) (j:=i) (e:=D8 Q[i]) (by simp[R]);have m:Q[i].1≠(p,q)->∀ j (E:j<Q.length),j<i+1->(Q[j]'E).1≠(p,q):=fun U j E h=>by
   rcases (by omega:j<i\/j=i) with e|rfl
   ·exact h0 j E e
   exact U
  refine G.n Q.length c2 Y ?_;by_cases L:Q[i].1.1=p
  ·refine G.eqAgg 118 #[zI Q[i].1.1.1,zS Q[i].1.1.2] #[zI p.1,zS p.2] true kV kV kV (fun w=>by rw[<-decide_eq_true L];exact Bq.eq Q[i].1.1 p w) ?_;by_cases C:Q[i].1.2=q
   ·exact G.eqAgg 118 #[zI Q[i].1.2.1,zS Q[i].1.2.2] #[zI q.1,zS q.2] true kV kV kV (fun w=>by rw[<-decide_eq_true C];exact Bq.eq Q[i].1.2 q w)<|G.r (zS (Ae Q[i].2)) ⟨rfl,by rw[I,show Q[i].1=(p,q) from A6z L C]⟩
   exact G.eqAgg 118 #[zI Q[i].1.2.1,zS Q[i].1.2.2] #[zI q.1,zS q.2] false kV kV kV (fun w=>by rw[<-decide_eq_false C];exact Bq.eq Q[i].1.2 q w)<|G.i i<|G.b (W (i+1) _ _ _ cV V ⟨oV,m fun e=>C (congrArg Prod.snd e),rfl⟩ oV)
  exact G.eqAgg 118 #[zI Q[i].1.1.1,zS Q[i].1.1.2] #[zI p.1,zS p.2] false kV kV kV (fun w=>by rw[<-decide_eq_false L];exact Bq.eq Q[i].1.1 p w)<|G.i i<|G.b (W (i+1) _ _ _ cV V ⟨oV,m fun e=>L (congrArg Prod.fst e),rfl⟩ oV)
 obtain rfl:i=Q.length:=oV;refine G.lF Q.length Q.length ?_;have hz:F.t (p,q)=0:=X.out (p,q) fun Z=>by
  obtain⟨x,hx,e⟩:=A1b.1 Z;obtain⟨j,E,rfl⟩:=A2y hx;exact h0 j E E e
 exact G.r (zS [48]) ⟨rfl,by rw[hz,Fz]⟩
end
section
variable {F:CF}{N' g:Nat}{q:Rat}{v x:Value}{y1 y3:Bool}{y2 y4:SlI}
section
variable {P:Program} [A6 P] {fn:Func} {Post:Ce} {st:List KI×S} {u m:PH}
theorem Ai1 {e:Operand->Value}{o:Op}{t:TypeId}{L:List (Nat×Value)}(h:Bc P e o=.build t L):∃ j:Array (Nat×Operand),o=.build t j/\j.toList.map (fun x=>(x.1,e x.2))=L:=by
 cases o<;>simp only[Bc]at h<;>try cases h
 any_goals ((repeat' split at h)<;>cases h;done)
 grind
def G.buildArr (t e:TypeId)(p q:Par)(h:Aj P (adv P st)=.build t [(0,Ap p),(1,Ap q)])(R:P.underlying t=some (.array 2 e))(Q:szB P e=some 2)(T:Z0 P t=some (.agg #[zO,zE,zO,zE]))
 (k:G P fn Post (nx (adv P st) (.agg #[zI p.1,zS p.2,zI q.1,zS q.2])) u m):G P fn Post st u m:=by
 refine G.ask h mV (fun C o j w hp=>?_) k;obtain⟨V,H,W⟩:=Ai1 j;obtain⟨J,U,I,pos,after,E⟩:=o;simp only at H;subst H;have L:(V.map fun x=>(x.1,C x.2)).toList = [(0,Ap p),(1,Ap q)]:=by simp_all
 simp only[execOp,Instr.build,Sem.run_bind,Abk T,Result.andThen_ok,run_underlying R,Bf Q,L];rfl
end
def D7 {κ:Type}(enc:κ->Value)(K:κ->Prop)(u:PH)(o:Obj)(f:κ->Rat)(N:Nat):Prop :=
 ∃ l:List (κ×Value),Hu enc o l/\(∀ p∈l,QP u p.2 (f p.1)/\K p.1/\Sz (f p.1) 12)/\(∀ k,k∉l.map (·.1)->f k=0)/\l.length<=N
section
variable {κ:Type} [DecidableEq κ] {enc:κ->Value} {K:κ->Prop} {u:PH} {o:Obj} {f:κ->Rat} {N:Nat}
def D7.mono {j:PH}(h:D7 enc K u o f N)(H:PH.le u j):D7 enc K j o f N:=by
 obtain⟨l,t,e,C,E⟩:=h;exact⟨l,t,fun p hp=>⟨(e p hp).1.mono H,(e p hp).2⟩,C,E⟩
def D7.up (h:D7 enc K u o f N)(E:N<=N'):D7 enc K u o f N':=by
 obtain⟨l,e,j,t,C⟩:=h;exact⟨l,e,j,t,A04 C E⟩
def D7.congr {f':κ->Rat}(h:D7 enc K u o f N)(e:∀ k,f k=f' k):D7 enc K u o f' N:=by
 rw[<-funext e];exact h
def D7.empty:D7 enc K u (.map #[] 0) (fun _=>0) 0:=⟨[],Hu.empty,mV,fun _ _=>rfl,A08 _⟩
theorem D7.put {o':Obj}{a:κ}{x:Value}{q:Rat}{l:List (κ×Value)}(C:Hu enc o l)(E:∀ p∈l,QP u p.2 (f p.1)/\K p.1/\Sz (f p.1) 12)(j:∀ k,k∉l.map (·.1)->f k=0)(H:l.length<=N)
 (h:Hu enc o' (Lr a x l)) (J:QP u x q) (e:K a) (I:Sz q 12):D7 enc K u o' (Nh f a q) (N+1):=by
 refine⟨_,h,fun p hp=>?_,fun k e=>?_,A04 U1 oV⟩
 ·unfold Nh;rcases Ae0 C.nodup hp with rfl|⟨hp,t⟩
  ·grind
  grind
 rw[Aaq,not_or]at e;unfold Nh;rw[if_neg e.1];exact j k e.2
end
def KT {κ:Type}(_:κ):Prop:=True
def KO (k:Par×Par):Prop:=¬ 0<Bk k.1 k.2
theorem KO.pair (p q:Par):KO (Ay p q):=by
 unfold KO Ay;have e:=Et.sym p q;by_cases h:0<Bk p q
 ·grind
 grind
def Kk (m' u:PH)(v:Value)(F:CF)(N:Nat):Prop :=
 ∃ b a n c b' a' n' c' g1 g2 o1 o2,v=.agg #[.bool b,.slice a n c,.bool b',.slice a' n' c',.map (some g1),.map (some g2)]/\QP u (.agg #[.bool b,.slice a n c,.bool b',.slice a' n' c']) F.c/\g1≠g2/\m'=(PH.mt.upd g1 o1).upd g2 o2/\D7 Ap KT u o1 F.s N/\D7 prV KO u o2 F.t N
def R9 (u:PH)(v:Value)(F:CF)(N:Nat):Prop :=
 ∃ b a n c b' a' n' c' g1 g2 o1 o2,v=.agg #[.bool b,.slice a n c,.bool b',.slice a' n' c',.map (some g1),.map (some g2)]/\QP u (.agg #[.bool b,.slice a n c,.bool b',.slice a' n' c']) F.c/\u g1=some o1/\u g2=some o2/\D7 Ap KT u o1 F.s N/\D7 prV KO u o2 F.t N
def R9.mono {u t:PH}{v:Value}{F:CF}{N:Nat}(h:R9 u v F N)(j:PH.le u t):R9 t v F N:=by
 obtain⟨b,a,n,c,b',C,n',E,g1,g2,R,T,e,H,I,J,L,Q⟩:=h;exact⟨b,a,n,c,b',C,n',E,g1,g2,R,T,e,H.mono j,j _ _ I,j _ _ J,L.mono j,Q.mono j⟩
def Kk.grow {t u C:PH}{N:Nat}(h:Kk t u v F N)(j:PH.le u C):Kk t C v F N:=by
 obtain⟨b,a,n,c,b',E,n',H,g1,g2,T,U,e,I,J,L,Q,R⟩:=h;exact⟨b,a,n,c,b',E,n',H,g1,g2,T,U,e,I.mono j,J,L,Q.mono j,R.mono j⟩
def Kk.give {E u t:PH}{N:Nat}(h:Kk E u v F N)(j:PH.le u t)(C:PH.le E t):R9 t v F N:=by
 obtain⟨b,a,n,c,b',H,n',I,g1,g2,T,U,e,J,L,rfl,Q,R⟩:=h;exact⟨b,a,n,c,b',H,n',I,g1,g2,T,U,e,J.mono j,C _ _ (by rw[Ad _ _ L,Ab]),C _ _ (Ab _ _ _),Q.mono j,R.mono j⟩
def Kk.congr {C u:PH}{F j:CF}{N N':Nat}(h:Kk C u v F N)(e:F=j)(t:N<=N'):Kk C u v j N':=by
 subst e;obtain⟨b,a,n,c,b',E,n',H,g1,g2,T,U,e,I,J,L,Q,R⟩:=h;exact⟨b,a,n,c,b',E,n',H,g1,g2,T,U,e,I,J,L,Q.up t,R.up t⟩
def Sw {u:PH}{N:Nat}(h:R9 u v F N):∃ b a n c b' j n' t g1 g2,v=.agg #[.bool b,.slice a n c,.bool b',.slice j n' t,.map (some g1),.map (some g2)]:=by
 obtain⟨b,a,n,c,b',j,n',t,g1,g2,C,E,e,_⟩:=h;exact⟨b,a,n,c,b',j,n',t,g1,g2,e⟩
def Oe {C u:PH}{N:Nat}(h:Kk C u v F N):∃ b a n c b' j n' t g1 g2,v=.agg #[.bool b,.slice a n c,.bool b',.slice j n' t,.map (some g1),.map (some g2)]:=by
 obtain⟨b,a,n,c,b',j,n',t,g1,g2,E,H,e,_⟩:=h;exact⟨b,a,n,c,b',j,n',t,g1,g2,e⟩
def Jm {u:PH}{n:Int}(I:-9223372036854775807<=n)(J:n<=9223372036854775807):Ag prog 46 [zI n] u PH.mt fun v U T=>Kk T U v ⟨(n:Rat),fun _=>0,fun _=>0⟩ 0:=by
 refine Ag.o func46<|G.c call22 (P6 I J) ?_;intro X W V E;obtain⟨b,a,H,c,t,n',C,rfl,_⟩:=E.opn;refine G.mapMk kV ?_;intro g1 L Q;refine G.mapMk kV ?_;intro g2 h R;have j:g1≠g2:=fun e=>by subst e;rw[Ab]at h;cases h
 exact G.r (.agg #[.bool b,.slice a H c,zL,.slice t n' C,.map (some g1),.map (some g2)]) ⟨b,a,H,c,false,t,n',C,g1,g2,_,_,rfl,E,j,rfl,D7.empty,D7.empty⟩
theorem Oi {u:PH}{g2:Option Nat}{o:Obj}{f:Par->Rat}{N:Nat}{a:Par}(h:D7 Ap KT u o f N)(Q:QP u x q)(hq:SB q)(hf:SB (f a))(L:SB (q+f a)) :
 Ag prog 109 [.agg #[.bool y1,.slice y2.1 y2.2.1 y2.2.2,.bool y3,.slice y4.1 y4.2.1 y4.2.2,.map (some g),.map g2],Ap a,x] u (Pj g o) fun v u' m'=>∃ o',m'=Pj g o'/\D7 Ap KT u' o' (Nh f a (q+f a)) (N+1):=by
 obtain⟨l,j,t,J,U⟩:=id h;obtain⟨b,Y,n,c,X,n',c',rfl,_⟩:=Q.opn;refine Ag.o func109 ?_;cases hx':Ik a l with
 |none =>
  have a0:f a=0:=J a (M8.1 hx');have e0:q+f a=q:=by grind
  rw[e0]at L⊢;refine G.mapNot (et:=69) Bq fz g o l a kV kV (.inr (Ck _ _)) j hx'<|G.mapPut (et:=69) Bq g o l a (.agg #[.bool b,.slice Y n c,zL,.slice X n' c']) kV kV (Ck _ _) j ?_;intro o' e;exact G.r (.tuple #[]) ⟨o',Dp _ _ _ _,D7.put j t J U e Q trivial L.sz⟩
 |some xv =>
  obtain⟨V,_,_⟩:=t _ (O4 hx');obtain⟨Z,a1,n1,c1,C,R,H,rfl,_⟩:=V.opn;refine G.mapHas (et:=69) Bq fz g o l a (.agg #[.bool Z,.slice a1 n1 c1,zL,.slice C R H]) kV kV (.inr (Ck _ _)) j hx'<|G.c call26 (Pd Q V (hq.sz.mono oV) (hf.sz.mono oV)) ?_;intro v1 u1 l1 W;obtain⟨b2,a2,n2,c2,E,T,I,rfl,_⟩:=W.opn;refine G.mapPut (et:=69) Bq g o l a (.agg #[.bool b2,.slice a2 n2 c2,zL,.slice E T I]) kV kV (Ck _ _) j ?_;intro o' e;exact G.r (.tuple #[]) ⟨o',Dp _ _ _ _,D7.put j (fun p hp=>⟨(t p hp).1.mono l1,(t p hp).2⟩) J U e W trivial L.sz⟩
theorem H7 {u:PH}{g1:Option Nat}{o:Obj}{f:Par×Par->Rat}{N:Nat}{p r:Par}(h:D7 prV KO u o f N)(H:QP u x q)(hq:SB q)(hf:SB (f (Ay p r)))(I:SB (q+f (Ay p r))) :
 Ag prog 110 [.agg #[.bool y1,.slice y2.1 y2.2.1 y2.2.2,.bool y3,.slice y4.1 y4.2.1 y4.2.2,.map g1,.map (some g)],Ap p,Ap r,x] u (Pj g o) fun v u' m'=>∃ o',m'=Pj g o'/\D7 prV KO u' o' (Nh f (Ay p r) (q+f (Ay p r))) (N+1):=by
 obtain⟨b,aa,n,c,a',n',c',rfl,_⟩:=H.opn;refine Ag.o func110 ?_;have W:=KO.pair p r;by_cases E:Bk r p<0
 ·have he:Ay p r=(r,p):=by unfold Ay;rw[if_pos ((Et.sym r p).1 E)]
  rw[he]at hf I W⊢;refine G.c call113 (Fp r p true (decide_eq_true E)) ?_;rintro v0 u0 l0 rfl;obtain⟨l,t,C,T,X⟩:=h.mono l0;have H:=H.mono l0;cases hx':Ik (r,p) l with
  |none =>
   have a0:f (r,p)=0:=T _ (M8.1 hx');have e0:q+f (r,p)=q:=by grind
   rw[e0]at I⊢;refine G.buildArr 175 118 r p kV kV kV kV<|G.mapNot (et:=69) I1 fz g o l (r,p) kV kV (.inr (Ck _ _)) t hx'<|G.mapPut (et:=69) I1 g o l (r,p) (.agg #[.bool b,.slice aa n c,zL,.slice a' n' c']) kV kV (Ck _ _) t ?_;intro o' j;exact G.r (.tuple #[]) ⟨o',Dp _ _ _ _,D7.put t C T X j H W I.sz⟩
  |some xv =>
   obtain⟨Y,_,_⟩:=C _ (O4 hx');obtain⟨b1,a1,n1,c1,J,U,Q,rfl,_⟩:=Y.opn;refine G.buildArr 175 118 r p kV kV kV kV<|G.mapHas (et:=69) I1 fz g o l (r,p) (.agg #[.bool b1,.slice a1 n1 c1,zL,.slice J U Q]) kV kV (.inr (Ck _ _)) t hx'<|G.c call26 (Pd H Y (hq.sz.mono oV) (hf.sz.mono oV)) ?_;intro v1 u1 l1 Z;obtain⟨b2,a2,n2,c2,L,V,R,rfl,_⟩:=Z.opn;refine G.mapPut (et:=69) I1 g o l (r,p) (.agg #[.bool b2,.slice a2 n2 c2,zL,.slice L V R]) kV kV (Ck _ _) t ?_;intro o' j;exact G.r (.tuple #[]) ⟨o',Dp _ _ _ _,D7.put t (fun p hp=>⟨(C p hp).1.mono l1,(C p hp).2⟩) T X j Z W I.sz⟩
 have he:Ay p r=(p,r):=by unfold Ay;rw[if_neg (fun e=>E ((Et.sym r p).2 e))]
 rw[he]at hf I W⊢;refine G.c call113 (Fp r p false (decide_eq_false E)) ?_;rintro v0 u0 l0 rfl;obtain⟨l,t,C,T,X⟩:=h.mono l0;have H:=H.mono l0;cases hx':Ik (p,r) l with
 |none =>
  have a0:f (p,r)=0:=T _ (M8.1 hx');have e0:q+f (p,r)=q:=by grind
  rw[e0]at I⊢;refine G.buildArr 175 118 p r kV kV kV kV<|G.mapNot (et:=69) I1 fz g o l (p,r) kV kV (.inr (Ck _ _)) t hx'<|G.mapPut (et:=69) I1 g o l (p,r) (.agg #[.bool b,.slice aa n c,zL,.slice a' n' c']) kV kV (Ck _ _) t ?_;intro o' j;exact G.r (.tuple #[]) ⟨o',Dp _ _ _ _,D7.put t C T X j H W I.sz⟩
 |some xv =>
  obtain⟨Y,_,_⟩:=C _ (O4 hx');obtain⟨b1,a1,n1,c1,J,U,Q,rfl,_⟩:=Y.opn;refine G.buildArr 175 118 p r kV kV kV kV<|G.mapHas (et:=69) I1 fz g o l (p,r) (.agg #[.bool b1,.slice a1 n1 c1,zL,.slice J U Q]) kV kV (.inr (Ck _ _)) t hx'<|G.c call26 (Pd H Y (hq.sz.mono oV) (hf.sz.mono oV)) ?_;intro v1 u1 l1 Z;obtain⟨b2,a2,n2,c2,L,V,R,rfl,_⟩:=Z.opn;refine G.mapPut (et:=69) I1 g o l (p,r) (.agg #[.bool b2,.slice a2 n2 c2,zL,.slice L V R]) kV kV (Ck _ _) t ?_;intro o' j;exact G.r (.tuple #[]) ⟨o',Dp _ _ _ _,D7.put t (fun p hp=>⟨(C p hp).1.mono l1,(C p hp).2⟩) T X j Z W I.sz⟩
end
end Go.Proofs.YtemmheaocgmebaaGreatDoor
