/- Parts of one proof, joined by a program. -/
import Derived.Test.YtnjlhkppabfebaaGreatDoorX05
import Derived.Laws.StructEq
import Derived.RangeFuncSeq
import Derived.RangeFuncGives
import Derived.Maps.AppendAt
import Derived.Shelf.Abstract
import Derived.Shelf.AbstractIn
import Derived.Sort.MapsRangeIn
import Derived.WalkKit
import Derived.OwnWalkIn
import Derived.TacticsInMore
import Derived.RegionIn
import Derived.LoopNIn
import Derived.LoopIn
import Derived.Shelf.SlIter.Collect
set_option linter.defProp false
set_option linter.unusedVariables false
set_option linter.unusedSimpArgs false
set_option linter.unusedSectionVars false
set_option maxHeartbeats 16000000
namespace Go.Proofs.YtnjlhkppabfebaaGreatDoor
open Go.Proofs.Tryz
open Go.RowKit Go.MapKept
def A4s:=@Array.eq_empty_of_size_eq_zero
def A6z:=@Prod.ext
def A9v:=@UInt8.lt_iff_toNat_lt
def Baz:=@Bool.eq_false_iff
def A8y:=@List.pairwise_cons
def A9h:=@List.map_map
def A7h:=@Rat.num_divInt_den
def A2r:=@Rat.intCast_natCast
def Bao:=@Int.ofNat_le
def Bsw:=@Array.forIn_toList
def Bbq:=@List.forIn_cons
def Bby:=@List.forIn_nil
def A46:=@Rat.add_comm
section
variable {D:List MapEntry}{clock g:Nat}{env:Operand->Value}{es:Array MapEntry}{o o':Obj}
variable [Cl]
open Go.MapKept
inductive Pt where
 |other
 |mk
 |look (t:Option TypeDesc) (x k:Value) (ok:Bool)
 |put (t:Option TypeDesc) (x k v:Value)
 |range (t:Option TypeDesc) (x:Value)
 |next (it:Value)
 |entry (it:Value)
def Nm (P:Program)(env:Operand->Value):Op->Pt
 |.makeMap _ none=>.mk
 |.lookup t x i ok=>.look (P.underlying t) (env x) (env i) ok
 |.mapUpdate t x k v=>.put (P.underlying t) (env x) (env k) (env v)
 |.insert t x k v=>.put (P.underlying t) (env x) (env k) (env v)
 |.range t x=>.range (P.underlying t) (env x)
 |.next it false=>.next (env it)
 |.entry it=>.entry (env it)
 |_=>.other
def Ni (P:Program)(st:List KI×S):Pt :=
 match st.1 with
 |.reg _ ops _ (i::_)::_=>match ops[i]? with
  |some o=>match Fb st.2 o&&(Kl st.2 o.op&&Ix o.op) with
   |true=>match gv st.2 ops o with
    |some true=>Nm P (C2 st.2) o.op
    |_=>.other
   |false=>.other
  |none=>.other
 |_=>.other
def Q9:Obj->Bool
 |.cells ..=>false
 |_=>true
section good
variable {u m:PH} {w:World}
def Ta (w:World)(g:Nat)(o:Obj):World:={ w with heap:=w.heap.setIfInBounds g o }
def Aay (h:w.heap[g]?=some o):(Ta w g o').heap[g]?=some o':=by
 show (w.heap.setIfInBounds g o')[g]?=_;rw[A7x];simp[Aw h]
def V0 {g k:Nat}(h:k≠g):(Ta w g o').heap[k]?=w.heap[k]?:=by
 show (w.heap.setIfInBounds g o')[k]?=_;rw[A2m (fun e=>h e.symm)]
def Amy (g:Nat)(o':Obj):(Ta w g o').heap.size=w.heap.size:=by show (w.heap.setIfInBounds g o').size=_;simp
theorem Bv.setO (h:Bv u m w)(hg:m g=some o)(hn:Q9 o'=true):Bv u (m.upd g o') (Ta w g o')/\B0 u m w u (m.upd g o') (Ta w g o'):=by
 have hb:=h.pm g _ hg;have hug:u g=none:=by
  rcases h.ap g with e|e
  ·exact e
  ·grind
 refine⟨⟨fun k o hk=>?_,fun k o hk=>?_,fun k=>?_,fun k cs1 t1 fr1 j z hk hj=>?_⟩,⟨by rw[Amy];exact A08 _,fun k hk hm=>V0 (fun e=>by rw[e,hg]at hm;cases hm),fun _ _=>rfl,fun k hk hm=>by rw[Ad _ _ (fun e=>by rw[e,hg]at hm;cases hm)];exact hm,⟨rfl,rfl⟩,fun _=>⟨rfl,A08 _⟩⟩⟩
 ·rw[V0 (fun e=>by rw[e,hug]at hk;cases hk)];exact h.pu k o hk
 ·by_cases e:k=g
  ·subst e;rw[Ab]at hk;rw[Aay hb];exact hk
  ·rw[Ad _ _ e]at hk;rw[V0 e];exact h.pm k o hk
 ·by_cases e:k=g
  ·grind
  ·rw[Ad _ _ e];exact h.ap k
 ·by_cases e:k=g
  ·subst e;rw[Aay hb]at hk;simp only[A1f]at hk;subst hk;cases hn
  ·rw[V0 e]at hk;exact h.cl k cs1 t1 fr1 j z hk hj
theorem Bv.newO (h:Bv u m w)(E:Q9 o=true):Bv u (m.upd w.heap.size o) (w.alloc o)/\B0 u m w u (m.upd w.heap.size o) (w.alloc o)/\m w.heap.size=none/\u w.heap.size=none:=by
 have v:m w.heap.size=none:=h.pm.none (A08 _);have F:u w.heap.size=none:=h.pu.none (A08 _);refine⟨⟨fun g o' d=>?_,fun g o' d=>?_,fun g=>?_,fun g cs t fr j z d C=>?_⟩,⟨by rw[B6];omega,fun g d _=>Aq _ _ d,fun _ _=>rfl,fun g d v=>by rw[Ad _ _ oV];exact v,⟨rfl,rfl⟩,fun _=>⟨rfl,A08 _⟩⟩,v,F⟩
 ·rw[Aq _ _ (h.pu.lt d)];exact h.pu g o' d
 ·by_cases e:g=w.heap.size
  ·subst e;rw[Ab]at d;rw[Cn];exact d
  rw[Ad _ _ e]at d;rw[Aq _ _ (h.pm.lt d)];exact h.pm g o' d
 ·by_cases e:g=w.heap.size
  ·grind
  rw[Ad _ _ e];exact h.ap g
 by_cases e:g=w.heap.size
 ·subst e;rw[Cn]at d;simp only[A1f]at d;subst d;cases E
 have n:=Aw d;rw[B6]at n;rw[Aq _ _ oV]at d;exact h.cl g cs t fr j z d C
def Bv.drewG (h:Bv u m w):B0 u m w u m w.drew:=⟨A08 _,fun _ _ _=>rfl,fun _ _=>rfl,fun _ _ h=>h,⟨rfl,rfl⟩,fun _=>⟨rfl,Nat.le_succ _⟩⟩
end good
section rules
variable {P:Program} [A6 P] {fn:Func} {Post:Ce} {st:List KI×S} {u m:PH}
theorem W4 {V:Pt}(h:Ni P st=V)(n:V≠.other):∃ j d e i l k s o,st=(.reg j d e (i::l)::k,s)/\d[i]?=some o/\gv s d o=some true/\Fb s o=true/\Kl s o.op=true/\Ix o.op=true/\Nm P (C2 s) o.op=V /\
 ∀ v,nx st v=(.reg j d e l::k,s.put o.dst (.v v)):=by
 obtain⟨t,s⟩:=st;unfold Ni at h;simp only at h;split at h
 ·rename_i j d e i l k;split at h
  ·rename_i o ho;split at h
   ·rename_i hb;simp only[A1m]at hb;split at h
    ·rename_i hg;exact⟨j,d,e,i,l,k,s,o,rfl,ho,hg,hb.1,hb.2.1,hb.2.2,h,fun v=>by simp[nx,ho]⟩
    grind
   grind
  grind
 grind
def P5:Pt->Bool
 |.look ..=>true
 |_=>false
def Ajd {o:Op}{V:Pt}(h:Nm P env o=V)(e:V≠.other)(d:P5 V=false):Fa o=false:=by
 unfold Nm at h;split at h<;>first|rfl|exact absurd h.symm e|(rw[<-h]at d;cases d)
theorem G.bigX {V:Pt}{K:Value->PH->PH->Prop}(h:Ni P (adv P st)=V)(z:V≠.other/\P5 V=false)(t:(∀ v j d,K v j d->PH.le m d)\/Vl (adv P st)=true)
 (N:∀ env (o:Oper),Nm P env o.op=V->∀ w,Bv u m w->Eg P env o w fun v w'=>∃ j d,Bv j d w'/\B0 u m w j d w'/\K v j d)
 (k:∀ v j d,PH.le u j->K v j d->G P fn Post (nx (adv P st) v) j d):G P fn Post st u m:=by
 refine G.stp ?_;obtain⟨W,R,T,i,l,X,s,o,e,F,L,J,Q,O,n,E⟩:=W4 h z.1;rw[e]at t⊢;refine⟨?_⟩;refine Ob.big (K:=K) F L J Q O (Ajd n z.1 z.2) (fun v j d U=>?_) (fun w C=>N _ o n w C) (fun v j d H I=>?_)
 ·rcases t with t|t
  ·grind
  exact .inr (Abl F t)
 have:=(k v j d H I).out;rw[E]at this;exact this
def Ame {o:Oper}{w w':World}{K:Value->World->Prop}(h:(execOp env o).run P w=.ok .skip w')(d:K undef w'):Eg P env o w K:=by
 unfold Eg;rw[h];exact d
theorem G.mapMk (h:Ni P (adv P st)=.mk)(k:∀ g,m g=none->u g=none->G P fn Post (nx (adv P st) (.map (some g))) u (m.upd g (.map #[] 0))):G P fn Post st u m:=by
 refine G.bigX (K:=fun v n e=>n=u/\PH.le m e/\∃ g,m g=none/\u g=none/\v=.map (some g)/\e=m.upd g (.map #[] 0)) h (by simp[P5]) (.inl fun v n e z=>z.2.1) (fun env o d w j=>?_) (fun H n e E z=>?_)
 ·obtain⟨dst,F,type,pos,after,guard⟩:=o;simp only at d;unfold Nm at d;split at d<;>try (cases d;done)
  obtain⟨g1,g2,t,C⟩:=j.newO (o:=.map #[] 0) rfl;refine B8 (w':=w.alloc (.map #[] 0)) (v:=.map (some w.heap.size)) ?_ ⟨u,_,g1,g2,rfl,Jw _ t,w.heap.size,t,C,rfl,rfl⟩;simp[execOp,Instr.makeMap]
 grind
def Z0 (P:Program)(t:TypeId):Option Value:=match P.info? t with|some i=>i.zero|none=>none
def Abk {t:TypeId}{z:Value}(h:Z0 P t=some z)(w:World):(zeroValue t).run P w=.ok z w:=by
 unfold Z0 at h;split at h
 ·rename_i i hi;simp[zeroValue,typeInfo,hi,h]
 cases h
variable {κ:Type} [DecidableEq κ] {enc:κ->Value} {kt et:TypeId}
def G.mapGet (K:Zk P kt enc)(z:Value)(g:Nat)(o:Obj)(l:List (κ×Value))(a:κ)(ok:Bool)(h:Ni P (adv P st)=.look (some (.map kt et)) (.map (some g)) (enc a) ok)(T:Z0 P et=some z)(J:u g=some o\/m g=some o)(L:Hu enc o l)
 (k:G P fn Post (nx (adv P st) (Alm z (Ik a l) ok)) u m):G P fn Post st u m:=by
 refine G.stp ?_;obtain⟨Z,V,Y,i,l',kk,s,o',e,C,n,I,Q,O,d,v⟩:=W4 h mV;have k:=k.out;rw[v]at k;rw[e];have j:Fr o'.op=false:=by
  unfold Nm at d;split at d<;>first|(cases d;done)|(rename_i e;rw[e];rfl)
 refine⟨Ob.ask C n I Q O j (fun w hp=>?_) k⟩;obtain⟨dst,U,type,pos,after,guard⟩:=o';simp only at d hp;unfold Nm at d;split at d<;>try (cases d;done)
 rename_i t x i ok';simp only[Pt.look.injEq]at d;obtain⟨E,F,H,rfl⟩:=d;obtain⟨X,W⟩:=hp (.inl rfl);have R:w.heap[g]?=some o:=J.elim (X g o) (W (.inl rfl) g o);have N:=Ahy K E (fun w=>Abk T w) R L a ok';simp only[execOp,F,H];simp[N]
def G.mapHas (K:Zk P kt enc)(z:Value)(g:Nat)(o:Obj)(l:List (κ×Value))(a:κ)(x:Value)(h:Ni P (adv P st)=.look (some (.map kt et)) (.map (some g)) (enc a) true)(n:Z0 P et=some z)(d:u g=some o\/m g=some o)(e:Hu enc o l)(j:Ik a l=some x)
 (k:G P fn Post (nx (adv P st) (.tuple #[x,.bool true])) u m):G P fn Post st u m :=
 G.mapGet K z g o l a true h n d e (by rw[j];exact k)
def G.mapNot (K:Zk P kt enc)(z:Value)(g:Nat)(o:Obj)(l:List (κ×Value))(a:κ)(h:Ni P (adv P st)=.look (some (.map kt et)) (.map (some g)) (enc a) true)(n:Z0 P et=some z)(d:u g=some o\/m g=some o)(e:Hu enc o l)(j:Ik a l=none)
 (k:G P fn Post (nx (adv P st) (.tuple #[z,.bool false])) u m):G P fn Post st u m :=
 G.mapGet K z g o l a true h n d e (by rw[j];exact k)
def G.mapIs (K:Zk P kt enc)(z:Value)(g:Nat)(o:Obj)(l:List (κ×Value))(a:κ)(x:Value)(h:Ni P (adv P st)=.look (some (.map kt et)) (.map (some g)) (enc a) false)(n:Z0 P et=some z)(d:u g=some o\/m g=some o)(e:Hu enc o l)(j:Ik a l=some x)
 (k:G P fn Post (nx (adv P st) x) u m):G P fn Post st u m :=
 G.mapGet K z g o l a false h n d e (by rw[j];exact k)
theorem G.mapPut (K:Zk P kt enc)(g:Nat)(o:Obj)(l:List (κ×Value))(a:κ)(x:Value)(h:Ni P (adv P st)=.put (some (.map kt et)) (.map (some g)) (enc a) x)(E:Vl (adv P st)=true)(J:m g=some o)(T:Hu enc o l)
 (k:∀ o',Hu enc o' (Lr a x l)->G P fn Post (nx (adv P st) undef) u (m.upd g o')):G P fn Post st u m:=by
 refine G.bigX (K:=fun v n j=>n=u/\v=undef/\∃ o',Hu enc o' (Lr a x l)/\j=m.upd g o') h (by simp[P5]) (.inr E) (fun env o' d w z=>?_) (fun W n j Q V=>?_)
 ·obtain⟨dst,e,type,pos,after,guard⟩:=o';have key:∀ t X A Y,P.underlying t=some (.map kt et)->env X=.map (some g)->env A=enc a->env Y=x->(e=.mapUpdate t X A Y\/e=.insert t X A Y)->Eg P env ⟨dst,e,type,pos,after,guard⟩ w fun v w'=>∃ n j,Bv n j w'/\B0 u m w n j w'/\n=u/\v=undef/\∃ o',Hu enc o' (Lr a x l)/\j=m.upd g o':=by
   intro t X A Y N F H I O;have U:w.heap[g]?=some o:=z.pm g o J;obtain⟨o',C,L⟩:=Aij K N U T a x;have R:Q9 o'=true:=by obtain⟨es,c,rfl,_⟩:=C;rfl
   obtain⟨g1,g2⟩:=z.setO J R;refine Ame (w':=Ta w g o') ?_ ⟨u,_,g1,g2,rfl,rfl,o',C,rfl⟩;rcases O with rfl|rfl
   ·simp only[execOp,F,H,I];simp[L,Ta]
   simp only[execOp,F,H,I];simp[L,Ta]
  unfold Nm at d;split at d<;>try (cases d;done)
  ·grind
  grind
 grind
theorem G.mapDel (K:Zk P kt enc)(t:TypeId)(g:Nat)(o:Obj)(l:List (κ×Value))(a:κ)(H:TypeId)(h:Aj P (adv P st)=.blt .delete [t,H] [.map (some g),enc a])(T:P.underlying t=some (.map kt et))(C:Vl (adv P st)=true)(E:m g=some o)(Q:Hu enc o l)
 (k:∀ o',Hu enc o' (Awn a l)->G P fn Post (nx (adv P st) (.tuple #[])) u (m.upd g o')):G P fn Post st u m:=by
 refine G.bigN (K:=fun v I F=>I=u/\v=.tuple #[]/\∃ o',Hu enc o' (Awn a l)/\F=m.upd g o') h mV C (fun env op U=>by obtain⟨c,rfl,n,_⟩:=Rb U;obtain⟨callee,args,z⟩:=c;simp only at n;subst n;rfl) (fun env o' d w e=>?_) (fun Y I F N X=>?_)
 ·obtain⟨dst,W,type,pos,after,guard⟩:=o';obtain⟨c,rfl,n,J,L⟩:=Rb d;obtain⟨callee,args,z⟩:=c;subst n J;have V:w.heap[g]?=some o:=e.pm g o E;obtain⟨o',j,R⟩:=Bne (rt:=type) K (ts:=#[t,H]) rfl T V Q a;have O:Q9 o'=true:=by obtain⟨es,c,rfl,_⟩:=j;rfl
  obtain⟨g1,g2⟩:=e.setO E O;refine B8 (w':=Ta w g o') (v:=.tuple #[]) ?_ ⟨u,_,g1,g2,rfl,rfl,o',j,rfl⟩;simp only[execOp,resolve,invoke,builtin,L];simp[R,Ta]
 grind
def Ar (D:List MapEntry):Array Nat:=(D.map (·.born)).toArray
structure Vo (es:Array MapEntry)(D:List MapEntry):Prop where
 sub:∀ e∈D,e∈es.toList
 nod:(D.map (·.born)).Nodup
def Vo.nil (es:Array MapEntry):Vo es []:=⟨mV,mV⟩
theorem G.mapRange (g:Nat)(es:Array MapEntry)(clock:Nat)(kt et:TypeId)(h:Ni P (adv P st)=.range (some (.map kt et)) (.map (some g)))(H:u g=some (.map es clock)\/m g=some (.map es clock))
 (k:∀ i,m i=none->u i=none->G P fn Post (nx (adv P st) (.pointer (some ⟨i,0,none⟩))) u (m.upd i (.mapIter (some g) clock (Ar []) clock))):G P fn Post st u m:=by
 refine G.bigX (K:=fun v n j=>n=u/\PH.le m j/\∃ i,m i=none/\u i=none/\v=.pointer (some ⟨i,0,none⟩)/\j=m.upd i (.mapIter (some g) clock (Ar []) clock)) h (by simp[P5]) (.inl fun v n j z=>z.2.1) (fun env o d w e=>?_) (fun O n j I z=>?_)
 ·obtain⟨dst,N,type,pos,after,guard⟩:=o;simp only at d;unfold Nm at d;split at d<;>try (cases d;done)
  simp only[Pt.range.injEq]at d;obtain⟨E,F⟩:=d;have L:w.heap[g]?=some (.map es clock):=H.elim (e.pu g _) (e.pm g _);obtain⟨g1,g2,t,C⟩:=e.newO (o:=.mapIter (some g) clock (Ar []) clock) rfl;have J:=run_range_map (P:=P) w _ kt et g es clock E L;refine B8 (w':=w.alloc (.mapIter (some g) clock (Ar []) clock)) (v:=.pointer (some ⟨w.heap.size,0,none⟩)) ?_ ⟨u,_,g1,g2,rfl,Jw _ t,w.heap.size,t,C,rfl,rfl⟩;simp only[execOp,F];simp[J,Ar]
 grind
def Ad8 (n:Nat)(h:0<n)(w:World):∃ j d,j<n/\(d=w\/d=w.drew)/\(choose (.mapNext n)).run P w=.ok j d:=by
 by_cases e:n<=1
 ·exact⟨0,w,h,.inl rfl,by simp[Question.forced,e]⟩
 exact⟨_,w.drew,A29 _ h,.inr rfl,by
  simp only[choose,Sem.run,Question.forced,decide_eq_true_eq,e,if_false,Question.cut];rfl⟩
theorem Amu {w:World}{t g:Nat}(J:TypeId)(hi:w.heap[t]?=some (.mapIter (some g) clock (Ar D) clock))(Q:w.heap[g]?=some (.map es clock))(I:Stamped es clock) :
 ((leftOf es (Ar D)).size=0/\(Instr.next (.pointer (some ⟨t,0,none⟩)) false J).run P w=.ok (.tuple #[.bool false]) w) \/
 ∃ e∈(leftOf es (Ar D)).toList,∃ h,(h=w\/h=w.drew)/\(Instr.next (.pointer (some ⟨t,0,none⟩)) false J).run P w=.ok (.tuple #[.bool true,e.key,e.val]) (Ta h t (.mapIter (some g) clock (Ar (D++[e])) clock)):=by
 have n:∀ e:MapEntry,(Ar D).push e.born=Ar (D++[e]):=fun e=>by simp[Ar]
 simp only[Instr.next,getObj,Sem.run_bind,Sem.run,hi,Q,Result.andThen,next_test_false (Ar D) es clock clock I.1 (A08 _),A4z,if_false];have d:∀ x∈(leftOf es (Ar D)).toList,x.born<clock:=fun x H=>I.1 x (mem_left H).1;have O:es.filter (fun e=>!(Ar D).contains e.born)=leftOf es (Ar D):=rfl;simp only[O];generalize leftOf es (Ar D)=L at d⊢;have K:L.filter (fun x=>decide (x.born<clock))=L:=Array.filter_eq_self.2 (fun x H=>by simpa using d x (by simpa using H));have N:L.filter (fun x=>decide (x.born≥clock)) = #[]:=by simp_all
 simp only[K,N,Array.append_empty];by_cases h0:L.size=0
 ·have:L = #[]:=A4s h0;subst this;simp[Question.forced]
 right;have F:L.isEmpty=false:=by grind
 simp only[F,A4z,if_false,Array.empty_append,Array.size_map];obtain⟨j,h,R,v,z⟩:=Ad8 (P:=P) L.size oV w;refine⟨L[j],mV,h,v,?_⟩;have E:h.heap[t]?=some (.mapIter (some g) clock (Ar D) clock):=by rcases v with rfl|rfl<;>exact hi
 have C:∀ o':Obj,(setObj t o').run P h=.ok () (Ta h t o'):=fun o'=>by
  simp only[setObj,Sem.run,E,Ta]
 simp only[z,Array.getElem?_map,A2v R,A4c,Sem.run_bind,C,n];rfl
def Bid (D:List MapEntry)(b:Nat):(Ar D).contains b=true↔b∈D.map (·.born):=by
 unfold Ar;simp
def Aoo (E:Stamped es clock)(n:Vo es D)(h:(leftOf es (Ar D)).size=0):D.Perm es.toList:=by
 have C:es.toList.Nodup:=M4 E.2.1;have v:D.Nodup:=M4 n.nod;refine (List.perm_ext_iff_of_nodup v C).2 fun e=>⟨n.sub e,fun H=>?_⟩;have z:leftOf es (Ar D) = #[]:=A4s h;have t:(Ar D).contains e.born=true:=by
  cases t:(Ar D).contains e.born with
  |true=>rfl
  |false =>
   have:e∈leftOf es (Ar D):=Array.mem_filter.2 ⟨by simpa using H,by rw[t];rfl⟩;rw[z]at this;simp at this
 obtain⟨d,F,K⟩:=A1b.1 ((Bid D _).1 t);have I:=find_born e es.toList E.2.1 H;have j:=find_born d es.toList E.2.1 (n.sub d F);rw[K]at j;rw[I]at j;have J:=A28 j;rw[J];exact F
def Vo.snoc (h:Vo es D){e:MapEntry}(z:e∈(leftOf es (Ar D)).toList):Vo es (D++[e]):=by
 obtain⟨t,j⟩:=mem_left z;refine⟨fun x d=>?_,?_⟩
 ·simp only[A1h,A12]at d;rcases d with d|rfl
  ·exact h.sub x d
  exact t
 simp only[A1i,A2u,A7m];refine A4p.2 ⟨h.nod,mV,fun a v b n=>?_⟩;simp only[A12]at n;subst n;rintro rfl;rw[(Bid D _).2 v]at j;cases j
theorem G.mapNext (n g:Nat)(es:Array MapEntry)(clock:Nat)(D:List MapEntry)(h:Ni P (adv P st)=.next (.pointer (some ⟨n,0,none⟩)))(E:Vl (adv P st)=true)(hi:m n=some (.mapIter (some g) clock (Ar D) clock))(R:u g=some (.map es clock)\/m g=some (.map es clock))(O:Stamped es clock)(L:Vo es D)
 (X:D.Perm es.toList->G P fn Post (nx (adv P st) (.tuple #[.bool false])) u m)
 (Y:∀ e,e∈es.toList->Vo es (D++[e])->G P fn Post (nx (adv P st) (.tuple #[.bool true,e.key,e.val])) u (m.upd n (.mapIter (some g) clock (Ar (D++[e])) clock))):G P fn Post st u m:=by
 refine G.bigX (K:=fun v Q I=>Q=u/\((I=m/\v=.tuple #[.bool false]/\D.Perm es.toList)\/∃ e,e∈es.toList/\Vo es (D++[e])/\v=.tuple #[.bool true,e.key,e.val]/\I=m.upd n (.mapIter (some g) clock (Ar (D++[e])) clock))) h (by simp[P5]) (.inr E) (fun env o d w j=>?_) (fun Z Q I T W=>?_)
 ·obtain⟨dst,V,type,pos,after,guard⟩:=o;simp only at d;unfold Nm at d;split at d<;>try (cases d;done)
  simp only[Pt.next.injEq]at d;have U:w.heap[g]?=some (.map es clock):=R.elim (j.pu g _) (j.pm g _);have H:=j.pm n _ hi;rcases Amu (P:=P) type H U O with ⟨h0,F⟩|⟨e,N,J,C,F⟩
  ·refine B8 (w':=w) (v:=.tuple #[.bool false]) ?_ ⟨u,m,j,B0.refl _ _ _,rfl,.inl ⟨rfl,rfl,Aoo O L h0⟩⟩;simp only[execOp,d];simp[F]
  have t:Bv u m J:=by rcases C with rfl|rfl;exact j;exact j.drew'
  have z:B0 u m w u m J:=by rcases C with rfl|rfl;exact B0.refl _ _ _;exact j.drewG
  obtain⟨g1,g2⟩:=t.setO (o':=.mapIter (some g) clock (Ar (D++[e])) clock) hi rfl;refine B8 (w':=Ta J n (.mapIter (some g) clock (Ar (D++[e])) clock)) (v:=.tuple #[.bool true,e.key,e.val]) ?_ ⟨u,_,g1,z.trans g2,rfl,.inr ⟨e,(mem_left N).1,L.snoc N,rfl,rfl⟩⟩;simp only[execOp,d];simp[F]
 grind
theorem G.mapEntry (n g:Nat)(es:Array MapEntry)(clock:Nat)(D:List MapEntry)(e:MapEntry)(h:Ni P (adv P st)=.entry (.pointer (some ⟨n,0,none⟩)))(hi:m n=some (.mapIter (some g) clock (Ar (D++[e])) clock))(J:u g=some (.map es clock)\/m g=some (.map es clock))(O:Stamped es clock)(H:e∈es.toList)
 (k:G P fn Post (nx (adv P st) (.tuple #[e.key,e.val])) u m):G P fn Post st u m:=by
 refine G.bigX (K:=fun v C z=>C=u/\z=m/\v=.tuple #[e.key,e.val]) h (by simp[P5]) (.inl fun v C z E=>by rw[E.2.1];exact PH.le_refl _) (fun env o d w j=>?_) (fun T C z L E=>?_)
 ·obtain⟨dst,R,type,pos,after,guard⟩:=o;simp only at d;unfold Nm at d;split at d<;>try (cases d;done)
  simp only[Pt.entry.injEq]at d;have Q:w.heap[g]?=some (.map es clock):=J.elim (j.pu g _) (j.pm g _);have t:=j.pm n _ hi;have F:(Ar (D++[e])).back?=some e.born:=by simp[Ar]
  have I:es.find? (fun x=>x.born==e.born)=some e:=by rw[<-Array.find?_toList];exact find_born e es.toList O.2.1 H
  have N:(Instr.entry (.pointer (some ⟨n,0,none⟩))).run P w=.ok (.tuple #[e.key,e.val]) w:=by
   simp only[Instr.entry,getObj,Sem.run_bind,Sem.run,t,Q,Result.andThen,F,bne_self_eq_false,I];rfl
  refine B8 (w':=w) ?_ ⟨u,m,j,B0.refl _ _ _,rfl,rfl,rfl⟩;simp only[execOp,d];simp[N]
 grind
end rules
end
section
variable {g:Nat}
variable [Cl]
def Pj (g:Nat)(o:Obj):PH:=PH.mt.upd g o
def PH.del (m:PH)(g:Nat):PH:=fun h=>if h=g then none else m h
def Ck (g:Nat)(o:Obj):Pj g o g=some o:=Ab _ _ _
def Mz {g h:Nat}(o:Obj)(d:h≠g):Pj g o h=none:=by unfold Pj;rw[Ad _ _ d];rfl
def Aoe {m:PH}{o:Obj}(h:m g=some o):m=(m.del g).or (Pj g o)/\Hp (m.del g) (Pj g o):=by
 constructor
 ·funext k
  by_cases e:k=g
  ·subst e;rw[PH.or_r (by simp[PH.del]),Ck,h]
  cases hk:m k with
  |none=>rw[PH.or_r (by simp[PH.del,e,hk]),Mz o e]
  |some p=>rw[PH.or_l (o:=p) (by simp[PH.del,e,hk])]
 intro k;by_cases e:k=g
 ·left;simp[PH.del,e]
 right;exact Mz o e
def Arv {m:PH}{o:Obj}:(m.del g).or (Pj g o)=m.upd g o:=by
 funext k
 by_cases e:k=g
 ·subst e;rw[PH.or_r (by simp[PH.del]),Ck,Ab]
 rw[Ad _ _ e];cases hk:m k with
 |none=>rw[PH.or_r (by simp[PH.del,e,hk]),Mz o e]
 |some p=>rw[PH.or_l (o:=p) (by simp[PH.del,e,hk])]
section
variable {P:Program} [A6 P] {fn:Func} {Post:Ce} {st:List KI×S} {u m:PH}
def G.callG (f:Nat)(args:List Value){g:Nat}{o:Obj}{R:Value->PH->Obj->Prop}(h:Aj P (adv P st)=.call f args)(e:Vl (adv P st)=true)(C:∀ args w,(callFunc f args).run P w=.ok (.enter f args) w)(E:m g=some o)
 (c:Ag P f args u (Pj g o) (fun v d j=>∃ o',j=Pj g o'/\R v d o')) (k:∀ v d o',PH.le u d->R v d o'->G P fn Post (nx (adv P st) v) d (m.upd g o')):G P fn Post st u m:=by
 obtain⟨n,t⟩:=Aoe E;refine G.callA f args h e C n t c ?_;rintro v d j F ⟨o',rfl,z⟩ _;rw[Arv];exact k v d o' F z
def Ag.giveAll {f:FuncId}{args:List Value}{R:Value->PH->PH->Prop}(c:Ag P f args u PH.mt R):Fn0 P f args u (fun v h=>∃ J I,PH.le J h/\PH.le I h/\R v J I):=by
 intro w Q;refine Calls.mono (c w Q) fun e w' O=>?_;obtain⟨v,h,F,K,H,n,L⟩:=O;have E:PH.le h (F.or h):=fun g o d=>by
  cases hx:F g with
  |none=>rw[PH.or_r hx];exact d
  |some p=>have:=(H.ap g).resolve_right (by rw[hx];simp);rw[this]at d;cases d
 refine⟨v,F.or h,PH.mt,K,⟨fun g o d=>?_,Fj.mt _,fun g=>.inr rfl,fun g cs t fr j z d T=>?_⟩,⟨n.sz,n.old,fun g C=>?_,fun _ _ _=>rfl,n.io,n.dr⟩,rfl,h,F,E,fun g o d=>PH.or_l d,L⟩
 ·cases hx:F g with
  |none=>rw[PH.or_r hx]at d;exact H.pu g o d
  |some p=>rw[PH.or_l hx]at d;cases d;exact H.pm g _ hx
 ·exact E g _ (H.cl g cs t fr j z d T)
 rw[PH.or_r (n.ms g C rfl)];exact n.us g C
end
abbrev SlI:Type:=Option Addr×Nat×Nat
def N3 {κ:Type}(enc:κ->Value)(R:PH->Value->Rat->Prop)(nz:Bool)(u:PH)(o:Obj)(f:κ->Rat)(N s:Nat):Prop :=
 ∃ l:List (κ×Value),Hu enc o l/\(∀ p∈l,R u p.2 (f p.1)/\(nz=true->f p.1≠0)/\Sz (f p.1) s)/\(∀ k,k∉l.map (·.1)->f k=0)/\l.length<=N
section
variable {κ:Type} [DecidableEq κ] {enc:κ->Value} {R:PH->Value->Rat->Prop} {nz:Bool} {u:PH} {o:Obj} {f:κ->Rat} {N s:Nat}
def N3.up {e j:Nat}(h:N3 enc R nz u o f N s)(z:N<=e)(C:s<=j):N3 enc R nz u o f e j:=by
 obtain⟨l,n,d,t,v⟩:=h;exact⟨l,n,fun p hp=>⟨(d p hp).1,(d p hp).2.1,(d p hp).2.2.mono C⟩,t,A04 v z⟩
def N3.congr {f':κ->Rat}(h:N3 enc R nz u o f N s)(e:∀ k,f k=f' k):N3 enc R nz u o f' N s:=by
 rw[<-funext e];exact h
def N3.empty (s:Nat):N3 enc R nz u (.map #[] 0) (fun _=>0) 0 s:=⟨[],Hu.empty,mV,fun _ _=>rfl,A08 _⟩
def O4 {a:κ}:∀ {l:List (κ×Value)} {v:Value},Ik a l=some v->(a,v)∈l
 |(b,w)::l,v,h=>by
  unfold Ik at h;split at h
  ·rename_i e;cases h;rw[e];simp
  exact A2f _ (O4 h)
def Abv {a:κ}:∀ {l:List (κ×Value)} {v:Value},(l.map (·.1)).Nodup->(a,v)∈l->Ik a l=some v
 |(b,w)::l,v,hn,h=>by
  simp only[A2u,A4j]at hn;unfold Ik;rcases A1g.1 h with e|e
  ·cases e;rw[if_pos rfl]
  have:a≠b:=fun d=>hn.1 (by rw[<-d];exact A1b.2 ⟨_,e,rfl⟩);rw[if_neg this];exact Abv hn.2 e
def Ae0 {a:κ}{x:Value}:∀ {l:List (κ×Value)} {p:κ×Value},(l.map (·.1)).Nodup->p∈Lr a x l->p=(a,x)\/(p∈l/\p.1≠a)
 |[],p,_,h=>by simp[Lr]at h;exact .inl h
 |(b,w)::l,p,hn,h=>by
  simp only[A2u,A4j]at hn;unfold Lr at h;split at h
  ·rename_i e;subst e;rcases A1g.1 h with h|h
   ·exact .inl h
   refine .inr ⟨A2f _ h,fun d=>hn.1 ?_⟩;rw[<-d];exact A1b.2 ⟨p,h,rfl⟩
  rename_i e;rcases A1g.1 h with h|h
  ·subst h;exact .inr ⟨mV,fun d=>e d.symm⟩
  rcases Ae0 hn.2 h with h|⟨h,j⟩
  ·exact .inl h
  exact .inr ⟨A2f _ h,j⟩
def Aaq {a:κ}{x:Value}{k:κ}:∀ {l:List (κ×Value)},k∈(Lr a x l).map (·.1)↔k=a\/k∈l.map (·.1)
 |[]=>by simp[Lr]
 |(b,w)::l=>by
  unfold Lr;split
  ·rename_i e;subst e;simp
  simp only[A2u,A1g,Aaq (l:=l)];constructor
  ·rintro (h|h|h)
   ·exact .inr (.inl h)
   ·exact .inl h
   exact .inr (.inr h)
  rintro (h|h|h)
  ·exact .inr (.inl h)
  ·exact .inl h
  exact .inr (.inr h)
def U1 {a:κ}{x:Value}:∀ {l:List (κ×Value)},(Lr a x l).length<=l.length+1
 |[]=>by simp[Lr]
 |(b,w)::l=>by
  unfold Lr;split
  ·simp
  have:=U1 (a:=a) (x:=x) (l:=l);simp;omega
def Bjp {a:κ}:∀ {l:List (κ×Value)} {p:κ×Value},(l.map (·.1)).Nodup->(p∈Awn a l↔p∈l/\p.1≠a)
 |[],p,_=>by simp[Awn]
 |(b,w)::l,p,hn=>by
  simp only[A2u,A4j]at hn;unfold Awn;split
  ·rename_i e;subst e;constructor
   ·intro h;refine⟨A2f _ h,fun d=>hn.1 ?_⟩;rw[<-d];exact A1b.2 ⟨p,h,rfl⟩
   rintro⟨h,h'⟩;rcases A1g.1 h with h|h
   ·subst h;exact absurd rfl h'
   exact h
  rename_i e;simp only[A1g,Bjp hn.2];constructor
  ·rintro (h|⟨h,h'⟩)
   ·subst h;exact⟨.inl rfl,fun d=>e d.symm⟩
   exact⟨.inr h,h'⟩
  rintro⟨h|h,h'⟩
  ·exact .inl h
  exact .inr ⟨h,h'⟩
def Bjb {a:κ}:∀ {l:List (κ×Value)},(Awn a l).length<=l.length
 |[]=>by simp[Awn]
 |(b,w)::l=>by
  unfold Awn;split
  ·simp
  have:=Bjb (a:=a) (l:=l);simp;omega
def Nh (f:κ->Rat)(a:κ)(q:Rat):κ->Rat:=fun k=>if k=a then q else f k
def N3.put {o':Obj}{a:κ}{x:Value}{q:Rat}{l:List (κ×Value)}(z:Hu enc o l)(d:∀ p∈l,R u p.2 (f p.1)/\(nz=true->f p.1≠0)/\Sz (f p.1) s)(v:∀ k,k∉l.map (·.1)->f k=0)(H:l.length<=N)
 (t:Hu enc o' (Lr a x l)) (F:R u x q) (C:nz=true->q≠0) {n:Nat} (E:Sz q n) (j:s<=n):N3 enc R nz u o' (Nh f a q) (N+1) n:=by
 refine⟨_,t,fun p hp=>?_,fun k e=>?_,A04 U1 oV⟩
 ·unfold Nh;rcases Ae0 z.nodup hp with rfl|⟨hp,h⟩
  ·simp only[if_true];exact⟨F,C,E⟩
  rw[if_neg h];exact⟨(d p hp).1,(d p hp).2.1,(d p hp).2.2.mono j⟩
 rw[Aaq,not_or]at e;unfold Nh;rw[if_neg e.1];exact v k e.2
def N3.drop {o':Obj}{a:κ}{l:List (κ×Value)}(e:Hu enc o l)(j:∀ p∈l,R u p.2 (f p.1)/\(nz=true->f p.1≠0)/\Sz (f p.1) s)(n:∀ k,k∉l.map (·.1)->f k=0)(t:l.length<=N)
 (h:Hu enc o' (Awn a l)):N3 enc R nz u o' (Nh f a 0) N s:=by
 refine⟨_,h,fun p hp=>?_,fun k v=>?_,A04 Bjb t⟩
 ·obtain⟨hp,d⟩:=(Bjp e.nodup).1 hp;unfold Nh;rw[if_neg d];exact j p hp
 unfold Nh;split
 ·rfl
 rename_i d;refine n k fun z=>v ?_;obtain⟨p,hp,rfl⟩:=A1b.1 z;exact A1b.2 ⟨p,(Bjp e.nodup).2 ⟨hp,d⟩,rfl⟩
end
end
section
variable [Cl]
open Go.MapKept
def Tt {α β:Type}(f:α->β):∀ {l:List α} {x y:α},(l.map f).Nodup->x∈l->y∈l->f x=f y->x=y
 |[],_,_,_,h,_,_=>by simp at h
 |a::l,x,y,hn,g,d,e=>by
  simp only[A2u,A4j]at hn;rcases A1g.1 g with n|g
  ·subst n;rcases A1g.1 d with j|d
   ·exact j.symm
   exact absurd (A1b.2 ⟨y,d,e.symm⟩) hn.1
  rcases A1g.1 d with j|d
  ·rw[j]at e;exact absurd (A1b.2 ⟨x,g,e⟩) hn.1
  exact Tt f hn.2 g d e
theorem Ym {α β:Type}(f:α->β):∀ {L l:List α},(L.map f).Nodup->(∀ p∈L,p∈l)->L.length<=l.length
 |[],_,_,_=>A1t _
 |a::L,l,hn,hs=>by
  simp only[A2u,A4j]at hn;obtain⟨s,t,rfl⟩:=A6k (hs a mV);have:=Ym f (L:=L) (l:=s++t) hn.2 (fun p hp=>by
   have h1:=hs p (by simp[hp]);have hne:p≠a:=fun e=>hn.1 (by rw[<-e];exact A1b.2 ⟨p,hp,rfl⟩);simp only[A1h,A1g]at h1⊢;rcases h1 with h|h|h
   ·exact .inl h
   ·exact absurd h hne
   ·exact .inr h)
  simp only[A1d,A3f]at this⊢;omega
section
variable {κ:Type} [DecidableEq κ] {enc:κ->Value}
structure Gj (enc:κ->Value)(es:Array MapEntry)(l:List (κ×Value))(D:List MapEntry)(L:List (κ×Value)):Prop where
 it:Vo es D
 kv:D.map (fun e=>(e.key,e.val))=L.map (fun p=>(enc p.1,p.2))
 sub:∀ p∈L,p∈l
 nod:(L.map (·.1)).Nodup
def Gj.nil (es:Array MapEntry)(l:List (κ×Value)):Gj enc es l [] []:=⟨Vo.nil es,rfl,mV,mV⟩
def Gj.snoc (z:∀ a b,enc a=enc b->a=b){es:Array MapEntry}{l:List (κ×Value)}{D:List MapEntry}{L:List (κ×Value)}(K:es.toList.map (fun e=>(e.key,e.val))=l.map (fun p=>(enc p.1,p.2)))(N:(l.map (·.1)).Nodup)
 (h:Gj enc es l D L) {e:MapEntry} (J:e∈es.toList) (hi:Vo es (D++[e])):∃ p,p∈l/\e.key=enc p.1/\e.val=p.2/\p.1∉L.map (·.1)/\Gj enc es l (D++[e]) (L++[p]):=by
 have Q:(e.key,e.val)∈l.map (fun p=>(enc p.1,p.2)):=by rw[<-K];exact A1b.2 ⟨e,J,rfl⟩
 obtain⟨p,hp,d⟩:=A1b.1 Q;simp only[A2i]at d;have C:(es.toList.map (·.key)).Nodup:=by
  have O:es.toList.map (·.key)=(l.map (·.1)).map enc:=by
   have:=congrArg (List.map (·.1)) K;simpa[Function.comp_def] using this
  rw[O];exact Bay.2 (N.imp fun E g=>E (z _ _ g))
 have n:p.1∉L.map (·.1):=by
  intro U;obtain⟨q,j,H⟩:=A1b.1 U;have F:q=p:=Tt (·.1) N (h.sub q j) hp H;subst F;have R:(enc q.1,q.2)∈D.map (fun e=>(e.key,e.val)):=by rw[h.kv];exact A1b.2 ⟨q,j,rfl⟩
  obtain⟨g,t,v⟩:=A1b.1 R;simp only[A2i]at v;have:g=e:=Tt (·.key) C (h.it.sub g t) J (v.1.trans d.1);subst this;have:=hi.nod;rw[A1i,A4p]at this;exact this.2.2 g.born (A1b.2 ⟨g,t,rfl⟩) g.born mV rfl
 refine⟨p,hp,d.1.symm,d.2.symm,n,hi,?_,fun q j=>?_,?_⟩
 ·rw[A1i,A1i,h.kv];simp[d.1,d.2]
 ·rcases A1h.1 j with j|j
  ·exact h.sub q j
  simp at j;subst j;exact hp
 rw[A1i,A4p];exact⟨h.nod,mV,fun a T b I g=>n (by simp at I;rw[<-I,<-g];exact T)⟩
def Gj.all (j:∀ a b,enc a=enc b->a=b){es:Array MapEntry}{l:List (κ×Value)}{D:List MapEntry}{L:List (κ×Value)}(C:es.toList.map (fun e=>(e.key,e.val))=l.map (fun p=>(enc p.1,p.2)))
 (h:Gj enc es l D L) (hp:D.Perm es.toList):∀ p∈l,p∈L:=by
 intro p n;have t:(enc p.1,p.2)∈es.toList.map (fun e=>(e.key,e.val)):=by rw[C];exact A1b.2 ⟨p,n,rfl⟩
 obtain⟨e,z,d⟩:=A1b.1 t;have v:(e.key,e.val)∈L.map (fun p=>(enc p.1,p.2)):=by rw[<-h.kv];exact A1b.2 ⟨e,hp.mem_iff.2 z,rfl⟩
 obtain⟨q,E,g⟩:=A1b.1 v;simp only[A2i]at g d;have:q=p:=A6z (j _ _ (g.1.trans d.1)) (g.2.trans d.2);subst this;exact E
def Gj.len {es:Array MapEntry}{l:List (κ×Value)}{D:List MapEntry}{L:List (κ×Value)}(h:Gj enc es l D L):L.length<=l.length:=Ym (·.1) h.nod h.sub
end
section rules
variable {P:Program} [A6 P] {fn:Func} {Post:Ce} {st:List KI×S} {u m:PH}
variable {κ:Type} [DecidableEq κ] {enc:κ->Value}
def G.mapNextL (j:∀ a b,enc a=enc b->a=b)(n g:Nat)(es:Array MapEntry)(d:Nat)(l:List (κ×Value))(D:List MapEntry)(L:List (κ×Value))(h:Ni P (adv P st)=.next (.pointer (some ⟨n,0,none⟩)))(v:Vl (adv P st)=true)
 (hi:m n=some (.mapIter (some g) d (Ar D) d)) (N:u g=some (.map es d)\/m g=some (.map es d)) (Q:Stamped es d) (H:es.toList.map (fun e=>(e.key,e.val))=l.map (fun p=>(enc p.1,p.2))) (O:(l.map (·.1)).Nodup) (t:Gj enc es l D L)
 (R:(∀ p∈l,p∈L)->G P fn Post (nx (adv P st) (.tuple #[.bool false])) u m)
 (T:∀ p e,p∈l->p.1∉L.map (·.1)->e∈es.toList->e.key=enc p.1->e.val=p.2->Gj enc es l (D++[e]) (L++[p])->G P fn Post (nx (adv P st) (.tuple #[.bool true,enc p.1,p.2])) u (m.upd n (.mapIter (some g) d (Ar (D++[e])) d))):G P fn Post st u m:=by
 refine G.mapNext n g es d D h v hi N Q t.it (fun hp=>R (t.all j H hp)) (fun e F z=>?_);obtain⟨p,I,C,E,J,K⟩:=t.snoc j H O F z;rw[C,E];exact T p e I J F C E K
end rules
end
section
abbrev Par:=Int×List UInt8
def Ud:∀ a:List UInt8,Op.bytesLess a a=false
 |[]=>rfl
 |x::a=>by unfold Op.bytesLess;rw[Ud a];simp
def Se:∀ {a b c:List UInt8},Op.bytesLess a b=true->Op.bytesLess b c=true->Op.bytesLess a c=true
 |_,[],_,h,_=>by simp[Op.bytesLess]at h
 |_,_::_,[],_,k=>by simp[Op.bytesLess]at k
 |[],_::_,_::_,_,_=>rfl
 |x::a,y::b,z::c,h,k=>by
  unfold Op.bytesLess at h k⊢;simp only[A4b,decide_eq_true_eq,A1m,beq_iff_eq]at h k⊢;rcases h with h|⟨rfl,h⟩
  ·rcases k with k|⟨rfl,k⟩
   ·exact .inl (UInt8.lt_trans h k)
   exact .inl h
  rcases k with k|⟨rfl,k⟩
  ·exact .inl k
  exact .inr ⟨rfl,Se h k⟩
def Ab1:∀ {a b:List UInt8},Op.bytesLess a b=false->Op.bytesLess b a=false->a=b
 |[],[],_,_=>rfl
 |[],_::_,h,_=>by simp[Op.bytesLess]at h
 |_::_,[],_,k=>by simp[Op.bytesLess]at k
 |x::a,y::b,h,k=>by
  unfold Op.bytesLess at h k;simp only[Bool.or_eq_false_iff,decide_eq_false_iff_not,A8b,beq_eq_false_iff_ne]at h k;have d:x=y:=by
   rcases A5u x.toNat y.toNat with e|e|e
   ·exact absurd (A9v.2 e) h.1
   ·exact A8p.1 e
   exact absurd (A9v.2 e) k.1
  subst d;have g:=h.2.resolve_left (fun e=>e rfl);have j:=k.2.resolve_left (fun e=>e rfl);rw[Ab1 g j]
def Vj (a b:List UInt8):Int:=if Op.bytesLess a b then -1 else if a=b then 0 else 1
def Q1 (x y:Int):Int:=if x<y then -1 else if y<x then 1 else 0
def Bk (a b:Par):Int:=if Q1 a.1 b.1≠0 then Q1 a.1 b.1 else Vj a.2 b.2
def Oc (a b:Par×Par):Int:=if Bk a.1 b.1≠0 then Bk a.1 b.1 else Bk a.2 b.2
structure Ord {κ:Type}(c:κ->κ->Int):Prop where
 refl:∀ a,c a a=0
 eq:∀ a b,c a b=0->a=b
 sym:∀ a b,c a b<0↔0<c b a
 trans:∀ a b d,c a b<0->c b d<0->c a d<0
def A0y:Ord Vj:=by
 refine⟨fun a=>by simp[Vj,Ud],fun a b h=>?_,fun a b=>?_,fun a b d h k=>?_⟩
 ·unfold Vj at h;split at h
  ·cases h
  split at h
  ·assumption
  cases h
 ·unfold Vj;by_cases h:Op.bytesLess a b=true
  ·rw[if_pos h];have g:¬ (Op.bytesLess b a=true):=fun k=>by have:=Se h k;rw[Ud]at this;cases this
   have m:¬ (b=a):=fun e=>by rw[e,Ud]at h;cases h
   rw[if_neg g,if_neg m];omega
  rw[if_neg h];constructor
  ·intro k;split at k<;>omega
  intro k;by_cases g:Op.bytesLess b a=true
  ·rw[if_pos g]at k;omega
  rw[if_neg g]at k;have:=Ab1 (Baz.2 g) (Baz.2 h);rw[if_pos this]at k;omega
 have j:Op.bytesLess a b=true:=by
  unfold Vj at h;split at h
  ·assumption
  split at h<;>omega
 have n:Op.bytesLess b d=true:=by
  unfold Vj at k;split at k
  ·assumption
  split at k<;>omega
 unfold Vj;rw[if_pos (Se j n)];omega
def A0o:Ord Q1:=by
 refine⟨fun a=>by simp[Q1],fun a b h=>?_,fun a b=>?_,fun a b d h k=>?_⟩;all_goals unfold Q1 at *
 ·split at h<;>(try split at h)<;>omega
 ·split<;>split<;>(try split)<;>omega
 split at h<;>split at k<;>(try split at h)<;>(try split at k)<;>split<;>(try split)<;>omega
def Ord.lex {α β:Type}{c:α->α->Int}{d:β->β->Int}(h:Ord c)(k:Ord d):Ord (fun (a b:α×β)=>if c a.1 b.1≠0 then c a.1 b.1 else d a.2 b.2):=by
 refine⟨fun a=>by simp[h.refl,k.refl],fun a b e=>?_,fun a b=>?_,fun a b x e f=>?_⟩
 ·by_cases h0:c a.1 b.1=0
  ·simp only[h0,ne_eq,not_true,if_false]at e;exact A6z (h.eq _ _ h0) (k.eq _ _ e)
  simp only[h0,ne_eq,not_false_eq_true,if_true]at e
 ·have E:=h.sym a.1 b.1;have H:=h.sym b.1 a.1;by_cases h0:c a.1 b.1=0
  ·have e:=h.eq _ _ h0;have t:c b.1 a.1=0:=by rw[<-e];exact h.refl _
   simp only[h0,t,ne_eq,not_true,if_false];exact k.sym _ _
  have t:c b.1 a.1≠0:=fun F=>h0 (by rw[h.eq _ _ F];exact h.refl _);simp only[h0,t,ne_eq,not_false_eq_true,if_true];exact E
 have g:∀ y z:α×β,(if c y.1 z.1≠0 then c y.1 z.1 else d y.2 z.2)<0↔(c y.1 z.1<0\/(y.1=z.1/\d y.2 z.2<0)):=fun y z=>by
  by_cases h0:c y.1 z.1=0
  ·have e:=h.eq _ _ h0;simp only[h0,ne_eq,not_true,if_false];constructor
   ·intro j;exact .inr ⟨e,j⟩
   rintro (j|⟨_,j⟩)
   ·omega
   exact j
  simp only[h0,ne_eq,not_false_eq_true,if_true];constructor
  ·intro j;exact .inl j
  rintro (j|⟨m,_⟩)
  ·exact j
  exact absurd (by rw[m];exact h.refl _) h0
 have m:=(g a b).1 e;have f':=(g b x).1 f;refine (g a x).2 ?_;rcases m with m|⟨u,C⟩
 ·rcases f' with f'|⟨n,v⟩
  ·exact .inl (h.trans _ _ _ m f')
  rw[<-n];exact .inl m
 rcases f' with f'|⟨n,v⟩
 ·rw[u];exact .inl f'
 exact .inr ⟨u.trans n,k.trans _ _ _ C v⟩
def Et:Ord Bk:=Ord.lex A0o A0y
def A0t:Ord Oc:=Ord.lex Et Et
section
variable {κ:Type} {c:κ->κ->Int}
def Hb (c:κ->κ->Int)(l:List κ):Prop:=l.Pairwise fun a b=>c a b<0
def Ord.irr (h:Ord c)(a:κ):¬ c a a<0:=by rw[h.refl];omega
def Agg (h:Ord c):∀ {l g:List κ},Hb c l->Hb c g->(∀ a,a∈l↔a∈g)->l=g
 |[],[],_,_,_=>rfl
 |[],b::g,_,_,e=>by have:=(e b).2 mV;simp at this
 |a::l,[],_,_,e=>by have:=(e a).1 mV;simp at this
 |a::l,b::g,h1,h2,e=>by
  obtain⟨m,t⟩:=A8y.1 h1;obtain⟨n,u⟩:=A8y.1 h2;have j:a=b:=by
   rcases A1g.1 ((e a).1 mV) with r|r
   ·exact r
   rcases A1g.1 ((e b).2 mV) with s|s
   ·exact s.symm
   exact absurd (h.trans _ _ _ (m b s) (n a r)) (h.irr a)
  subst j
  congr 1
  refine Agg h t u fun x=>?_;constructor
  ·intro d;rcases A1g.1 ((e x).1 (by simp[d])) with r|r
   ·subst r;exact absurd (m x d) (h.irr x)
   exact r
  intro d;rcases A1g.1 ((e x).2 (by simp[d])) with r|r
  ·subst r;exact absurd (n x d) (h.irr x)
  exact r
def Hb.nodup (h:Ord c){l:List κ}(hs:Hb c l):l.Nodup:=hs.imp fun hh e=>by rw[e]at hh;exact h.irr _ hh
structure Can (c:κ->κ->Int)(f:κ->Rat)(l:List (κ×Rat)):Prop where
 srt:Hb c (l.map (·.1))
 val:∀ p∈l,p.2=f p.1/\p.2≠0
 out:∀ k,k∉l.map (·.1)->f k=0
def Can.ext (h:Ord c){f:κ->Rat}{l t:List (κ×Rat)}(g:Can c f l)(m:Can c f t):l=t:=by
 have mem:∀ {l:List (κ×Rat)},Can c f l->∀ k,k∈l.map (·.1)↔f k≠0:=fun {l} g k=>by
  constructor
  ·intro n;obtain⟨p,hp,rfl⟩:=A1b.1 n;obtain⟨e,u⟩:=g.val p hp;rw[<-e];exact u
  intro n;exact A3m fun v=>n (g.out k v)
 have j:=Agg h g.srt m.srt fun a=>(mem g a).trans (mem m a).symm;have d:∀ {l:List (κ×Rat)},Can c f l->l=(l.map (·.1)).map fun k=>(k,f k):=fun {l} g=>by
  rw[A9h]
  conv=>lhs;rw[<-List.map_id l]
  refine A41 fun p hp=>?_;show p=(p.1,f p.1);rw[<-(g.val p hp).1]
 rw[d g,d m,j]
end
structure CF where
 c:Rat
 s:Par->Rat
 t:Par×Par->Rat
def Ay (p q:Par):Par×Par:=if 0<Bk p q then (q,p) else (p,q)
def Wi (p q:Par):Ay p q=Ay q p:=by
 unfold Ay;have e:=Et.sym p q;have g:=Et.sym q p;by_cases h:0<Bk p q
 ·rw[if_pos h,if_neg oV]
 rw[if_neg h];by_cases d:0<Bk q p
 ·rw[if_pos d]
 rw[if_neg d];have:=Et.eq p q oV;rw[this]
def CF.zero:CF:=⟨0,fun _=>0,fun _=>0⟩
def CF.add (a b:CF):CF:=⟨a.c+b.c,fun p=>a.s p+b.s p,fun q=>a.t q+b.t q⟩
def CF.scale (k:Rat)(a:CF):CF:=⟨a.c*k,fun p=>a.s p*k,fun q=>a.t q*k⟩
def I2 (a b:CF)(q:Par×Par):Rat:=if 0<Bk q.1 q.2 then 0 else if q.1=q.2 then 2*(a.s q.1*b.s q.1) else a.s q.1*b.s q.2+a.s q.2*b.s q.1
def CF.mul (a b:CF):CF:=⟨a.c*b.c,fun p=>b.s p*a.c+a.s p*b.c,fun q=>b.t q*a.c+a.t q*b.c+I2 a b q⟩
def CF.ext' {a b:CF}(d:a.c=b.c)(e:∀ p,a.s p=b.s p)(g:∀ q,a.t q=b.t q):a=b:=by
 cases a;cases b;simp only at d e g;rw[d,funext e,funext g]
theorem CF.add_comm (a b:CF):a.add b=b.add a:=CF.ext' (by simp only[CF.add];grind) (fun p=>by simp only[CF.add];grind) (fun q=>by simp only[CF.add];grind)
theorem Ajg (a b:CF)(q:Par×Par):I2 a b q=I2 b a q:=by
 unfold I2;split
 ·rfl
 split<;>grind
theorem CF.mul_comm (a b:CF):a.mul b=b.mul a:=CF.ext' (by simp only[CF.mul];grind) (fun p=>by simp only[CF.mul];grind) (fun q=>by simp only[CF.mul];rw[Ajg];grind)
theorem CF.mul_zero (a:CF):a.mul CF.zero=CF.zero:=by
 refine CF.ext' (by simp only[CF.mul,CF.zero];grind) (fun p=>by simp only[CF.mul,CF.zero];grind) (fun q=>?_);simp only[CF.mul,CF.zero,I2];split
 ·grind
 split<;>grind
theorem CF.add_zero (a:CF):a.add CF.zero=a:=CF.ext' (by simp only[CF.add,CF.zero];grind) (fun p=>by simp only[CF.add,CF.zero];grind) (fun q=>by simp only[CF.add,CF.zero];grind)
end
section
variable {k n:Nat}{q:Rat}{s:Src}{ts:List Int}{u:PH}
def A0c {x:Int}(m:-9223372036854775808<=x)(t:x<=9223372036854775807)(d:0<n)(e:n<=1000000) :
 Fn0 prog 35 [.int .i64 x,.int .i64 n] u fun v _=>∃ r:Nat,v=.int .i64 r/\r<n:=by
 refine Fn0.o func35<|G.lF n 1 ?_;have h:=Baj x (show (0:Int)<n by omega);have j:=Bak x (show (0:Int)<n by omega);refine G.remZ x (n:Int) (x.tmod n) kV oV oV rfl<|G.add (x.tmod n) (n:Int) (x.tmod n+n) kV rfl oV oV ?_;obtain⟨y,g⟩:∃ y:Nat,x.tmod n+n=(y:Int):=⟨(x.tmod n+n).toNat,oV⟩;exact G.remZ (x.tmod n+n) (n:Int) ((y%n:Nat):Int) kV oV oV (by rw[g,A47 oV];rfl)<|G.r _ ⟨rfl,y%n,rfl,A29 _ d⟩
def Azm (s:Src)(n:Nat)(v:Value)(m':PH):Prop:=∃ r k:Nat,v=.int .i64 r/\r<n/\k<=s.n/\m'=s.M k
def I4 (h:J0 u s ts)(E:k<=s.n)(F:0<n)(t:n<=1000000) :
 Ag prog 10 [s.ptr,.int .i64 n] u (s.M k) fun v _ L=>Azm s n v L:=by
 have z:=h.n;have J:=h.le;refine Ag.o func10<|G.f 81 s.g 0 1 1<|G.lM none s.g (0+1) (.int .i64 k) (s.cell1 k)<|G.f 81 s.g 0 0 0<|G.lM none s.g (0+0) (.slice s.a s.n s.c) (s.cell0 k) ?_;by_cases m:k<s.n
 ·refine G.hF k s.n<|G.f 81 s.g 0 1 1<|G.lM none s.g (0+1) (.int .i64 k) (s.cell1 k)<|G.i k<|G.f 81 s.g 0 1 1<|G.storeM 1 s.g (0+1) 81 [.slice s.a s.n s.c,.int .i64 k] (.int .i64 (k+1:Nat)) kV (Ab _ _ _) (fun x H=>by simp at H;rcases H with rfl|rfl<;>rfl) mV rfl rfl ?_
  have e:(s.M k).upd s.g (.cells (([Value.slice s.a s.n s.c,.int .i64 k].take (0+1))++(Value.int .i64 (k+1:Nat)).cells.toList++([Value.slice s.a s.n s.c,.int .i64 k].drop (0+1+1))).toArray 81 (0,0))=s.M (k+1):=by
   unfold Src.M;rw[Dp];rfl
  rw[e];refine G.f 81 s.g 0 0 0<|G.lM none s.g (0+0) (.slice s.a s.n s.c) (s.cell0 (k+1))<|G.f 81 s.g 0 1 1<|G.lM none s.g (0+1) (.int .i64 (k+1:Nat)) (s.cell1 (k+1))<|G.s (k+1:Nat) 1 k ?_;have d:k<ts.length:=oV;obtain⟨b,off,C,I⟩:=Ac.at' h.list (j:=k) (e:=.int .i64 ts[k]) (by simp[Fc,A01 d]);obtain⟨g,a,N,c⟩:=s;simp only at C m E z;subst C;refine G.a b off N c k 1 m<|G.lU none b (off+k*1) (.int .i64 ts[k]) I<|G.c call35 (A0c (h.lo _ (A09 d)) (h.hi _ (A09 d)) F t) ?_;rintro Q P O ⟨r,rfl,K⟩;exact G.r _ ⟨r,k+1,rfl,K,dV,rfl⟩
 exact G.hT k s.n<|G.r (.int .i64 0) ⟨0,k,rfl,F,E,rfl⟩
def Anm {lo hi:Int}(h:J0 u s ts)(t:k<=s.n)(z:-1000000<=lo)(m:lo<=1000000)(C:hi-lo+1=(n:Int))(g:0<n)(j:n<=1000000) :
 Ag prog 30 [s.ptr,.int .i64 lo,.int .i64 hi] u (s.M k) fun v _ F=>∃ (r:Nat) (d:Nat),v=.int .i64 (lo+(r:Int))/\r<n/\d<=s.n/\F=s.M d:=by
 refine Ag.o func30<|G.sub hi lo (hi-lo) kV rfl oV oV<|G.add (hi-lo) 1 (n:Int) kV C oV oV<|G.A call10 (I4 h t g j) ?_;rintro K J I H ⟨r,d,rfl,E,e,rfl⟩ _;rw[By];exact G.add lo (r:Int) (lo+(r:Int)) kV rfl oV oV<|G.r _ ⟨r,d,rfl,E,e,rfl⟩
def Aer {v:Value}{L:List Int}(h:J0 u s ts)(F:k<=s.n)(g:Ac u v 1 (Fc L))(t:0<L.length)(C:L.length<=1000000) :
 Ag prog 32 [s.ptr,v] u (s.M k) fun v _ I=>∃ z∈L,∃ d:Nat,v=.int .i64 z/\d<=s.n/\I=s.M d:=by
 obtain⟨a,c,rfl⟩:=g.opn;rw[Cq]at g⊢;refine Ag.o func32<|G.A call10 (I4 h F t C) ?_;rintro N K J H ⟨r,d,rfl,E,m,rfl⟩ _;rw[By];obtain⟨b,off,rfl,e⟩:=Ac.at' (g.mono H) (j:=r) (e:=.int .i64 L[r]) (by simp[Fc,A01 E]);exact G.a b off L.length c r 1 E<|G.lU none b (off+r*1) (.int .i64 L[r]) e<|G.r _ ⟨L[r],A09 E,d,rfl,m,rfl⟩
structure SmR (q:Rat):Prop where
 num:q.num.natAbs<=9
 den:q.den ∣ 12
def SmR.le (h:SmR q):q.den<=12:=Nat.le_of_dvd oV h.den
def SmR.tx (h:SmR q):Tx q:=⟨A04 (Cz (k:=2) oV (by have:=h.num;omega)) oV,A04 (Cz (k:=2) oV (by have:=h.le;omega)) oV⟩
structure SmW (q:Rat):Prop where
 num:q.num.natAbs<=1545
 den:q.den ∣ 12
def SmR.w (h:SmR q):SmW q:=⟨A04 h.num oV,h.den⟩
def SmW.le (h:SmW q):q.den<=12:=Nat.le_of_dvd oV h.den
def SmW.tx (h:SmW q):Tx q:=⟨A04 (Cz (k:=4) oV (by have:=h.num;omega)) oV,A04 (Cz (k:=2) oV (by have:=h.le;omega)) oV⟩
def Bqg:∀ r:Fin 19,∀ d:Fin 5,d.val≠0->((Rat.divInt ((r.val:Int)-9) (d.val:Int)).num.natAbs<=9/\(Rat.divInt ((r.val:Int)-9) (d.val:Int)).den ∣ 12):=fV
def Bsa {r:Nat}(t:r<19){d:Int}(j:d∈[1,1,1,2,3,(4:Int)]):SmR (Rat.divInt (-9+(r:Int)) d)/\d≠0/\0<d/\d<=4:=by
 have:∃ g:Fin 5,g.val≠0/\d=(g.val:Int):=by
  simp at j;rcases j with rfl|rfl|rfl|rfl
  ·exact⟨1,fV,rfl⟩
  ·exact⟨2,fV,rfl⟩
  ·exact⟨3,fV,rfl⟩
  exact⟨4,fV,rfl⟩
 obtain⟨g,m,rfl⟩:=this;have h:=Bqg ⟨r,t⟩ g m;have e:(-9+(r:Int))=(r:Int)-9:=oV;rw[e];exact⟨⟨h.1,h.2⟩,oV,oV,by have:=g.isLt;omega⟩
def Bk1 (h:J0 u s ts)(U:k<=s.n) :
 Ag prog 38 [s.ptr] u (s.M k) fun v _ m'=>∃ (q:Rat) (F:Nat),v=.string (mkS (Ae q))/\SmR q/\F<=s.n/\m'=s.M F:=by
 refine Ag.o func38<|G.A call30 (Anm (lo:=-9) (hi:=9) (n:=19) h U oV oV oV oV oV) ?_;rintro v1 u1 m1 X ⟨r,k1,rfl,V,t,rfl⟩ _;rw[By];refine G.c call71 (Ac6 (n:=-9+(r:Int)) oV oV) ?_;intro v2 u2 l2 H;obtain⟨b2,a2,n2,c2,rfl,_,_⟩:=H.opn;refine G.buildU 3 1 8 (.int .i64 0) (Fc [1,1,1,2,3,4]) kV (N7 _) rfl oV (by simp[Fc]) (by simp[Fc]) ?_;intro C u3 K O;have g:Ac u3 (.slice (some ⟨C,0,none⟩) 6 6) 1 (Fc [1,1,1,2,3,4]):=⟨_,6,rfl,A08 _,fun j e T=>⟨C,0,rfl,O j e T⟩⟩;refine G.A call32 (Aer (h.mono ((X.trans l2).trans K)) t g mV mV) ?_;rintro v4 u4 m4 Y ⟨d,P,W,rfl,z,rfl⟩ _;rw[By];obtain⟨E,m,Q,R⟩:=Bsa V P;refine G.c call71 (Ac6 (n:=d) oV oV) ?_;intro v5 u5 Z I;obtain⟨b5,a5,n5,c5,rfl,_,_⟩:=I.opn;refine G.c call70 (V8 (H.mono ((K.trans Y).trans Z)) I (Bpc oV oV) (Bpc oV oV) m) ?_;intro v6 u6 l6 J;obtain⟨b6,a6,n6,c6,L,a0,N,rfl,_⟩:=J.opn;refine G.c call66 (Ox J E.tx) ?_;rintro v7 u7 l7 rfl;exact G.r _ ⟨_,W,rfl,E,z,rfl⟩
end
section
section rules
variable [Cl] {P:Program} [A6 P] {fn:Func} {Post:Ce} {st:List KI×S} {u m:PH}
def G.appendM (e:TypeId)(sz Q:Nat)(z:Value)(m0:PH)(es xs:List Value)(v:Value)(b off n c:Nat)(h:Aj P (adv P st)=.app (some (e,sz,Q,z)) true [v,.slice (some ⟨b,off,none⟩) n c])(hz:z.cells.toList.all Ax=true)(O:z.cells.size=sz)(F:0<sz)
 (Y:Af m0 m v e sz es) (hx:Hc m b off sz xs) (R:A9 sz xs) (hn:xs.length=n) (L:0<n) (Z:(es.length+n)*Q<=140737488355328) (H:es.length+n<=9223372036854775807)
 (k:∀ g d,Af m0 d g e sz (es++xs)->G P fn Post (nx (adv P st) g) u d):G P fn Post st u m:=by
 refine G.big (K:=fun g T d=>T=u/\Af m0 d g e sz (es++xs)) h mV (fun C op N=>(Ew (P:=P) (o:=⟨none,op,0, "",#[],none⟩) N).2.1) (.inr fun C op N=>(Ew (P:=P) (o:=⟨none,op,0, "",#[],none⟩) N).1) (fun C o j w E=>?_) (fun g T d _ J=>?_)
 ·obtain⟨_,_,t,hi,I⟩:=Ew (P:=P) j;obtain⟨g,w',d,U,V,W,X⟩:=Rz (P:=P) m0 es xs v b off n c o.type hi hz O F Y R hn L Z H E (hx.cells F R E.pm);refine B8 (w':=w') (v:=g) ?_ ⟨u,d,V,W,rfl,X⟩;rw[I w,U];rfl
 obtain⟨rfl,J⟩:=J;exact k g d J
end rules
def Src.h0 (s:Src)(k k':Nat)(g:Nat):s.M k g=none\/s.M k' g≠none:=by
 by_cases e:g=s.g
 ·subst e;right;unfold Src.M;rw[Ab];simp
 left;unfold Src.M;rw[Ad _ _ e];rfl
def As9 {u:PH}{v:Value}{ts:List Int}(h:Ac u v 1 (Fc ts))(C:ts.length<=600)(n:∀ t∈ts,-9223372036854775808<=t)(z:∀ t∈ts,t<=9223372036854775807) :
 Ag prog 6 [v] u PH.mt fun H F E=>∃ s:Src,H=s.ptr/\E=s.M 0/\J0 F s ts:=by
 have d:∃ a c,v=.slice a ts.length c/\ts.length<=c:=by
  obtain⟨a,c,e,j,_⟩:=h;rw[Cq]at e j;exact⟨a,c,e,j⟩
 obtain⟨a,c,rfl,d⟩:=d;refine Ag.o func6<|G.minI [3,3] (ts.length:Int) 600 (ts.length:Int) kV oV<|G.sliceTo 1 a ts.length c ts.length kV d<|G.pub 1006 81 [.slice a ts.length c,.int .i64 0] kV kV ?_;intro g J I;exact G.r (.pointer (some ⟨g,0,none⟩)) ⟨⟨g,a,ts.length,c⟩,rfl,rfl,h,rfl,C,n,z⟩
def Src.bag0 (s:Src)(k:Nat){l:List Arr}(h:Bag PH.mt l):Bag (s.M k) (s.arr k::l):=by
 have:=Src.at (s:=s) (k:=k) (m0:=PH.mt) rfl;rw[By]at this;exact⟨PH.mt,this,h⟩
end
def T12 (q:Rat)(N:Nat):Prop:=∃ k:Int,q=Rat.divInt k 12/\k.natAbs<=N
def SmR.t12 {q:Rat}(h:SmR q):T12 q 108:=by
 obtain⟨c,g⟩:=h.den;refine⟨q.num*(c:Int),?_,?_⟩
 ·have j:=q.den_pos;have n:c≠0:=fun e=>by rw[e]at g;simp at g
  have d:(12:Int)=(q.den:Int)*(c:Int):=by rw[<-A4d,<-g];rfl
  rw[d,Rat.divInt_mul_right oV,A7h]
 have d:=h.num;have m:c<=12:=by
  have j:=q.den_pos;have:1*c<=q.den*c:=A13 _ j;omega
 rw[A26,A1s];have:q.num.natAbs*c<=9*12:=A25 d m;omega
section
variable {N d:Nat}{a b q:Rat}
def Dn (d N:Nat)(q:Rat):Prop:=∃ k:Int,q*((12^d:Nat):Rat)=(k:Rat)/\k.natAbs<=N
def Adj (d:Nat):0<12^d:=A66 oV
def Ax0 (d:Nat):((12^d:Nat):Rat)≠0:=by
 intro h;have e:((12^d:Nat):Rat)=((0:Nat):Rat):=h;have:=Rat.natCast_inj.1 e;have:=Adj d;omega
def Dn.zero (d N:Nat):Dn d N 0:=⟨0,by rw[Rat.zero_mul];rfl,A1t _⟩
theorem Dn.frac (h:Dn d N q):q.num.natAbs<=N/\q.den<=12^d:=by
 obtain⟨k,j,t⟩:=h;have hp:=Adj d;have u:q=Rat.divInt k ((12^d:Nat):Int):=by
  rw[A37,A2r,<-j];have:=Ax0 d;grind
 obtain⟨e,g,v⟩:=O7 (y:=k) (z:=((12^d:Nat):Int)) oV;have n:0<Nat.gcd k.natAbs (12^d):=A7j _ hp;rw[u];constructor
 ·rw[e,A8o];exact A04 (A3u _ _) t
 have m:((Rat.divInt k ((12^d:Nat):Int)).den:Int)<=((12^d:Nat):Int):=by
  rw[g,show (((12^d:Nat):Int)).natAbs=12^d from rfl,A32 oV,<-A5k];exact Bao.2 (A3u _ _)
 exact Bao.1 m
def Dn.small (h:Dn d N q)(t:d<=50)(n:N<10^100):Og q=true:=by
 obtain⟨e,g⟩:=h.frac;have j:12^d<=12^50:=A10 oV t;have m:12^50<10^100:=jV
 simp only[Og,A1m,decide_eq_true_eq];exact⟨A22 e n,A22 g (A22 j m)⟩
theorem SmR.dn (h:SmR q):Dn 1 108 q:=by
 obtain⟨k,g,e⟩:=h.t12;refine⟨k,?_,e⟩;rw[g,A37];have:((12^1:Nat):Rat)=((12:Int):Rat):=jV
 rw[this];have:((12:Int):Rat)≠0:=jV
 grind
structure CFD (d N:Nat)(F:CF):Prop where
 c:Dn d N F.c
 s:∀ p,Dn d N (F.s p)
 t:∀ q,Dn d N (F.t q)
def Aym (c:UInt8):Bool:=decide (97<=c.toNat)&&decide (c.toNat<=122)
def Hn (s:List UInt8):Bool:=match s with
 |[]=>false
 |c::l=>Aym c&&l.all (fun x=>Aym x||(decide (x.toNat=45)||(decide (48<=x.toNat)&&decide (x.toNat<=57))))&&decide (s.length<=12)
structure PV (p:Par):Prop where
 lo:-1<=p.1
 hi:p.1<=1000
 cat:p.2 = []\/Hn p.2=true
structure CFV (F:CF):Prop where
 s:∀ p,F.s p≠0->PV p
 t:∀ q,F.t q≠0->PV q.1/\PV q.2/\¬ 0<Bk q.1 q.2
theorem G1 (h:a+b≠0):a≠0\/b≠0:=by
 by_cases e:a=0
 ·right;rintro rfl;apply h;rw[e];grind
 exact .inl e
theorem C1 (h:a*b≠0):a≠0/\b≠0:=⟨fun e=>h (by rw[e];grind),fun e=>h (by rw[e];grind)⟩
def CFV.mul {F G:CF}(h:CFV F)(g:CFV G):CFV (F.mul G):=by
 refine⟨fun p hp=>(G1 hp).elim (fun e=>g.s p (C1 e).1) (fun e=>h.s p (C1 e).1),fun q j=>?_⟩;rcases G1 j with e|e
 ·exact (G1 e).elim (fun e=>g.t q (C1 e).1) (fun e=>h.t q (C1 e).1)
 unfold I2 at e;split at e
 ·exact absurd rfl e
 rename_i hno;split at e
 ·rename_i heq;have:=C1 (C1 e).2;exact⟨h.s _ this.1,by rw[<-heq];exact h.s _ this.1,hno⟩
 rcases G1 e with e|e
 ·have:=C1 e;exact⟨h.s _ this.1,g.s _ this.2,hno⟩
 have:=C1 e;exact⟨g.s _ this.2,h.s _ this.1,hno⟩
def CFV.count (k:Rat):CFV ⟨k,fun _=>0,fun _=>0⟩:=⟨fun p h=>absurd rfl h,fun q h=>absurd rfl h⟩
end
section
variable {p q:Par}
structure CFS (F:CF):Prop where
 c:Og F.c=true
 s:∀ p,Og (F.s p)=true
 t:∀ q,Og (F.t q)=true
def CFD.cfs {d N:Nat}{F:CF}(h:CFD d N F)(g:d<=50)(e:N<10^100):CFS F:=⟨h.c.small g e,fun p=>(h.s p).small g e,fun q=>(h.t q).small g e⟩
def con (F G:CF)(x:Par×Par):Rat:=if x.1=x.2 then F.s x.1*G.s x.2+F.s x.1*G.s x.2 else F.s x.1*G.s x.2
def Er (F G:CF):List (Par×Par)->Par×Par->Rat
 |[],_=>0
 |x::L,k=>(if Ay x.1 x.2=k then con F G x else 0)+Er F G L k
theorem Jt (F G:CF)(x:Par×Par):∀ (L:List (Par×Par)) (k:Par×Par),Er F G (L++[x]) k=if k=Ay x.1 x.2 then con F G x+Er F G L k else Er F G L k
 |[],k=>by
  simp only[A3q,Er];by_cases h:k=Ay x.1 x.2
  ·rw[if_pos h.symm,if_pos h]
  rw[if_neg (fun e=>h e.symm),if_neg h];grind
 |y::L,k=>by
  simp only[A4x,Er];rw[Jt F G x L k];by_cases h:k=Ay x.1 x.2
  ·rw[if_pos h,if_pos h];grind
  rw[if_neg h,if_neg h]
def two (F G:CF)(L:List (Par×Par))(k:Par×Par):Rat :=
 if 0<Bk k.1 k.2 then 0 else if k.1=k.2 then (if k∈L then con F G k else 0) else (if k∈L then con F G k else 0)+(if (k.2,k.1)∈L then con F G (k.2,k.1) else 0)
def Ro (h:0<Bk p q):Ay p q=(q,p):=by unfold Ay;rw[if_pos h]
def Ii (h:¬ 0<Bk p q):Ay p q=(p,q):=by unfold Ay;rw[if_neg h]
def To (p q:Par):¬ 0<Bk (Ay p q).1 (Ay p q).2:=by
 by_cases h:0<Bk p q
 ·rw[Ro h];intro d;have:=(Et.sym p q).1;have e:=(Et.sym q p).2 h;simp only at d;omega
 rw[Ii h];exact h
def L5 {p q a b:Par}:Ay p q=(a,b)↔¬ 0<Bk a b/\((p=a/\q=b)\/(p=b/\q=a)):=by
 constructor
 ·intro h;have:=To p q;rw[h]at this;refine⟨this,?_⟩;by_cases d:0<Bk p q
  ·rw[Ro d]at h;cases h;exact .inr ⟨rfl,rfl⟩
  rw[Ii d]at h;cases h;exact .inl ⟨rfl,rfl⟩
 rintro⟨h,⟨rfl,rfl⟩|⟨rfl,rfl⟩⟩
 ·exact Ii h
 rw[Wi];exact Ii h
theorem Ub (F G:CF):∀ (L:List (Par×Par)) (k:Par×Par),L.Nodup->Er F G L k=two F G L k
 |[],k,_=>by
  unfold Er two;split
  ·rfl
  split
  ·simp
  simp;grind
 |(p,q)::L,(a,b),hn=>by
  rw[A4j]at hn;unfold Er;rw[Ub F G L (a,b) hn.2];unfold two;simp only;by_cases h0:0<Bk a b
  ·rw[if_pos h0,if_pos h0,if_neg (fun e=>(L5.1 e).1 h0)];grind
  rw[if_neg h0,if_neg h0];by_cases d:a=b
  ·subst d;rw[if_pos rfl,if_pos rfl];by_cases g:(p,q)=(a,a)
   ·cases g;rw[if_pos (L5.2 ⟨h0,.inl ⟨rfl,rfl⟩⟩),if_neg hn.1,if_pos mV];grind
   rw[if_neg (fun e=>g (by rcases (L5.1 e).2 with ⟨rfl,rfl⟩|⟨rfl,rfl⟩<;>rfl))]
   have:((a,a)∈(p,q)::L)↔(a,a)∈L:=by simp[A1g,Ne.symm g]
   simp only[this];grind
  rw[if_neg d,if_neg d];by_cases g:(p,q)=(a,b)
  ·cases g;rw[if_pos (L5.2 ⟨h0,.inl ⟨rfl,rfl⟩⟩),if_neg hn.1,if_pos (show (p,q)∈(p,q)::L by simp)];have:((q,p)∈(p,q)::L)↔(q,p)∈L:=by simp[A1g,Ne.symm d]
   simp only[this];grind
  by_cases h:(p,q)=(b,a)
  ·cases h;rw[if_pos (L5.2 ⟨h0,.inr ⟨rfl,rfl⟩⟩),if_neg hn.1,if_pos (show (p,q)∈(p,q)::L by simp)];have:((q,p)∈(p,q)::L)↔(q,p)∈L:=by simp[A1g,d]
   simp only[this];grind
  rw[if_neg (fun e=>by rcases (L5.1 e).2 with ⟨rfl,rfl⟩|⟨rfl,rfl⟩;exact g rfl;exact h rfl)];have j:((a,b)∈(p,q)::L)↔(a,b)∈L:=by simp[A1g,Ne.symm g]
  have m:((b,a)∈(p,q)::L)↔(b,a)∈L:=by simp[A1g,Ne.symm h]
  simp only[j,m];grind
theorem Amk (F G:CF){L:List (Par×Par)}(n:L.Nodup)(m:∀ p q,F.s p≠0->G.s q≠0->(p,q)∈L)(k:Par×Par):Er F G L k=I2 F G k:=by
 rw[Ub F G L k n];have key:∀ p q:Par,(if (p,q)∈L then con F G (p,q) else 0)=con F G (p,q):=fun p q=>by
  by_cases h:(p,q)∈L
  ·rw[if_pos h]
  rw[if_neg h];have:F.s p=0\/G.s q=0:=by
   by_cases d:F.s p=0
   ·exact .inl d
   by_cases g:G.s q=0
   ·exact .inr g
   exact absurd (m p q d g) h
  unfold con;simp only;rcases this with d|d<;>rw[d]<;>split<;>grind
 obtain⟨a,b⟩:=k;unfold two I2;simp only[key];split
 ·rfl
 split
 ·rename_i e;subst e;unfold con;simp only[if_true];grind
 rename_i e;unfold con;simp only[if_neg e,if_neg (fun j:b=a=>e j.symm)]
def Fo {κ:Type}[DecidableEq κ](a:κ):List (κ×Rat)->Rat
 |[]=>0
 |(b,q)::l=>if a=b then q else Fo a l
section
variable {κ:Type} [DecidableEq κ]
def Kh {a:κ}{q:Rat}:∀ {l:List (κ×Rat)},(l.map (·.1)).Nodup->(a,q)∈l->Fo a l=q
 |(b,r)::l,hn,h=>by
  simp only[A2u,A4j]at hn;unfold Fo;rcases A1g.1 h with e|e
  ·cases e;rw[if_pos rfl]
  have:a≠b:=fun d=>hn.1 (by rw[<-d];exact A1b.2 ⟨_,e,rfl⟩);rw[if_neg this];exact Kh hn.2 e
def Na {a:κ}:∀ {l:List (κ×Rat)},a∉l.map (·.1)->Fo a l=0
 |[],_=>rfl
 |(b,r)::l,h=>by
  simp only[A2u,A1g,not_or]at h;unfold Fo;rw[if_neg h.1];exact Na h.2
def Bhn (a:κ):∀ (l:List (κ×Rat)),Fo a l=0\/∃ q,(a,q)∈l/\Fo a l=q
 |[]=>.inl rfl
 |(b,r)::l=>by
  unfold Fo;split
  ·rename_i e;subst e;exact .inr ⟨r,mV,rfl⟩
  rcases Bhn a l with h|⟨q,d,g⟩
  ·exact .inl h
  exact .inr ⟨q,by simp[d],g⟩
def Bmg {c:κ->κ->Int}(e:Ord c){l:List (κ×Rat)}(d:Hb c (l.map (·.1)))(h0:∀ p∈l,p.2≠0):Can c (fun k=>Fo k l) l :=
 ⟨d,fun p hp=>⟨(Kh (d.nodup e) hp).symm,h0 p hp⟩,fun k g=>Na g⟩
end
end
section
variable {k:IntKind}{o:Nat}{t ti ts:TypeId}{xs:Array Value}
def Ap (p:Par):Value:=.agg #[.int .i64 p.1,.string (mkS p.2)]
def prV (q:Par×Par):Value:=.agg #[.int .i64 q.1.1,.string (mkS q.1.2),.int .i64 q.2.1,.string (mkS q.2.2)]
def Abc (f:Field):Bool×TypeId×Nat:=(f.name != "_",f.type,f.offset)
section
variable {P:Program}
def Jh {v:Value}(h:Qj P t=some false)(d:xs[o]?=some v)(w:World):(part t xs o).run P w=.ok v w:=by
 simp[part,Eo h,d]
def Jq {n:Nat}(h:Qj P t=some true)(d:szB P t=some n)(w:World):(part t xs o).run P w=.ok (.agg (xs.extract o (o+n))) w:=by
 simp[part,Eo h,Bf d]
def Qk (h:P.underlying t=some (.int k)):Qj P t=some false:=by unfold Qj;rw[h]
def Qc (h:P.underlying t=some .string):Qj P t=some false:=by unfold Qj;rw[h]
def Auf (a b:List UInt8):((mkS a).toList==(mkS b).toList)=decide (a=b):=Mf a b
def Akl {A B:Type}{h:A->B}{fs:List A}{x y:B}(d:fs.map h = [x,y]):∃ f g,fs = [f,g]:=by
 have h0:=congrArg List.length d;simp only[A03,A3f,A30]at h0
 match fs,h0 with
 |[f,g],_=>exact⟨f,g,rfl⟩
def Qn (h:(P.fieldsOf t).toList.map Abc = [(true,ti,0),(true,ts,1)])(I:P.underlying t=some (.struct (P.fieldsOf t)))(hp:P.stoodInHeld t=false)(hi:P.underlying ti=some (.int k))(u:P.underlying ts=some .string)(d:Nat)(a b:Par)(w:World) :
 (Op.equalIn (d+2) t (Ap a) (Ap b)).run P w=.ok (decide (a=b)) w:=by
 unfold Ap;rw[run_equalIn_struct w (d+1) t _ _ I hp];generalize (P.fieldsOf t).toList=fs at h;obtain⟨f,g,n⟩:=Akl h;subst n;simp only[A2u,A7m,A3g,Abc,A2i,bne_iff_ne,ne_eq,and_true]at h;obtain⟨⟨J,rfl,F⟩,K,rfl,H⟩:=h;obtain⟨j,z⟩:=a;obtain⟨m,C⟩:=b;simp only[Op.eqFields,ne_eq,J,K,not_false_eq_true,if_true,Sem.run_bind];rw[Jh (Qk hi) (v:=.int .i64 j) (by rw[F];rfl),Result.andThen_ok,Jh (Qk hi) (v:=.int .i64 m) (by rw[F];rfl),Result.andThen_ok,run_equalIn_int w d _ _ _ _ _ hi,Result.andThen_ok];by_cases e:j=m
 ·subst e;simp only[beq_self_eq_true,A72,A4z,if_false,Sem.run_bind];rw[Jh (Qc u) (v:=.string (mkS z)) (by rw[H];rfl),Result.andThen_ok,Jh (Qc u) (v:=.string (mkS C)) (by rw[H];rfl),Result.andThen_ok,run_equalIn_string w d _ _ _ u,Result.andThen_ok,Auf];by_cases E:z=C
  ·subst E;simp
  simp[E]
 have:(j==m)=false:=by simpa using e
 simp[this,e]
def Bny {t tp ti ts:TypeId}{k:IntKind}(K:(P.fieldsOf t).toList.map Abc = [(true,tp,0),(true,tp,2)])(V:P.underlying t=some (.struct (P.fieldsOf t)))(hp:P.stoodInHeld t=false)
 (I:(P.fieldsOf tp).toList.map Abc = [(true,ti,0),(true,ts,1)]) (m:P.underlying tp=some (.struct (P.fieldsOf tp))) (J:P.stoodInHeld tp=false) (j:szB P tp=some 2) (hi:P.underlying ti=some (.int k)) (O:P.underlying ts=some .string) (d:Nat) (a b:Par×Par) (w:World) :
 (Op.equalIn (d+3) t (prV a) (prV b)).run P w=.ok (decide (a=b)) w:=by
 have h:Qj P tp=some true:=by unfold Qj;rw[m]
 unfold prV;rw[run_equalIn_struct w (d+2) t _ _ V hp];generalize (P.fieldsOf t).toList=fs at K;obtain⟨f,g,L⟩:=Akl K;subst L;simp only[A2u,A7m,A3g,Abc,A2i,bne_iff_ne,ne_eq,and_true]at K;obtain⟨⟨W,T,Y⟩,X,U,Z⟩:=K;obtain⟨⟨n,u⟩,v,z⟩:=a;obtain⟨⟨C,E⟩,F,H⟩:=b;simp only[Op.eqFields,ne_eq,W,X,not_false_eq_true,if_true,Sem.run_bind,T,U,Y,Z];rw[Jq h j,Result.andThen_ok,Jq h j,Result.andThen_ok];have Q:=Qn I m J hi O d (n,u) (C,E) w;have R:=Qn I m J hi O d (v,z) (F,H) w;unfold Ap at Q R;have x1:(#[Value.int .i64 n,.string (mkS u),.int .i64 v,.string (mkS z)].extract 0 (0+2)) = #[.int .i64 n,.string (mkS u)]:=rfl;have x2:(#[Value.int .i64 C,.string (mkS E),.int .i64 F,.string (mkS H)].extract 0 (0+2)) = #[.int .i64 C,.string (mkS E)]:=rfl;have x3:(#[Value.int .i64 n,.string (mkS u),.int .i64 v,.string (mkS z)].extract 2 (2+2)) = #[.int .i64 v,.string (mkS z)]:=rfl;have x4:(#[Value.int .i64 C,.string (mkS E),.int .i64 F,.string (mkS H)].extract 2 (2+2)) = #[.int .i64 F,.string (mkS H)]:=rfl;simp only[x1,x2,Q,Result.andThen_ok];by_cases e:((n,u):Par)=(C,E)
 ·simp only[e,decide_true,A72,A4z,if_false,Sem.run_bind];rw[Jq h j,Result.andThen_ok,Jq h j,Result.andThen_ok];simp only[x3,x4,R,Result.andThen_ok];by_cases N:((v,z):Par)=(F,H)
  ·simp[N]
  simp[N]
 simp[e]
def Sl (h:(∃ k,P.underlying t=some (.int k))\/P.underlying t=some .string)(e:Bool)(d:Nat)(v:Value)(w:World):(Instr.checkKey e (d+1) t v).run P w=.ok () w:=by
 unfold Instr.checkKey;rcases h with ⟨k,h⟩|h<;>simp[run_underlying h]
def Ns (h:(P.fieldsOf t).toList.map Abc = [(true,ti,0),(true,ts,1)])(z:P.underlying t=some (.struct (P.fieldsOf t)))(hi:P.underlying ti=some (.int k))(m:P.underlying ts=some .string)(e:Bool)(d:Nat)(a:Par)(w:World) :
 (Instr.checkKey e (d+2) t (Ap a)).run P w=.ok () w:=by
 unfold Ap;rw[Instr.checkKey];simp only[Sem.run_bind,run_underlying z,Result.andThen_ok];rw[<-Bsw];generalize (P.fieldsOf t).toList=fs at h;obtain⟨f,g,j⟩:=Akl h;subst j;simp only[A2u,A7m,A3g,Abc,A2i,bne_iff_ne,ne_eq,and_true]at h;obtain⟨⟨C,n,F⟩,E,u,H⟩:=h;simp only[Bbq,Bby,ne_eq,C,E,not_false_eq_true,if_true,Sem.run_bind,n,u,F,H];rw[Jh (Qk hi) (v:=.int .i64 a.1) rfl,Result.andThen_ok,Sl (.inl ⟨k,hi⟩)];simp only[Result.andThen_ok,Sem.run_pure,Sem.run_bind];rw[Jh (Qc m) (v:=.string (mkS a.2)) rfl,Result.andThen_ok,Sl (.inr m)];simp
def Bmo {t tp ti ts:TypeId}{k:IntKind}(u:(P.fieldsOf t).toList.map Abc = [(true,tp,0),(true,tp,2)])(I:P.underlying t=some (.struct (P.fieldsOf t)))
 (m:(P.fieldsOf tp).toList.map Abc = [(true,ti,0),(true,ts,1)]) (h:P.underlying tp=some (.struct (P.fieldsOf tp))) (n:szB P tp=some 2) (hi:P.underlying ti=some (.int k)) (z:P.underlying ts=some .string) (e:Bool) (d:Nat) (a:Par×Par) (w:World) :
 (Instr.checkKey e (d+3) t (prV a)).run P w=.ok () w:=by
 have j:Qj P tp=some true:=by unfold Qj;rw[h]
 unfold prV;rw[Instr.checkKey];simp only[Sem.run_bind,run_underlying I,Result.andThen_ok];rw[<-Bsw];generalize (P.fieldsOf t).toList=fs at u;obtain⟨f,g,v⟩:=Akl u;subst v;simp only[A2u,A7m,A3g,Abc,A2i,bne_iff_ne,ne_eq,and_true]at u;obtain⟨⟨J,F,L⟩,K,H,N⟩:=u;have C:=Ns m h hi z e d a.1 w;have E:=Ns m h hi z e d a.2 w;unfold Ap at C E;simp only[Bbq,Bby,ne_eq,J,K,not_false_eq_true,if_true,Sem.run_bind,F,H,L,N];rw[Jq j n,Result.andThen_ok];have O:(#[Value.int .i64 a.1.1,.string (mkS a.1.2),.int .i64 a.2.1,.string (mkS a.2.2)].extract 0 (0+2)) = #[.int .i64 a.1.1,.string (mkS a.1.2)]:=rfl;have Q:(#[Value.int .i64 a.1.1,.string (mkS a.1.2),.int .i64 a.2.1,.string (mkS a.2.2)].extract 2 (2+2)) = #[.int .i64 a.2.1,.string (mkS a.2.2)]:=rfl;rw[O,C];simp only[Result.andThen_ok,Sem.run_pure,Sem.run_bind];rw[Jq j n,Result.andThen_ok,Q,E];simp
def As0 (a b:Par)(h:Ap a=Ap b):a=b:=by
 unfold Ap at h;simp only[Value.agg.injEq,A5j,A3g,Value.int.injEq,Value.string.injEq,true_and,and_true]at h;exact A6z h.1 (Ads.1 h.2)
def Auq (a b:Par×Par)(h:prV a=prV b):a=b:=by
 unfold prV at h;simp only[Value.agg.injEq,A5j,A3g,Value.int.injEq,Value.string.injEq,true_and,and_true]at h;exact A6z (A6z h.1 (Ads.1 h.2.1)) (A6z h.2.2.1 (Ads.1 h.2.2.2))
def Af9 (d:Nat)(k:IntKind)(z:Int):Instr.sameBits d (.int k z) (.int k z)=true:=by unfold Instr.sameBits;simp
def Agj (d:Nat)(z:ByteArray):Instr.sameBits d (.string z) (.string z)=true:=by
 obtain⟨⟨l⟩⟩:=z;have:((⟨⟨l⟩⟩:ByteArray) == ⟨⟨l⟩⟩)=true:=by rw[beq_toListBytes];simp
 unfold Instr.sameBits;exact this
def Asi (a:Par):Instr.sameBits 10000 (Ap a) (Ap a)=true:=by
 show Instr.sameBits (9999+1) _ _=true;unfold Ap Instr.sameBits;simp[Af9,Agj]
def Ava (a:Par×Par):Instr.sameBits 10000 (prV a) (prV a)=true:=by
 show Instr.sameBits (9999+1) _ _=true;unfold prV Instr.sameBits;simp[Af9,Agj]
end
theorem Bq:Zk prog 77 Ap :=
 ⟨fun a b w=>Qn (P:=prog) (t:=77) (ti:=3) (ts:=9) (k:=.i64) kV kV kV kV kV 9998 a b w,
  ⟨_,(by kernel_rfl:prog.underlying 77=some (.struct (prog.fieldsOf 77))),.inl fun _ _=>rfl⟩,
  fun e a w=>Ns (P:=prog) (t:=77) (ti:=3) (ts:=9) (k:=.i64) kV kV kV kV e 9998 a w,Asi,As0⟩
theorem Bhr:Zk prog 166 prV :=
 ⟨fun a b w=>Bny (P:=prog) (t:=166) (tp:=77) (ti:=3) (ts:=9) (k:=.i64) kV kV kV kV kV kV kV kV kV 9997 a b w,
  ⟨_,(by kernel_rfl:prog.underlying 166=some (.struct (prog.fieldsOf 166))),.inl fun _ _=>rfl⟩,
  fun e a w=>Bmo (P:=prog) (t:=166) (tp:=77) (ti:=3) (ts:=9) (k:=.i64) kV kV kV kV kV kV kV e 9997 a w,Ava,Auq⟩
end
section
variable [Cl] [Co] [Pu]
def Aws:List KI->Bool
 |.code (.region _ _ _)::_=>true
 |_=>false
def Ff (P:Program):Nat->List KI×S->List KI×S
 |0,st=>st
 |n+1,st=>cond (Aws st.1) st (match one P st.1 st.2 with|some st'=>Ff P n st'|none=>st)
section rules
variable {P:Program} [A6 P] {fn:Func} {Post:Ce} {st:List KI×S} {u m:PH}
def Mq:∀ (n:Nat) (st:List KI×S),Sym P fn Post (Ff P n st).1 (Ff P n st).2 u m->Sym P fn Post st.1 st.2 u m
 |0,st,h=>h
 |n+1,st,h=>by
  unfold Ff at h;cases hn:Aws st.1 with
  |true=>simp[hn]at h;exact h
  |false =>
   simp only[hn,cond_false]at h;split at h
   ·rename_i st' he;obtain⟨d,e⟩:=st';exact Pa A6.mx he (Mq n _ h)
   exact h
def G.canon (T:List (Nat×SV))(B:List (Nat×Blk))(h:Bgr (Ff P 200 st).1=true)(g:Up T B=true)(h0:Cov (Ff P 200 st).2.n (Ff P 200 st).2 T B)(k:G P fn Post ((Ff P 200 st).1,S.of (Ff P 200 st).2.n T B) u m):G P fn Post st u m:=by
 refine⟨Mq 200 st ?_⟩;have e:=k.out;rw[Sym.ofNo h]at e⊢;intro c ρ a w d j;exact e c ρ a w d (j.cov h0 g)
end rules
end
section
def Aur {x y:List UInt8}(h:Op.bytesLess x y=true):Op.bytesLess y x=false:=by
 cases h':Op.bytesLess y x with
 |false=>rfl
 |true=>have:=Se h h';rw[Ud]at this;cases this
def Azv (x y:List UInt8):(!(Op.bytesLess x y||decide (x=y)))=Op.bytesLess y x:=by
 cases h1:Op.bytesLess x y with
 |true=>rw[Aur h1];rfl
 |false =>
  by_cases e:x=y
  ·subst e;rw[h1];simp
  cases h2:Op.bytesLess y x with
  |true=>simp[e]
  |false=>exact absurd (Ab1 h1 h2) e
section rules
variable [Cl] {P:Program} [A6 P] {fn:Func} {Post:Ce} {st:List KI×S} {u m:PH}
def G.ltS (a b:List UInt8)(r:Bool)(h:Aj P (adv P st)=.bin .lss (.string (mkS a)) (.string (mkS b)))(d:Op.bytesLess a b=r)(k:G P fn Post (nx (adv P st) (.bool r)) u m):G P fn Post st u m :=
 G.bin (.bool r) h (fun t X Y w=>H8 t X Y w) (fun t w=>by simp only[binOp,Op.stringOp,Ng];rw[d];rfl) k
def G.gtS (a b:List UInt8)(r:Bool)(h:Aj P (adv P st)=.bin .gtr (.string (mkS a)) (.string (mkS b)))(d:Op.bytesLess b a=r)(k:G P fn Post (nx (adv P st) (.bool r)) u m):G P fn Post st u m :=
 G.bin (.bool r) h (fun t X Y w=>H8 t X Y w) (fun t w=>by
  rw[<-d,<-Azv];simp only[binOp,Op.stringOp,Ng];rw[show (a==b)=decide (a=b) from by by_cases e:a=b<;>simp[e]]
  rfl) k
end rules
section
variable [Cl] {u:PH}
def Akp (x:Int):Fn0 prog 151 [.int .i64 x] u fun v _=>v=.bool false:=Fn0.o func151<|G.nF x x<|G.r (.bool false) ⟨rfl,rfl⟩
def Alf (x:List UInt8):Fn0 prog 152 [.string (mkS x)] u fun v _=>v=.bool false:=Fn0.o func152<|G.y x x rfl<|G.r (.bool false) ⟨rfl,rfl⟩
def Azt (x y:Int):Fn0 prog 89 [.int .i64 x,.int .i64 y] u fun v _=>v=.int .i64 (Q1 x y):=by
 refine Fn0.o func89<|G.c call151 (Akp x) ?_;rintro n g e rfl;refine G.c call151 (Akp y) ?_;rintro t j l2 rfl;unfold Q1;by_cases h:x<y
 ·exact G.lT' x y h<|G.r (.int .i64 (-1)) ⟨rfl,by rw[if_pos h]⟩
 refine G.lF' x y h ?_;by_cases d:x>y
 ·exact G.gT' x y d<|G.r (.int .i64 1) ⟨rfl,by rw[if_neg h,if_pos d]⟩
 exact G.gF' x y d<|G.r (.int .i64 0) ⟨rfl,by rw[if_neg h,if_neg d]⟩
def Aze (x y:List UInt8):Fn0 prog 90 [.string (mkS x),.string (mkS y)] u fun v _=>v=.int .i64 (Vj x y):=by
 refine Fn0.o func90<|G.c call152 (Alf x) ?_;rintro n g d rfl;refine G.c call152 (Alf y) ?_;rintro t j l2 rfl;unfold Vj;cases h:Op.bytesLess x y with
 |true =>
  exact G.ltS x y true kV h<|G.r (.int .i64 (-1)) ⟨rfl,by rw[if_pos rfl]⟩
 |false =>
  refine G.ltS x y false kV h ?_;cases h':Op.bytesLess y x with
  |true =>
   exact G.gtS x y true kV h'<|G.r (.int .i64 1) ⟨rfl,by rw[if_neg mV,if_neg (fun e=>by subst e;rw[Ud]at h';cases h')]⟩
  |false =>
   exact G.gtS x y false kV h'<|G.r (.int .i64 0) ⟨rfl,by rw[if_neg mV,if_pos (Ab1 h h')]⟩
def Ayo (x y:Int){b:Nat}(h:Hc u b 0 1 [.int .i64 x,.int .i64 y]):Fn0 prog 88 [.slice (some ⟨b,0,none⟩) 2 2] u fun v _=>v=.int .i64 (if x≠0 then x else y):=by
 refine Fn0.o func88<|G.l (ι:=Nat) (fun i=>[(3,iV 0),(6,sV (some ⟨b,0,none⟩) 2 2),(7,iV (2:Nat)),(8,iV i)]) (fun _=>[])
  (fun i t n=>i<=2/\n=PH.mt/\(1<=i->x=0)/\(2<=i->y=0)) (fun i=>2-i) 0 ⟨oV,rfl,oV,oV⟩ ?_
 rintro J i E t n e ⟨hi,rfl,j,F⟩;by_cases g:i=2
 ·subst g;exact G.lF (2:Nat) (2:Nat)<|G.r (.int .i64 0) ⟨rfl,by rw[if_neg (by simp[j oV]),F oV]⟩
 refine G.lT i (2:Nat)<|G.a b 0 2 2 i 1 oV ?_;obtain⟨z,d,C,g⟩:∃ z:Int,ElP t b (0+i*1) (.int .i64 z)/\(z≠0->(if x≠0 then x else y)=z)/\(z=0->(1<=i+1->x=0)/\(2<=i+1->y=0)):=by
  rcases (by omega:i=0\/i=1) with rfl|rfl
  ·exact⟨x,(h 0 _ rfl).mono e,fun d=>if_pos d,fun d=>⟨fun _=>d,oV⟩⟩
  exact⟨y,(h 1 _ rfl).mono e,fun d=>if_neg (by simp[j oV]),fun d=>⟨fun _=>j oV,fun _=>d⟩⟩
 refine G.lU none b (0+i*1) (.int .i64 z) d ?_;by_cases h0:z=0
 ·exact G.nF z 0<|G.i i<|G.b (E (i+1) _ _ _ cV e ⟨oV,rfl,(g h0).1,(g h0).2⟩ oV)
 exact G.nT' z 0 h0<|G.r (.int .i64 z) ⟨rfl,by rw[C h0]⟩
def Afb (p q:Par):Fn0 prog 46 [Ap p,Ap q] u fun v _=>v=.int .i64 (Bk p q):=by
 refine Fn0.o func46<|G.c call89 (Azt p.1 q.1) ?_;rintro E n e rfl;refine G.c call90 (Aze p.2 q.2) ?_;rintro F t l2 rfl;refine G.B 3 1 8 (.int .i64 0) [.int .i64 (Q1 p.1 q.1),.int .i64 (Vj p.2 q.2)] (N7 [_,_]) ?_;intro g z h d;refine G.c call88 (Ayo _ _ d) ?_;rintro H C j rfl;exact G.r _ ⟨rfl,rfl⟩
def Bke (p q:Par×Par):Fn0 prog 113 [prV p,prV q] u fun v _=>v=.int .i64 (Oc p q):=by
 refine Fn0.o func113<|G.c call46 (Afb p.1 q.1) ?_;rintro E n e rfl;refine G.c call46 (Afb p.2 q.2) ?_;rintro F t l2 rfl;refine G.B 3 1 8 (.int .i64 0) [.int .i64 (Bk p.1 q.1),.int .i64 (Bk p.2 q.2)] (N7 [_,_]) ?_;intro g z h d;refine G.c call88 (Ayo _ _ d) ?_;rintro H C j rfl;exact G.r _ ⟨rfl,rfl⟩
end
end
section
variable {F:CF}{N g s:Nat}{m' u u':PH}{nz:Bool}{o:Obj}{q:Rat}{v x:Value}
abbrev SB (q:Rat):Prop:=Og q=true
def SB.sz (h:SB q):Sz q 12:=(Uo h).2
def SB.tx (h:SB q):Tx q:=(Uo h).1
def SB.big (h:SB q):Sz q 1000000000000:=h.sz.mono oV
def SB.zero:SB 0:=fV
abbrev fz:Value:=.agg #[.bool false,.slice none 0 0,.bool false,.slice none 0 0]
def A0g :sgn q.num=0↔q=0:=by
 constructor
 ·intro h;have:q.num=0:=by
   rcases A4q q.num 0 with d|d|d
   ·rw[Ep d]at h;cases h
   ·exact d
   rw[C5 d]at h;cases h
  exact A4r.1 this
 rintro rfl;rfl
def N3.at {κ:Type}[DecidableEq κ]{enc:κ->Value}{R:PH->Value->Rat->Prop}{f:κ->Rat}(h:N3 enc R nz u o f N s):∃ l:List (κ×Value),Hu enc o l/\(∀ p∈l,R u p.2 (f p.1)/\(nz=true->f p.1≠0)/\Sz (f p.1) s)/\(∀ k,k∉l.map (·.1)->f k=0)/\l.length<=N:=h
def N3.mf {κ:Type}[DecidableEq κ]{enc:κ->Value}{f:κ->Rat}(h:N3 enc Bg nz u o f N s)(n:PH.le u u'):N3 enc Bg nz u' o f N s:=by
 obtain⟨l,e,d,j,m⟩:=h;exact⟨l,e,fun p hp=>⟨(d p hp).1.mono n,(d p hp).2⟩,j,m⟩
theorem Bqb {f:Par->Rat}{a:Par}(h:N3 Ap Bg true u o f N 12)(E:Bg u x q)(hq:SB q)(hf:SB (f a))(hs:SB (q+f a)) :
 Ag prog 156 [.map (some g),Ap a,x] u (Pj g o) fun v u' m'=>∃ o',m'=Pj g o'/\N3 Ap Bg true u' o' (Nh f a (q+f a)) (N+1) 12:=by
 obtain⟨l,m,C,R,Z⟩:=h.at;obtain⟨b,aa,n,c,b',a',n',c',rfl⟩:=E.opn;refine Ag.o func156 ?_;have t:∀ (z:PH) (y:Value),PH.le u z->Bg z y (q+f a) ->
  (∀ o',Hu Ap o' (Awn a l)->q+f a=0->N3 Ap Bg true z o' (Nh f a (q+f a)) (N+1) 12)/\(∀ o',Hu Ap o' (Lr a y l)->q+f a≠0->N3 Ap Bg true z o' (Nh f a (q+f a)) (N+1) 12):=fun z y hl hy =>
  ⟨fun o' d h0=>by
   rw[h0];exact (N3.drop m (fun p hp=>⟨(C p hp).1.mono hl,(C p hp).2⟩) R Z d).up oV (A08 _),
   fun o' d h0=>N3.put m (fun p hp=>⟨(C p hp).1.mono hl,(C p hp).2⟩) R Z d hy (fun _=>h0) hs.sz (A08 _)⟩
 cases hx':Ik a l with
 |none =>
  have T:f a=0:=R a (M8.1 hx');have Q:q+f a=q:=by rw[T];grind
  refine G.mapNot (et:=120) Bq fz g o l a kV kV (.inr (Ck _ _)) m hx'<|G.c call161 (Aao E (A04 hq.sz.1 oV)) ?_;rintro v1 z H rfl;obtain⟨X,Y⟩:=t z _ H (by rw[Q];exact E.mono H);by_cases j:q=0
  ·refine G.eT' (sgn q.num) 0 (A0g.2 j)<|G.mapDel (et:=120) Bq 121 g o l a 77 kV kV kV (Ck _ _) m ?_;intro o' d;exact G.r (.tuple #[]) ⟨o',Dp _ _ _ _,X o' d (by rw[Q];exact j)⟩
  refine G.eF' (sgn q.num) 0 (fun e=>j (A0g.1 e))<|G.mapPut (et:=120) Bq g o l a (.agg #[.bool b,.slice aa n c,.bool b',.slice a' n' c']) kV kV (Ck _ _) m ?_;intro o' d;exact G.r (.tuple #[]) ⟨o',Dp _ _ _ _,Y o' d (by rw[Q];exact j)⟩
 |some xv =>
  obtain⟨hr,_,_⟩:=C _ (O4 hx');obtain⟨b1,a1,n1,c1,K,I,V,O,rfl⟩:=hr.opn;refine G.mapHas (et:=120) Bq fz g o l a (.agg #[.bool b1,.slice a1 n1 c1,.bool K,.slice I V O]) kV kV (.inr (Ck _ _)) m hx'<|G.c call100 (Lq E hr hq.big hf.big) ?_;intro v1 z H U;obtain⟨b2,a2,n2,c2,L,J,W,P,rfl⟩:=U.opn;refine G.c call161 (Aao U (A04 hs.sz.1 oV)) ?_;rintro v2 u2 l2 rfl;obtain⟨X,Y⟩:=t u2 _ (H.trans l2) (U.mono l2);by_cases j:q+f a=0
  ·refine G.eT' (sgn (q+f a).num) 0 (A0g.2 j)<|G.mapDel (et:=120) Bq 121 g o l a 77 kV kV kV (Ck _ _) m ?_;intro o' d;exact G.r (.tuple #[]) ⟨o',Dp _ _ _ _,X o' d j⟩
  refine G.eF' (sgn (q+f a).num) 0 (fun e=>j (A0g.1 e))<|G.mapPut (et:=120) Bq g o l a (.agg #[.bool b2,.slice a2 n2 c2,.bool L,.slice J W P]) kV kV (Ck _ _) m ?_;intro o' d;exact G.r (.tuple #[]) ⟨o',Dp _ _ _ _,Y o' d j⟩
theorem Bk5 {f:(Par×Par)->Rat}{a:(Par×Par)}(h:N3 prV Bg true u o f N 12)(E:Bg u x q)(hq:SB q)(hf:SB (f a))(hs:SB (q+f a)) :
 Ag prog 101 [.map (some g),prV a,x] u (Pj g o) fun v u' m'=>∃ o',m'=Pj g o'/\N3 prV Bg true u' o' (Nh f a (q+f a)) (N+1) 12:=by
 obtain⟨l,m,C,R,Z⟩:=h.at;obtain⟨b,aa,n,c,b',a',n',c',rfl⟩:=E.opn;refine Ag.o func101 ?_;have t:∀ (z:PH) (y:Value),PH.le u z->Bg z y (q+f a) ->
  (∀ o',Hu prV o' (Awn a l)->q+f a=0->N3 prV Bg true z o' (Nh f a (q+f a)) (N+1) 12)/\(∀ o',Hu prV o' (Lr a y l)->q+f a≠0->N3 prV Bg true z o' (Nh f a (q+f a)) (N+1) 12):=fun z y hl hy =>
  ⟨fun o' d h0=>by
   rw[h0];exact (N3.drop m (fun p hp=>⟨(C p hp).1.mono hl,(C p hp).2⟩) R Z d).up oV (A08 _),
   fun o' d h0=>N3.put m (fun p hp=>⟨(C p hp).1.mono hl,(C p hp).2⟩) R Z d hy (fun _=>h0) hs.sz (A08 _)⟩
 cases hx':Ik a l with
 |none =>
  have T:f a=0:=R a (M8.1 hx');have Q:q+f a=q:=by rw[T];grind
  refine G.mapNot (et:=120) Bhr fz g o l a kV kV (.inr (Ck _ _)) m hx'<|G.c call161 (Aao E (A04 hq.sz.1 oV)) ?_;rintro v1 z H rfl;obtain⟨X,Y⟩:=t z _ H (by rw[Q];exact E.mono H);by_cases j:q=0
  ·refine G.eT' (sgn q.num) 0 (A0g.2 j)<|G.mapDel (et:=120) Bhr 122 g o l a 166 kV kV kV (Ck _ _) m ?_;intro o' d;exact G.r (.tuple #[]) ⟨o',Dp _ _ _ _,X o' d (by rw[Q];exact j)⟩
  refine G.eF' (sgn q.num) 0 (fun e=>j (A0g.1 e))<|G.mapPut (et:=120) Bhr g o l a (.agg #[.bool b,.slice aa n c,.bool b',.slice a' n' c']) kV kV (Ck _ _) m ?_;intro o' d;exact G.r (.tuple #[]) ⟨o',Dp _ _ _ _,Y o' d (by rw[Q];exact j)⟩
 |some xv =>
  obtain⟨hr,_,_⟩:=C _ (O4 hx');obtain⟨b1,a1,n1,c1,K,I,V,O,rfl⟩:=hr.opn;refine G.mapHas (et:=120) Bhr fz g o l a (.agg #[.bool b1,.slice a1 n1 c1,.bool K,.slice I V O]) kV kV (.inr (Ck _ _)) m hx'<|G.c call100 (Lq E hr hq.big hf.big) ?_;intro v1 z H U;obtain⟨b2,a2,n2,c2,L,J,W,P,rfl⟩:=U.opn;refine G.c call161 (Aao U (A04 hs.sz.1 oV)) ?_;rintro v2 u2 l2 rfl;obtain⟨X,Y⟩:=t u2 _ (H.trans l2) (U.mono l2);by_cases j:q+f a=0
  ·refine G.eT' (sgn (q+f a).num) 0 (A0g.2 j)<|G.mapDel (et:=120) Bhr 122 g o l a 166 kV kV kV (Ck _ _) m ?_;intro o' d;exact G.r (.tuple #[]) ⟨o',Dp _ _ _ _,X o' d j⟩
  refine G.eF' (sgn (q+f a).num) 0 (fun e=>j (A0g.1 e))<|G.mapPut (et:=120) Bhr g o l a (.agg #[.bool b2,.slice a2 n2 c2,.bool L,.slice J W P]) kV kV (Ck _ _) m ?_;intro o' d;exact G.r (.tuple #[]) ⟨o',Dp _ _ _ _,Y o' d j⟩
def Bjh (m' u:PH)(v:Value)(F:CF)(N:Nat):Prop :=
 ∃ b a n c b' a' n' c' g1 g2 o1 o2,v=.agg #[.bool b,.slice a n c,.bool b',.slice a' n' c',.map (some g1),.map (some g2)]/\Bg u (.agg #[.bool b,.slice a n c,.bool b',.slice a' n' c']) F.c/\g1≠g2/\m'=(PH.mt.upd g1 o1).upd g2 o2/\N3 Ap Bg true u o1 F.s N 12/\N3 prV Bg true u o2 F.t N 12
def Bgu (u:PH)(v:Value)(F:CF)(N:Nat):Prop :=
 ∃ b a n c b' a' n' c' g1 g2 o1 o2,v=.agg #[.bool b,.slice a n c,.bool b',.slice a' n' c',.map (some g1),.map (some g2)]/\Bg u (.agg #[.bool b,.slice a n c,.bool b',.slice a' n' c']) F.c/\u g1=some o1/\u g2=some o2/\N3 Ap Bg true u o1 F.s N 12/\N3 prV Bg true u o2 F.t N 12
def Bgu.mono {u u':PH}{v:Value}{F:CF}{N:Nat}(h:Bgu u v F N)(d:PH.le u u'):Bgu u' v F N:=by
 obtain⟨b,a,n,c,b',j,I,m,g1,g2,J,K,e,t,z,C,E,H⟩:=h;exact⟨b,a,n,c,b',j,I,m,g1,g2,J,K,e,t.mono d,d _ _ z,d _ _ C,E.mf d,H.mf d⟩
def Bjh.give (h:Bjh m' u v F N)(d:PH.le u u')(j:PH.le m' u'):Bgu u' v F N:=by
 obtain⟨b,a,n,c,b',m,I,t,g1,g2,J,K,e,z,C,rfl,E,H⟩:=h;exact⟨b,a,n,c,b',m,I,t,g1,g2,J,K,e,z.mono d,j _ _ (by rw[Ad _ _ C,Ab]),j _ _ (Ab _ _ _),E.mf d,H.mf d⟩
def Bjh.congr {F d:CF}{N j:Nat}(h:Bjh m' u v F N)(e:F=d)(m:N<=j):Bjh m' u v d j:=by
 subst e;obtain⟨b,a,n,c,b',t,K,z,g1,g2,L,O,e,C,E,H,I,J⟩:=h;exact⟨b,a,n,c,b',t,K,z,g1,g2,L,O,e,C,E,H,I.up m (A08 _),J.up m (A08 _)⟩
def Brm (p q:Par):Fn0 prog 102 [Ap p,Ap q] u fun v _=>v=prV (Ay p q):=by
 refine Fn0.o func102<|G.c call46 (Afb p q) ?_;rintro j e d rfl;by_cases h:0<Bk p q
 ·refine G.gT' (Bk p q) 0 h<|G.r (prV (q,p)) ⟨rfl,?_⟩;rw[Ro h]
 refine G.gF' (Bk p q) 0 h<|G.r (prV (p,q)) ⟨rfl,?_⟩;rw[Ii h]
def Bma {n:Int}(E:-9223372036854775808<=n)(H:n<=9223372036854775807):Ag prog 55 [.int .i64 n] u PH.mt fun v u' m'=>Bjh m' u' v ⟨(n:Rat),fun _=>0,fun _=>0⟩ 0:=by
 refine Ag.o func55<|G.c call96 (Wa E H) ?_;intro P O L t;obtain⟨b,a,C,c,b',j,z,m,rfl⟩:=t.opn;refine G.mapMk kV ?_;intro g1 I J;refine G.mapMk kV ?_;intro g2 d K;have h:g1≠g2:=fun e=>by subst e;rw[Ab]at d;cases d
 exact G.r (.agg #[.bool b,.slice a C c,.bool b',.slice j z m,.map (some g1),.map (some g2)]) ⟨b,a,C,c,b',j,z,m,g1,g2,_,_,rfl,t,h,rfl,N3.empty 12,N3.empty 12⟩
end
section
variable {a a':Option Addr}{b b':Bool}{bx c c' g1 g2 n n' x:Nat}{m:PH}{q:Rat}
abbrev Bmq (b:Bool)(a:Option Addr)(n c:Nat)(b':Bool)(a':Option Addr)(n' c' g1 g2:Nat):List Value:=[.bool b,.slice a n c,.bool b',.slice a' n' c',.map (some g1),.map (some g2)]
def Bhc (b:Bool)(a:Option Addr)(n c:Nat)(b':Bool)(a':Option Addr)(n' c' g1 g2:Nat):Obj:=.cells (Bmq b a n c b' a' n' c' g1 g2).toArray 124 (0,0)
def Br0 (h:m x=some (Bhc b a n c b' a' n' c' g1 g2)):ElP m x (0+0) (.agg #[.bool b,.slice a n c,.bool b',.slice a' n' c']):=fun i y d=>by
 match i,d with
 |0,d=>exact⟨_,_,_,h,by simpa[Value.cells] using d⟩
 |1,d=>exact⟨_,_,_,h,by simpa[Value.cells] using d⟩
 |2,d=>exact⟨_,_,_,h,by simpa[Value.cells] using d⟩
 |3,d=>exact⟨_,_,_,h,by simpa[Value.cells] using d⟩
 |k+4,d=>simp[Value.cells]at d
def Br4 (h:m x=some (Bhc b a n c b' a' n' c' g1 g2)):ElP m x (0+4) (.map (some g1)):=fun i y d=>by
 match i,d with
 |0,d=>exact⟨_,_,_,h,by simpa[Value.cells] using d⟩
 |k+1,d=>simp[Value.cells]at d
def Bmy (h:m x=some (Bhc b a n c b' a' n' c' g1 g2)):ElP m x (0+5) (.map (some g2)):=fun i y d=>by
 match i,d with
 |0,d=>exact⟨_,_,_,h,by simpa[Value.cells] using d⟩
 |k+1,d=>simp[Value.cells]at d
def Bln (h:m x=some (Bhc b a n c b' a' n' c' g1 g2)):ElP m x 0 (.agg #[.bool b,.slice a n c,.bool b',.slice a' n' c',.map (some g1),.map (some g2)]):=fun i y d=>by
 match i,d with
 |0,d=>exact⟨_,_,_,h,by simpa[Value.cells] using d⟩
 |1,d=>exact⟨_,_,_,h,by simpa[Value.cells] using d⟩
 |2,d=>exact⟨_,_,_,h,by simpa[Value.cells] using d⟩
 |3,d=>exact⟨_,_,_,h,by simpa[Value.cells] using d⟩
 |4,d=>exact⟨_,_,_,h,by simpa[Value.cells] using d⟩
 |5,d=>exact⟨_,_,_,h,by simpa[Value.cells] using d⟩
 |k+6,d=>simp[Value.cells]at d
def Bnu :∀ x∈Bmq b a n c b' a' n' c' g1 g2,Ax x=true:=fun x d=>by
 simp at d;rcases d with rfl|rfl|rfl|rfl|rfl|rfl<;>rfl
def M3 (bx g1 g2:Nat)(x o1 o2:Obj):PH:=((PH.mt.upd g1 o1).upd g2 o2).upd bx x
def Bsh {x h j:Obj}(h0:m bx=some x)(t:m g1=some h)(u:m g2=some j):PH.le (M3 bx g1 g2 x h j) m:=fun g o d=>by
 unfold M3 at d;by_cases e:g=bx
 ·subst e;rw[Ab]at d;cases d;exact h0
 rw[Ad _ _ e]at d;by_cases e:g=g2
 ·subst e;rw[Ab]at d;cases d;exact u
 rw[Ad _ _ e]at d;by_cases e:g=g1
 ·subst e;rw[Ab]at d;cases d;exact t
 rw[Ad _ _ e]at d;cases d
def Bpb (bx:Nat)(m u:PH)(F:CF)(N:Nat):Prop :=
 ∃ b a n c b' a' n' c' g1 g2 o1 o2,bx≠g1/\bx≠g2/\g1≠g2/\m=M3 bx g1 g2 (Bhc b a n c b' a' n' c' g1 g2) o1 o2/\Bg u (.agg #[.bool b,.slice a n c,.bool b',.slice a' n' c']) F.c/\N3 Ap Bg true u o1 F.s N 12/\N3 prV Bg true u o2 F.t N 12
section
variable {κ:Type} [DecidableEq κ]
def Ek (f g:κ->Rat)(q:Rat)(L:List κ):κ->Rat:=fun k=>if k∈L then g k*q+f k else f k
def Jo (f g:κ->Rat)(q:Rat){L:List κ}{k:κ}(h:k∉L):Nh (Ek f g q L) k (g k*q+Ek f g q L k)=Ek f g q (L++[k]):=by
 funext j
 unfold Nh Ek;by_cases e:j=k
 ·subst e;rw[if_pos rfl,if_neg h,if_pos mV]
 rw[if_neg e];by_cases d:j∈L
 ·rw[if_pos d,if_pos (by simp[d])]
 rw[if_neg d,if_neg (by simp[d,e])]
theorem Me (f g:κ->Rat)(q:Rat){L:List κ}(h:∀ k,k∉L->g k=0):Ek f g q L=fun k=>f k+g k*q:=by
 funext k
 unfold Ek;by_cases d:k∈L
 ·rw[if_pos d];grind
 rw[if_neg d,h k d];grind
def O3 {f g:κ->Rat}{L:List κ}(d:∀ k,SB (f k))(e:∀ k,SB (f k+g k*q))(k:κ):SB (Ek f g q L k):=by
 unfold Ek;split
 ·rw[A46];exact e k
 exact d k
end
def Blz {u m:PH}{F H:CF}{N M:Nat}{w kv:Value}(hm:Bpb bx m u F N)(hw:Bgu u w H M)(hk:Bg u kv q)(hq:SB q)(sF:CFS F)(sH:CFS H)(sK:CFS (H.scale q))(sR:CFS (F.add (H.scale q))) :
 Ag prog 98 [.pointer (some ⟨bx,0,none⟩),w,kv] u m fun v u' m'=>Bpb bx m' u' (F.add (H.scale q)) (N+M):=by
 obtain⟨b,a,n,c,b',a',n',c',g1,g2,o1,o2,aa,ab,ac,rfl,hF,h1,h2⟩:=hm;obtain⟨wb,wa,wn,wc,bf,be,bh,bg,w1,w2,p1,p2,rfl,hH,e1,e2,k1,k2⟩:=hw;obtain⟨kb,ka,kn,kc,aw,av,ay,ax,rfl⟩:=hk.opn;obtain⟨l1,⟨V,h,rfl,ae,a3⟩,b8,bb,bu⟩:=k1.at;obtain⟨l2,⟨W,j,rfl,af,a5⟩,b9,bc,bv⟩:=k2.at;have ar:(l1.map (·.1)).Nodup:=Hu.nodup (enc:=Ap) ⟨V,h,rfl,ae,a3⟩;have au:(l2.map (·.1)).Nodup:=Hu.nodup (enc:=prV) ⟨W,j,rfl,af,a5⟩;refine Ag.o func98<|G.f 124 bx 0 0 0<|G.lM (some 4) bx (0+0) (.agg #[.bool b,.slice a n c,.bool b',.slice a' n' c']) (Br0 (Ab _ _ _))<|G.c call99 (Ga hH hk (SB.big sH.c) hq.big) ?_;intro v1 u1 az r1;obtain⟨b1,a1,x1,c1,bq,bp,bw,br,rfl⟩:=r1.opn;refine G.c call100 (Lq (hF.mono az) r1 (SB.big sF.c) (SB.big sK.c)) ?_;intro v2 u2 bd r2;obtain⟨b2,a2,x2,c2,C,z,K,E,rfl⟩:=r2.opn;refine G.f 124 bx 0 0 0<|G.storeM 4 bx (0+0) 124 (Bmq b a n c b' a' n' c' g1 g2) (.agg #[.bool b2,.slice a2 x2 c2,.bool C,.slice z K E]) kV (Ab _ _ _) Bnu mV rfl rfl ?_;obtain⟨m2,ba,ai,aj,ak⟩:∃ m2:PH,m2=(M3 bx g1 g2 (Bhc b a n c b' a' n' c' g1 g2) o1 o2).upd bx (Bhc b2 a2 x2 c2 C z K E g1 g2)/\m2 bx=some (Bhc b2 a2 x2 c2 C z K E g1 g2)/\m2 g1=some o1/\m2 g2=some o2 :=
  ⟨_,rfl,Ab _ _ _,by rw[Ad _ _ (Ne.symm aa)];unfold M3;rw[Ad _ _ (Ne.symm aa),Ad _ _ ac,Ab],by rw[Ad _ _ (Ne.symm ab)];unfold M3;rw[Ad _ _ (Ne.symm ab),Ab]⟩
 show G _ _ _ _ _ ((M3 bx g1 g2 (Bhc b a n c b' a' n' c' g1 g2) o1 o2).upd bx (Bhc b2 a2 x2 c2 C z K E g1 g2));rw[<-ba];have a6:=az.trans bd;refine G.mapRange w1 V h 77 120 kV (.inl (a6 _ _ e1)) ?_;intro it al bt;have ib:bx≠it:=fun e=>by subst e;rw[al]at ai;cases ai
 have i1:g1≠it:=fun e=>by subst e;rw[al]at aj;cases aj
 have i2:g2≠it:=fun e=>by subst e;rw[al]at ak;cases ak
 refine G.l (ι:=List MapEntry×List (Par×Value)) (fun _=>[(0,.v (.pointer (some ⟨bx,0,none⟩))),(4,.p 0 0),(5,.p 1 0),(24,.v (.pointer (some ⟨it,0,none⟩)))])
  (fun _=>[(0,⟨124,[bV wb,sV wa wn wc,bV bf,sV be bh bg,.v (.map (some w1)),.v (.map (some w2))]⟩),(1,⟨120,[bV kb,sV ka kn kc,bV aw,sV av ay ax]⟩)])
  (fun i u' m'=>Gj Ap V l1 i.1 i.2/\m' it=some (.mapIter (some w1) h (Ar i.1) h)/\m' bx=some (Bhc b2 a2 x2 c2 C z K E g1 g2)/\m' g2=some o2/\∃ P,m' g1=some P/\N3 Ap Bg true u' P (Ek F.s H.s q (i.2.map (·.1))) (N+i.2.length) 12)
  (fun i=>l1.length-i.2.length) ([],[])
  ⟨Gj.nil _ _,Ab _ _ _,by rw[Ad _ _ ib];exact ai,by rw[Ad _ _ i2];exact ak,o1,by rw[Ad _ _ i1];exact aj,by
   have:Ek F.s H.s q (([]:List (Par×Value)).map (·.1))=F.s:=by funext k;simp[Ek]
   dsimp only;rw[this];exact h1.mf a6⟩ ?_
 rintro J ⟨D,L⟩ hJ u3 m3 am ⟨hS,aq,T,I,P,X,hR⟩;simp only at hS aq T I X hR hJ;have d:=a6.trans am;refine G.mapNextL Bq.inj it w1 V h l1 D L kV kV aq (.inl (d _ _ e1)) a3 ae ar hS ?done1 ?next1
 case next1 =>
  rintro⟨k,xv⟩ e hp hkn he hek hev hS';simp only at hkn hek hev;have hx:=(b8 _ hp).1;simp only at hx;obtain⟨yb,ya,yn,yc,bk,bj,bm,bl,rfl⟩:=hx.opn;refine G.mapEntry it w1 V h D e kV (Ab _ _ _) (.inl (d _ _ e1)) a3 he ?_;rw[hek,hev];refine G.f 124 bx 0 1 4<|G.lM none bx (0+4) (.map (some g1)) (Br4 (by rw[Ad _ _ ib];exact T))<|G.c call99 (Ga (hx.mono d) (hk.mono d) (SB.big (sH.s k)) hq.big) ?_;intro v4 u4 a7 r4;obtain⟨b4,a4,x4,c4,b3,b0,bi,b5,rfl⟩:=r4.opn;refine G.callG _ _ kV kV call156 (g:=g1) (o:=P) (by rw[Ad _ _ i1];exact X)
   (Bqb (hR.mf a7) r4 (sK.s k) (O3 sF.s sR.s k) (by
    have:Ek F.s H.s q (L.map (·.1)) k=F.s k:=by unfold Ek;rw[if_neg hkn]
    rw[this,A46];exact sR.s k)) ?_
  intro v5 u5 o5 an r5;rw[Jo _ _ _ hkn]at r5;refine G.b (hJ (D++[e],L++[(k,_)]) _ _ _ cV ((am.trans a7).trans an)
   ⟨hS',by rw[Ad _ _ (Ne.symm i1),Ab],by rw[Ad _ _ aa,Ad _ _ ib];exact T,by rw[Ad _ _ (Ne.symm ac),Ad _ _ i2];exact I,o5,Ab _ _ _,by
    simpa[A3p] using r5⟩ (by have:=hS'.len;simp at this;dsimp only;simp;omega))
 case done1 =>
 intro ap;have b6:Ek F.s H.s q (L.map (·.1))=(F.add (H.scale q)).s:=Me _ _ _ fun k hk=>bb k fun hm=>hk (by
  obtain⟨p,hp,rfl⟩:=A1b.1 hm;exact A1b.2 ⟨p,ap p hp,rfl⟩)
 rw[b6]at hR;have bs:=hS.len;refine G.mapRange w2 W j 166 120 kV (.inl (d _ _ e2)) ?_;intro O Z bo;have jb:bx≠O:=fun e=>by subst e;rw[Z]at T;cases T
 have j1:g1≠O:=fun e=>by subst e;rw[Z]at X;cases X
 have j2:g2≠O:=fun e=>by subst e;rw[Z]at I;cases I
 refine G.l (ι:=List MapEntry×List ((Par×Par)×Value)) (fun _=>[(0,.v (.pointer (some ⟨bx,0,none⟩))),(5,.p 1 0),(41,.v (.pointer (some ⟨O,0,none⟩)))])
  (fun _=>[(1,⟨120,[bV kb,sV ka kn kc,bV aw,sV av ay ax]⟩)])
  (fun i u' m'=>Gj prV W l2 i.1 i.2/\m' O=some (.mapIter (some w2) j (Ar i.1) j)/\m' bx=some (Bhc b2 a2 x2 c2 C z K E g1 g2)/\m' g1=some P/\∃ U,m' g2=some U/\N3 prV Bg true u' U (Ek F.t H.t q (i.2.map (·.1))) (N+i.2.length) 12)
  (fun i=>l2.length-i.2.length) ([],[])
  ⟨Gj.nil _ _,Ab _ _ _,by rw[Ad _ _ jb];exact T,by rw[Ad _ _ j1];exact X,o2,by rw[Ad _ _ j2];exact I,by
   have:Ek F.t H.t q (([]:List ((Par×Par)×Value)).map (·.1))=F.t:=by funext k;simp[Ek]
   dsimp only;rw[this];exact h2.mf d⟩ ?_
 rintro J2 ⟨D2,L2⟩ ao u6 m6 a9 ⟨ag,ad,Q,a0,U,Y,a8⟩;simp only at ag ad Q a0 Y a8 ao;have R:=d.trans a9;refine G.mapNextL Bhr.inj O w2 W j l2 D2 L2 kV kV ad (.inl (R _ _ e2)) a5 af au ag ?done2 ?next2
 case next2 =>
  rintro⟨k,xv⟩ e hp hkn he hek hev hS';simp only at hkn hek hev;have hx:=(b9 _ hp).1;simp only at hx;obtain⟨yb,ya,yn,yc,bk,bj,bm,bl,rfl⟩:=hx.opn;refine G.mapEntry O w2 W j D2 e kV (Ab _ _ _) (.inl (R _ _ e2)) a5 he ?_;rw[hek,hev];refine G.f 124 bx 0 2 5<|G.lM none bx (0+5) (.map (some g2)) (Bmy (by rw[Ad _ _ jb];exact Q))<|G.c call99 (Ga (hx.mono R) (hk.mono R) (SB.big (sH.t k)) hq.big) ?_;intro v4 u4 a7 r4;obtain⟨b4,a4,x4,c4,b3,b0,bi,b5,rfl⟩:=r4.opn;refine G.callG _ _ kV kV call101 (g:=g2) (o:=U) (by rw[Ad _ _ j2];exact Y)
   (Bk5 (a8.mf a7) r4 (sK.t k) (O3 sF.t sR.t k) (by
    have:Ek F.t H.t q (L2.map (·.1)) k=F.t k:=by unfold Ek;rw[if_neg hkn]
    rw[this,A46];exact sR.t k)) ?_
  intro v5 u5 o5 an r5;rw[Jo _ _ _ hkn]at r5;refine G.b (ao (D2++[e],L2++[(k,_)]) _ _ _ cV ((a9.trans a7).trans an)
   ⟨hS',by rw[Ad _ _ (Ne.symm j2),Ab],by rw[Ad _ _ ab,Ad _ _ jb];exact Q,by rw[Ad _ _ ac,Ad _ _ j1];exact a0,o5,Ab _ _ _,by
    simpa[A3p] using r5⟩ (by have:=hS'.len;simp at this;dsimp only;simp;omega))
 case done2 =>
 intro ah;have b7:Ek F.t H.t q (L2.map (·.1))=(F.add (H.scale q)).t:=Me _ _ _ fun k hk=>bc k fun hm=>hk (by
  obtain⟨p,hp,rfl⟩:=A1b.1 hm;exact A1b.2 ⟨p,ah p hp,rfl⟩)
 rw[b7]at a8;have bn:=ag.len;exact G.drop (M3 bx g1 g2 (Bhc b2 a2 x2 c2 C z K E g1 g2) P U) kV (Bsh Q a0 Y)<|G.r (.tuple #[]) ⟨b2,a2,x2,c2,C,z,K,E,g1,g2,P,U,aa,ab,ac,rfl,r2.mono (am.trans a9),(hR.mf a9).up oV (A08 _),a8.up oV (A08 _)⟩
end
section
variable {F:CF}{N:Nat}{v:Value}
def Alv (t:TypeId):Op->Bool
 |.binOp _ t' ..=>Nat.beq t' t
 |_=>false
section rules
variable [Cl] {P:Program} [A6 P] {fn:Func} {Post:Ce} {st:List KI×S} {u m:PH}
def Uu {op:BinOp}{t:TypeId}{xs ys:Array Value}(X Y:Operand)(d:P.eqGuardType P.depth t=false)(w:World):(eqGuard op t X Y (.agg xs) (.agg ys)).run P w=.ok () w:=by
 unfold eqGuard;split<;>simp[d]
def G.eqAgg (t:TypeId)(xs ys:Array Value)(r:Bool)(h:Aj P (adv P st)=.binT .eql (P.underlying t) (.agg xs) (.agg ys))(H:Yr (Alv t) (adv P st)=true)(E:P.eqGuardType P.depth t=false)(C:∀ w,(Op.equal t (.agg xs) (.agg ys)).run P w=.ok r w)
 (k:G P fn Post (nx (adv P st) (.bool r)) u m):G P fn Post st u m:=by
 refine G.askQ (Alv t) h H mV (fun n o d z w _=>?_) k;obtain⟨J,X,Y,L,e,g,j,K⟩:=Mb d;obtain⟨dst,I,type,pos,after,guard⟩:=o;simp only at e;subst e;obtain rfl:J=t:=A1y z;simp[execOp,g,j,Uu X Y E,binOp,C]
def G.neAgg (t:TypeId)(xs ys:Array Value)(r:Bool)(h:Aj P (adv P st)=.binT .neq (P.underlying t) (.agg xs) (.agg ys))(H:Yr (Alv t) (adv P st)=true)(E:P.eqGuardType P.depth t=false)(C:∀ w,(Op.equal t (.agg xs) (.agg ys)).run P w=.ok r w)
 (k:G P fn Post (nx (adv P st) (.bool (!r))) u m):G P fn Post st u m:=by
 refine G.askQ (Alv t) h H mV (fun n o d z w _=>?_) k;obtain⟨J,X,Y,L,e,g,j,K⟩:=Mb d;obtain⟨dst,I,type,pos,after,guard⟩:=o;simp only at e;subst e;obtain rfl:J=t:=A1y z;simp[execOp,g,j,Uu X Y E,binOp,C]
end rules
def CF.zero_add (a:CF):(CF.zero).add a=a:=by rw[CF.add_comm,CF.add_zero]
def CFS.zero:CFS CF.zero:=⟨SB.zero,fun _=>SB.zero,fun _=>SB.zero⟩
def Bns {C u:PH}(h:Bjh C u v F N):∃ b a n c b' d j g g1 g2,v=.agg #[.bool b,.slice a n c,.bool b',.slice d j g,.map (some g1),.map (some g2)] /\
 ∀ t,C t=none->Bpb t (C.upd t (.cells (Bmq b a n c b' d j g g1 g2).toArray 124 (0,0))) u F N:=by
 obtain⟨b,a,n,c,b',d,j,g,g1,g2,K,L,e,H,E,rfl,I,J⟩:=h;refine⟨b,a,n,c,b',d,j,g,g1,g2,e,fun t z=>⟨b,a,n,c,b',d,j,g,g1,g2,K,L,?_,?_,E,rfl,H,I,J⟩⟩
 ·rintro rfl;rw[Ad _ _ E,Ab]at z;cases z
 rintro rfl;rw[Ab]at z;cases z
def Bpb.opn {z:Nat}{m u:PH}(h:Bpb z m u F N):∃ b a n c b' d g e g1 g2 j t,m z=some (Bhc b a n c b' d g e g1 g2)/\PH.le ((PH.mt.upd g1 j).upd g2 t) m/\Bjh ((PH.mt.upd g1 j).upd g2 t) u (.agg #[.bool b,.slice a n c,.bool b',.slice d g e,.map (some g1),.map (some g2)]) F N:=by
 obtain⟨b,a,n,c,b',d,g,e,g1,g2,j,t,C,E,H,rfl,I,J,K⟩:=h;refine⟨b,a,n,c,b',d,g,e,g1,g2,j,t,Ab _ _ _,?_,b,a,n,c,b',d,g,e,g1,g2,j,t,rfl,I,H,rfl,J,K⟩;exact Jw _ (by rw[Ad _ _ E,Ad _ _ C];rfl)
def Bqi {u:PH}{v E:Value}{q:Rat}(C:Bgu u v F N)(z:Bg u E q)(O:SB q)(Y:CFS F)(I:CFS (F.scale q)) :
 Ag prog 97 [v,E] u PH.mt fun v' Z V=>Bjh V Z v' (F.scale q) N:=by
 obtain⟨wb,wa,wn,wc,a1,a0,a3,a2,w1,w2,p1,p2,rfl,hH⟩:=id C;obtain⟨kb,ka,kn,kc,R,Q,U,T,rfl⟩:=z.opn;refine Ag.o func97<|G.callO _ _ kV call55 (Bma (n:=0) oV oV) ?_;rintro v1 u1 m1 H W _;rw[By];obtain⟨b,a,n,c,b',d,g,e,g1,g2,rfl,J⟩:=Bns W;refine G.pub 1001 124 (Bmq b a n c b' d g e g1 g2) kV kV ?_;intro t hu L;refine G.A call98 (Blz (J t L) (C.mono H) (z.mono H) O CFS.zero Y I (by show CFS (CF.zero.add _);rw[CF.zero_add];exact I)) ?_;rintro v2 u2 m2 l2 X _;rw[By];obtain⟨b,a,n,c,b',d,g,e,g1,g2,o1,o2,h,j,K⟩:=X.opn;exact G.lM (some 6) t 0 (.agg #[.bool b,.slice a n c,.bool b',.slice d g e,.map (some g1),.map (some g2)]) (Bln h)<|G.drop _ kV j<|G.r (.agg #[.bool b,.slice a n c,.bool b',.slice d g e,.map (some g1),.map (some g2)]) (K.congr (CF.zero_add _) oV)
end
structure Aw3 (F H:CF):Prop where
 a:CFS F
 b:CFS H
 c:CFS (H.scale F.c)
 d:CFS (F.scale H.c)
 e:CFS ((H.scale F.c).add (F.scale H.c))
 f:SB (F.c*H.c)
 pr:∀ p q,SB (F.s p*H.s q)
 con:∀ x,SB (con F H x)
 acc:∀ Ps:List (Par×Par),Ps.Nodup->∀ k,SB (((H.scale F.c).add (F.scale H.c)).t k+Er F H Ps k)
structure Br8 (F H:CF)(base:Par×Par->Rat):Prop where
 a:CFS F
 b:CFS H
 pr:∀ p q,SB (F.s p*H.s q)
 con:∀ x,SB (con F H x)
 acc:∀ Ps:List (Par×Par),Ps.Nodup->∀ k,SB (base k+Er F H Ps k)
theorem Bsk {u:PH}{F H:CF}{N M:Nat}{v w:Value}(hv:Bgu u v F N)(hw:Bgu u w H M)(ok:Aw3 F H) :
 Ag prog 56 [v,w] u PH.mt fun v' u' m'=>Bjh m' u' v' (F.mul H) (M+N+N*M):=by
 obtain⟨vb,va,vn,vc,be,bd,bg,bf,v1,v2,q1,q2,rfl,b6,f1,f2,s1,s2⟩:=id hv;obtain⟨wb,wa,wn,wc,bi,bh,bk,bj,w1,w2,p1,p2,rfl,b7,e1,e2,t1,t2⟩:=id hw;obtain⟨lv,⟨a1,Q,rfl,b0,ar⟩,bm,bq,ch⟩:=s1.at;obtain⟨lw,⟨a3,Y,rfl,b1,au⟩,bn,br,bp⟩:=t1.at;have b3:(lv.map (·.1)).Nodup:=Hu.nodup (enc:=Ap) ⟨a1,Q,rfl,b0,ar⟩;have b4:(lw.map (·.1)).Nodup:=Hu.nodup (enc:=Ap) ⟨a3,Y,rfl,b1,au⟩;refine Ag.o func56<|G.callO _ _ kV call97 (Bqi hw b6 ok.a.c ok.b ok.c) ?_;rintro f3 u3 m3 l3 r3 _;rw[By];obtain⟨b,a,n,c,b',a',n',c',g1,g2,rfl,hB⟩:=Bns r3;refine G.pub 1004 124 (Bmq b a n c b' a' n' c' g1 g2) kV kV ?_;intro I hu hm;refine G.A call98 (Blz (hB I hm) (hv.mono l3) (b7.mono l3) ok.b.c ok.c ok.a ok.d ok.e) ?_;rintro f4 u4 m4 l4 r4 _;rw[By];obtain⟨b,a,n,c,b',a',n',c',g1,g2,o1,o2,bb,ag,ah,rfl,hC,bl,ax⟩:=r4;have av:=l3.trans l4;refine G.c call99 (Ga (b6.mono av) (b7.mono av) (SB.big ok.a.c) (SB.big ok.b.c)) ?_;intro f5 u5 l5 r5;obtain⟨b2,a2,x2,c2,E,C,O,K,rfl⟩:=r5.opn;refine G.f 124 I 0 0 0<|G.storeM 4 I (0+0) 124 (Bmq b a n c b' a' n' c' g1 g2) (.agg #[.bool b2,.slice a2 x2 c2,.bool E,.slice C O K]) kV (Ab _ _ _) Bnu mV rfl rfl ?_;obtain⟨m5,bo,an,ao,ap⟩:∃ m5:PH,m5=(M3 I g1 g2 (Bhc b a n c b' a' n' c' g1 g2) o1 o2).upd I (Bhc b2 a2 x2 c2 E C O K g1 g2)/\m5 I=some (Bhc b2 a2 x2 c2 E C O K g1 g2)/\m5 g1=some o1/\m5 g2=some o2 :=
  ⟨_,rfl,Ab _ _ _,by rw[Ad _ _ (Ne.symm bb)];unfold M3;rw[Ad _ _ (Ne.symm bb),Ad _ _ ah,Ab],by rw[Ad _ _ (Ne.symm ag)];unfold M3;rw[Ad _ _ (Ne.symm ag),Ab]⟩
 show G _ _ _ _ _ ((M3 I g1 g2 (Bhc b a n c b' a' n' c' g1 g2) o1 o2).upd I (Bhc b2 a2 x2 c2 E C O K g1 g2));rw[<-bo];have ba:=av.trans l5;obtain⟨base,V⟩:∃ base:Par×Par->Rat,base=((H.scale F.c).add (F.scale H.c)).t:=⟨_,rfl⟩;have aj:=ok.acc;rw[<-V]at ax;refine G.mapRange v1 a1 Q 77 120 kV (.inl (ba _ _ f1)) ?_;intro it aq cg;have ib:I≠it:=fun e=>by subst e;rw[aq]at an;cases an
 have i1:g1≠it:=fun e=>by subst e;rw[aq]at ao;cases ao
 have i2:g2≠it:=fun e=>by subst e;rw[aq]at ap;cases ap
 refine G.l (ι:=List MapEntry×List (Par×Value)) (fun _=>[(2,.p 0 0),(3,.p 1 0),(4,.p 2 0),(5,.v (.pointer (some ⟨I,0,none⟩))),(27,.v (.pointer (some ⟨it,0,none⟩)))])
  (fun _=>[(0,⟨124,[bV vb,sV va vn vc,bV be,sV bd bg bf,.v (.map (some v1)),.v (.map (some v2))]⟩),(1,⟨124,[bV wb,sV wa wn wc,bV bi,sV bh bk bj,.v (.map (some w1)),.v (.map (some w2))]⟩),(2,⟨124,[bV false,sV none 0 0,bV false,sV none 0 0,.v (.map none),.v (.map none)]⟩)])
  (fun i u' m'=>Gj Ap a1 lv i.1 i.2/\m' it=some (.mapIter (some v1) Q (Ar i.1) Q)/\m' I=some (Bhc b2 a2 x2 c2 E C O K g1 g2)/\m' g1=some o1/\∃ Ps:List (Par×Par),Ps.Nodup/\(∀ x:Par×Par,x∈Ps↔x.1∈i.2.map (·.1)/\x.2∈lw.map (·.1))/\∃ a0,m' g2=some a0/\N3 prV Bg true u' a0 (fun k=>base k+Er F H Ps k) (M+N+i.2.length*lw.length) 12)
  (fun i=>lv.length-i.2.length) ([],[])
  ⟨Gj.nil _ _,Ab _ _ _,by rw[Ad _ _ ib];exact an,by rw[Ad _ _ i1];exact ao,[],mV,mV,o2,by rw[Ad _ _ i2];exact ap,((ax.mf l5).congr fun k=>by simp only[Er];grind).up mV (A08 _)⟩ ?_
 rintro J ⟨D,L⟩ hJ u6 m6 l6 ⟨hS,az,a6,X,Ps,aw,al,a0,a7,hR⟩;simp only at hS az a6 X al a7 hR hJ;have ae:=ba.trans l6;refine G.mapNextL Bq.inj it v1 a1 Q lv D L kV kV az (.inl (ae _ _ f1)) ar b0 b3 hS ?done1 ?next1
 case next1 =>
  rintro⟨p,xv⟩ e hp hpn he hek hev hS';simp only at hpn hek hev;have hx:=(bm _ hp).1;simp only at hx;obtain⟨yb,ya,yn,yc,bt,bs,bv,bu,rfl⟩:=hx.opn;refine G.mapEntry it v1 a1 Q D e kV (Ab _ _ _) (.inl (ae _ _ f1)) ar he ?_;rw[hek,hev];refine G.mapRange w1 a3 Y 77 120 kV (.inl (ae _ _ e1)) ?_;intro R m c6;have jb:I≠R:=fun e=>by subst e;rw[Ad _ _ ib,a6]at m;cases m
  have j1:g1≠R:=fun e=>by subst e;rw[Ad _ _ i1,X]at m;cases m
  have j2:g2≠R:=fun e=>by subst e;rw[Ad _ _ i2,a7]at m;cases m
  have k1:it≠R:=fun e=>by subst e;rw[Ab]at m;cases m
  have k2:g2≠it:=i2;refine G.l (ι:=List MapEntry×List (Par×Value)) (fun _=>[(2,.p 0 0),(3,.p 1 0),(4,.p 2 0),(5,.v (.pointer (some ⟨I,0,none⟩))),(6,.p 6003 0),(7,.p 6004 0),(27,.v (.pointer (some ⟨it,0,none⟩))),(35,.v (.pointer (some ⟨R,0,none⟩)))])
   (fun _=>[(0,⟨124,[bV vb,sV va vn vc,bV be,sV bd bg bf,.v (.map (some v1)),.v (.map (some v2))]⟩),(1,⟨124,[bV wb,sV wa wn wc,bV bi,sV bh bk bj,.v (.map (some w1)),.v (.map (some w2))]⟩),(2,⟨124,[bV false,sV none 0 0,bV false,sV none 0 0,.v (.map none),.v (.map none)]⟩),(6003,⟨77,[iV p.1,tV p.2]⟩),(6004,⟨120,[bV yb,sV ya yn yc,bV bt,sV bs bv bu]⟩)])
   (fun i u' m'=>Gj Ap a3 lw i.1 i.2/\m' R=some (.mapIter (some w1) Y (Ar i.1) Y)/\m' it=some (.mapIter (some v1) Q (Ar (D++[e])) Q)/\m' I=some (Bhc b2 a2 x2 c2 E C O K g1 g2)/\m' g1=some o1/\∃ P:List (Par×Par),P.Nodup/\(∀ x:Par×Par,x∈P↔(x.1∈L.map (·.1)/\x.2∈lw.map (·.1))\/(x.1=p/\x.2∈i.2.map (·.1)))/\∃ oi,m' g2=some oi/\N3 prV Bg true u' oi (fun k=>base k+Er F H P k) (M+N+L.length*lw.length+i.2.length) 12)
   (fun i=>lw.length-i.2.length) ([],[])
   ⟨Gj.nil _ _,Ab _ _ _,by rw[Ad _ _ k1,Ab],by rw[Ad _ _ jb,Ad _ _ ib];exact a6,by rw[Ad _ _ j1,Ad _ _ i1];exact X,Ps,aw,by intro x;rw[al];simp,a0,by rw[Ad _ _ j2,Ad _ _ i2];exact a7,hR⟩ ?_
  rintro J2 ⟨D2,L2⟩ iJ ui mi ad ⟨iS,ak,ac,Z,aa,P,a5,a4,oi,ab,iR⟩;simp only at iS ak ac Z aa a4 ab iR iJ;have af:=ae.trans ad;refine G.mapNextL Bq.inj R w1 a3 Y lw D2 L2 kV kV ak (.inl (af _ _ e1)) au b1 b4 iS ?done2 ?next2
  case next2 =>
   rintro⟨k,yv⟩ e2 hk hkn he2 hek2 hev2 iS';simp only at hkn hek2 hev2;have hy:=(bn _ hk).1;simp only at hy;obtain⟨zb,za,zn,zc,bz,bw,c1,c0,rfl⟩:=hy.opn;have b5:(p,k)∉P:=fun h=>by
    rcases (a4 _).1 h with h|h
    ·exact hpn h.1
    exact hkn h.2
   have W:(P++[(p,k)]).Nodup:=by
    rw[A4p];exact⟨a5,mV,fun a ha b hb e'=>b5 (by simp at hb;rw[<-hb,<-e'];exact ha)⟩
   have ai:∀ x:Par×Par,x∈P++[(p,k)]↔(x.1∈L.map (·.1)/\x.2∈lw.map (·.1))\/(x.1=p/\x.2∈(L2++[(k,Value.agg #[.bool zb,.slice za zn zc,.bool bz,.slice bw c1 c0])]).map (·.1)):=fun x=>by
    obtain⟨x1,x2⟩:=x;rw[A1h,a4];simp only[A1i,A1h,A2u,A7m,A12,A2i];constructor
    ·rintro ((h|⟨T,U⟩)|⟨T,U⟩)
     ·exact .inl h
     ·exact .inr ⟨T,.inl U⟩
     exact .inr ⟨T,.inr U⟩
    rintro (h|⟨T,U|U⟩)
    ·exact .inl (.inl h)
    ·exact .inl (.inr ⟨T,U⟩)
    exact .inr ⟨T,U⟩
   refine G.mapEntry R w1 a3 Y D2 e2 kV (Ab _ _ _) (.inl (af _ _ e1)) au he2 ?_;rw[hek2,hev2];refine G.c call99 (Ga (hx.mono af) (hy.mono af) (SB.big (ok.a.s p)) (SB.big (ok.b.s k))) ?_;intro v9 u9 l9 r9;obtain⟨b9,a9,n9,c9,cc,ca,cj,ce,rfl⟩:=r9.opn;rw[<-V]at aj;have ok:Br8 F H base:=⟨ok.a,ok.b,ok.pr,ok.con,aj⟩;by_cases a8:p=k
   ·have z:con F H (p,k)=F.s p*H.s k+F.s p*H.s k:=by unfold con;rw[if_pos a8]
    refine G.eqAgg 77 #[.int .i64 p.1,.string (mkS p.2)] #[.int .i64 k.1,.string (mkS k.2)] true kV kV kV (fun w=>by rw[<-decide_eq_true a8];exact Bq.eq p k w)<|G.c call100 (Lq r9 r9 (SB.big (ok.pr p k)) (SB.big (ok.pr p k))) ?_;intro cl ck b8 bc;obtain⟨cb,c8,ci,cd,c4,c3,c7,c5,rfl⟩:=bc.opn;refine G.f 124 I 0 2 5<|G.lM none I (0+5) (.map (some g2)) (Bmy (by rw[Ad _ _ jb];exact Z))<|G.c call102 (Brm p k) ?_;rintro v7 u7 l7 rfl;refine G.callG _ _ kV kV call101 (g:=g2) (o:=oi) (by rw[Ad _ _ j2];exact ab)
     (Bk5 (a:=Ay p k) (iR.mf ((l9.trans b8).trans l7)) (bc.mono l7) (by have:=ok.con (p,k);rw[z]at this;exact this) (ok.acc P a5 _) (by
      have:=ok.acc (P++[(p,k)]) W (Ay p k);rw[Jt,if_pos rfl,z]at this;rw[show (F.s p*H.s k+F.s p*H.s k)+(base (Ay p k)+Er F H P (Ay p k))=base (Ay p k)+((F.s p*H.s k+F.s p*H.s k)+Er F H P (Ay p k)) by grind];exact this)) ?_
    intro v8 u8 o8 l8 r8;refine G.b (iJ (D2++[e2],L2++[(k,_)]) _ _ _ cV ((ad.trans ((l9.trans b8).trans l7)).trans l8)
     ⟨iS',by rw[Ad _ _ (Ne.symm j2),Ab],by rw[Ad _ _ (Ne.symm k2),Ad _ _ k1];exact ac,by rw[Ad _ _ ag,Ad _ _ jb];exact Z,by rw[Ad _ _ ah,Ad _ _ j1];exact aa,P++[(p,k)],W,ai,o8,Ab _ _ _,?_⟩ (by have:=iS'.len;simp at this;dsimp only;simp;omega))
    refine (r8.congr fun j=>?_).up (by simp[A3p]) (A08 _);rw[Jt,z];unfold Nh;by_cases e:j=Ay p k
    ·rw[if_pos e,if_pos e,e];grind
    rw[if_neg e,if_neg e]
   have z:con F H (p,k)=F.s p*H.s k:=by unfold con;rw[if_neg a8]
   refine G.eqAgg 77 #[.int .i64 p.1,.string (mkS p.2)] #[.int .i64 k.1,.string (mkS k.2)] false kV kV kV (fun w=>by rw[<-decide_eq_false a8];exact Bq.eq p k w)<|G.f 124 I 0 2 5<|G.lM none I (0+5) (.map (some g2)) (Bmy (by rw[Ad _ _ jb];exact Z))<|G.c call102 (Brm p k) ?_;rintro v7 u7 l7 rfl;refine G.callG _ _ kV kV call101 (g:=g2) (o:=oi) (by rw[Ad _ _ j2];exact ab)
    (Bk5 (a:=Ay p k) (iR.mf (l9.trans l7)) (r9.mono l7) (by have:=ok.con (p,k);rw[z]at this;exact this) (ok.acc P a5 _) (by
     have:=ok.acc (P++[(p,k)]) W (Ay p k);rw[Jt,if_pos rfl,z]at this;rw[show F.s p*H.s k+(base (Ay p k)+Er F H P (Ay p k))=base (Ay p k)+(F.s p*H.s k+Er F H P (Ay p k)) by grind];exact this)) ?_
   intro v8 u8 o8 l8 r8;refine G.b (iJ (D2++[e2],L2++[(k,_)]) _ _ _ cV ((ad.trans (l9.trans l7)).trans l8)
    ⟨iS',by rw[Ad _ _ (Ne.symm j2),Ab],by rw[Ad _ _ (Ne.symm k2),Ad _ _ k1];exact ac,by rw[Ad _ _ ag,Ad _ _ jb];exact Z,by rw[Ad _ _ ah,Ad _ _ j1];exact aa,P++[(p,k)],W,ai,o8,Ab _ _ _,?_⟩ (by have:=iS'.len;simp at this;dsimp only;simp;omega))
   refine (r8.congr fun j=>?_).up (by simp[A3p]) (A08 _);rw[Jt,z];unfold Nh;by_cases e:j=Ay p k
   ·rw[if_pos e,if_pos e,e];grind
   rw[if_neg e,if_neg e]
  case done2 =>
  intro am;refine G.b (hJ (D++[e],L++[(p,_)]) _ _ _ cV (l6.trans ad) ⟨hS',ac,Z,aa,P,a5,fun x=>?_,oi,ab,iR.up ?_ (A08 _)⟩ (by have:=hS'.len;simp at this;dsimp only;simp;omega))
  ·rw[a4];simp only[A1i,A1h,A2u,A7m,A12];constructor
   ·rintro (h|⟨T,U⟩)
    ·exact⟨.inl h.1,h.2⟩
    obtain⟨y,hy,e'⟩:=A1b.1 U;exact⟨.inr T,A1b.2 ⟨y,iS.sub y hy,e'⟩⟩
   rintro⟨T|T,U⟩
   ·exact .inl ⟨T,U⟩
   obtain⟨y,hy,e'⟩:=A1b.1 U;exact .inr ⟨T,A1b.2 ⟨y,am y hy,e'⟩⟩
  have:=iS.len;simp only[A1d,A3f,A30,A16];omega
 case done1 =>
 intro ay;refine G.lM (some 6) I 0 (.agg #[.bool b2,.slice a2 x2 c2,.bool E,.slice C O K,.map (some g1),.map (some g2)]) (Bln a6)<|G.drop ((PH.mt.upd g1 o1).upd g2 a0) kV (fun g o hg=>?_) ?_
 ·by_cases e:g=g2
  ·subst e;rw[Ab]at hg;cases hg;exact a7
  rw[Ad _ _ e]at hg;by_cases e:g=g1
  ·subst e;rw[Ab]at hg;cases hg;exact X
  rw[Ad _ _ e]at hg;cases hg
 refine G.r (.agg #[.bool b2,.slice a2 x2 c2,.bool E,.slice C O K,.map (some g1),.map (some g2)]) ⟨b2,a2,x2,c2,E,C,O,K,g1,g2,o1,a0,rfl,r5.mono l6,ah,rfl,(bl.mf (l5.trans l6)).up oV (A08 _),(hR.congr fun k=>?_).up ?_ (A08 _)⟩
 ·rw[Amk F H aw (fun p q T U=>(al _).2 ⟨?_,?_⟩) k,V]
  ·rfl
  ·have:p∈lv.map (·.1):=A3m fun h=>T (bq p h);obtain⟨y,hy,e'⟩:=A1b.1 this;exact A1b.2 ⟨y,ay y hy,e'⟩
  exact A3m fun h=>U (br q h)
 have T:=hS.len;have U:L.length*lw.length<=N*M:=A25 oV bp;omega
def Bt (p:Par×Rat):Value:=.agg #[.int .i64 p.1.1,.string (mkS p.1.2),.string (mkS (Ae p.2))]
def D8 (x:(Par×Par)×Rat):Value:=.agg #[.int .i64 x.1.1.1,.string (mkS x.1.1.2),.int .i64 x.1.2.1,.string (mkS x.1.2.2),.string (mkS (Ae x.2))]
def No (u:PH)(v:Value)(F:CF)(K:Nat):Prop :=
 ∃ (T:List (Par×Rat)) (Q:List ((Par×Par)×Rat)) (a1:Option Addr) (c1:Nat) (a2:Option Addr) (c2:Nat),v=.agg #[.string (mkS (Ae F.c)),.slice a1 T.length c1,.slice a2 Q.length c2] /\
  Ac u (.slice a1 T.length c1) 3 (T.map Bt)/\Ac u (.slice a2 Q.length c2) 5 (Q.map D8)/\Can Bk F.s T/\Can Oc F.t Q/\T.length<=K/\Q.length<=K
def No.mono {u g:PH}{v:Value}{F:CF}{K:Nat}(h:No u v F K)(d:PH.le u g):No g v F K:=by
 obtain⟨T,Q,j,n,m,t,e,z,C,E⟩:=h;exact⟨T,Q,j,n,m,t,e,z.mono d,C.mono d,E⟩
section
open Go.RowKit Go.MapKept Go.Shelf
variable {D:List MapEntry}{clock g it:Nat}{e:MapEntry}{es:Array MapEntry}
section
variable {F:Fence} {n:Nat} {P:Program} [A6 P] {w:World} {ops:Array Oper} {rest:List Oper} {o:Oper} {a:Act} {Q:Exit->Act->World->Prop}
def Bhp (v:o.guard=none)(x:Operand)(t m et:TypeId)(d:o.op=Op.range t x)(E:P.underlying t=some (.map m et))(g:Nat)(es:Array MapEntry)(clock:Nat)(H:a.eval x=.map (some g))(z:w.heap[g]?=some (.map es clock))
 (u:wpListIn F n P ops Q rest (a.put o.dst (.pointer (some ⟨w.heap.size,0,none⟩))) (w.alloc (.mapIter (some g) clock (Ar []) clock))):wpListIn F n P ops Q (o::rest) a w:=by
 refine wpListIn_plain v fun I h=>?_;have C:=run_range_map (P:=P) w t m et g es clock E z;unfold Oper.wpIn;refine⟨by simp[Oper.about,d],?_⟩;rw[Oper.semAt_plain F _ _ (by rw[d];intro c j;cases j)];simp only[execOp,d,H];simp only[Sem.run_bind,C,Result.andThen_ok];exact h _ _ u
def Bht (L:o.guard=none)(x:Operand)(d:o.op=Op.next x false)(it g:Nat)(es:Array MapEntry)(clock:Nat)(D:List MapEntry)(I:a.eval x=.pointer (some ⟨it,0,none⟩))(hi:w.heap[it]?=some (.mapIter (some g) clock (Ar D) clock))(N:w.heap[g]?=some (.map es clock))(H:Stamped es clock)(C:Vo es D)
 (h0:D.Perm es.toList->wpListIn F n P ops Q rest (a.put o.dst (.tuple #[.bool false])) w)
 (K:∀ e z,e∈es.toList->Vo es (D++[e])->z.heap[it]?=some (.mapIter (some g) clock (Ar (D++[e])) clock)->w.grownBy z (some it)->wpListIn F n P ops Q rest (a.put o.dst (.tuple #[.bool true,e.key,e.val])) z):wpListIn F n P ops Q (o::rest) a w:=by
 refine wpListIn_plain L fun R j=>?_;unfold Oper.wpIn;refine⟨by simp[Oper.about,d],?_⟩;rw[Oper.semAt_plain F _ _ (by rw[d];intro c m;cases m)];rcases Amu (P:=P) o.type hi N H with ⟨J,v⟩|⟨e,E,O,h,v⟩
 ·simp only[execOp,d,I];simp only[Sem.run_bind,v,Result.andThen_ok];exact j _ _ (h0 (Aoo H C J))
 simp only[execOp,d,I];simp only[Sem.run_bind,v,Result.andThen_ok];have t:O.heap=w.heap:=by rcases h with rfl|rfl<;>rfl
 refine j _ _ (K e _ (mem_left E).1 (C.snoc E) ?_ ⟨?_,?_,?_,?_,fun k T u=>?_⟩)
 ·exact Aay (o:=.mapIter (some g) clock (Ar D) clock) (by rw[t];exact hi)
 ·rcases h with rfl|rfl<;>rfl
 ·rcases h with rfl|rfl<;>rfl
 ·rcases h with rfl|rfl<;>rfl
 ·rw[Amy,t];exact A08 _
 rw[V0 (fun e=>u (by rw[e])),t]
def Bj6 (hi:w.heap[it]?=some (.mapIter (some g) clock (Ar (D++[e])) clock))(m:w.heap[g]?=some (.map es clock))(t:Stamped es clock)(h:e∈es.toList) :
 (Instr.entry (.pointer (some ⟨it,0,none⟩))).run P w=.ok (.tuple #[e.key,e.val]) w:=by
 have d:(Ar (D++[e])).back?=some e.born:=by simp[Ar]
 have j:es.find? (fun x=>x.born==e.born)=some e:=by rw[<-Array.find?_toList];exact find_born e es.toList t.2.1 h
 simp only[Instr.entry,getObj,Sem.run_bind,Sem.run,hi,m,Result.andThen,d,bne_self_eq_false,A4z,if_false,j];rfl
end
def Bje (es:Array MapEntry)(it:Nat)(w:World):Nat:=match w.heap[it]? with|some (.mapIter _ _ seen _)=>es.size-seen.size|_=>0
def Biv {w:World}(h:w.heap[it]?=some (.mapIter (some g) clock (Ar D) clock)):Bje es it w=es.size-D.length:=by
 unfold Bje;rw[h];simp[Ar]
def Vo.lt (h:Vo es (D++[e])):D.length<es.size:=by
 have:=Ym (·.born) h.nod h.sub;simp at this;omega
end
section
open Go.RowKit Go.MapKept Go.Shelf
set_option maxRecDepth 100000 in
theorem Brj (n l Bm g:Nat)(es:Array MapEntry)(clock:Nat)(lk:List ((Par×Par)×Value))(J:List (Par×Par)->World->Prop)(hs:Stamped es clock)(hkv:es.toList.map (fun e=>(e.key,e.val))=lk.map (fun p=>(prV p.1,p.2)))(hnd:(lk.map (·.1)).Nodup)
 (hY:∀ pre x W,J pre W->pre.length<lk.length->YieldAt Fence.wide (n-1) prog l #[prV x] W fun e W'=>e=.returned (.bool true)/\J (pre++[x]) W'/\KeepsWalks W W')
 (W:World) (hJ:AbidesFrom W.heap.size J) (hm:W.cell? ⟨Bm,0,none⟩=some (.map (some g))) (hg:W.heap[g]?=some (.map es clock)) (h0:J [] W) :
 CallsIn Fence.wide n prog 168 #[.func (.yield l) #[] #[],.pointer (some ⟨Bm,0,none⟩)] W fun e W'=>(∃ v,e=.returned v)/\∃ ss:List (Par×Par),(ss.Nodup/\∀ k,k∈ss↔k∈lk.map (·.1))/\J ss W':=by
 have mixed:prog.follows .mixedOrders=true:=kV
 refine callsIn_of_wp func168 rfl trivial ?_ rfl;simp only[ntmps168,A7s,A3f,A30,Nat.reduceAdd,Nat.reduceSub,Array.replicate_succ,Array.replicate_zero,List.push_toArray,List.append_toArray,A3q,A4x]
 gi_wp2_with (first
  |(gi_at_range;refine Bhp rfl _ 122 166 120 rfl kV g es clock rfl hg ?_)
  |gi_in)
 go_frame
 gi_loopw [3] (fun _ wr=>∃ (D:List MapEntry) (L:List ((Par×Par)×Value)),wr.heap[W.heap.size]?=some (.mapIter (some g) clock (Ar D) clock)/\Gj prV es lk D L/\wr.heap[g]?=some (.map es clock)/\W.heap.size<=wr.heap.size/\J (L.map (·.1)) wr)
  (fun _ wr=>Bje es W.heap.size wr)
 case atStart =>
  refine⟨[],[],Cn _ _,Gj.nil _ _,by rw[Aq _ _ (Aw hg)];exact hg,by rw[B6];omega,?_⟩;exact hJ [] W _ none h0 ⟨rfl,rfl,rfl,by rw[B6];omega,fun k hk _=>Aq _ _ hk⟩ (fun r e=>by cases e)
 case round =>
  obtain⟨D,L,hit,hS,hgr,hsz,hJs⟩:=hrel
  gi_wp2_with (first
   |(gi_at_next;refine Bht rfl _ rfl W.heap.size g es clock D rfl hit hgr hs hS.it ?_ ?_)
   |gi_in)
  ·intro hp
   gi_wp2
   go_end0
   have hall:=hS.all Bhr.inj hkv hp;exact⟨⟨_,rfl⟩,L.map (·.1),⟨hS.nod,fun k=>⟨fun h=>by
    obtain⟨y,hy,rfl⟩:=A1b.1 h;exact A1b.2 ⟨y,hS.sub y hy,rfl⟩,fun h=>by
    obtain⟨y,hy,rfl⟩:=A1b.1 h;exact A1b.2 ⟨y,hall y hy,rfl⟩⟩⟩,hJs⟩
  ·intro e w2 he0 hi hit2 hgb;have he:e∈es.toList:=by simpa using he0
   obtain⟨p,hp,hek,hev,hnew,hS'⟩:=hS.snoc Bhr.inj hkv hnd he hi;have hgw2:w2.heap[g]?=some (.map es clock):=(hgb.block g (Aw hgr) (fun e=>by cases e;rw[hit]at hgr;cases hgr)).trans hgr;have hen:=Bj6 (P:=prog) hit2 hgw2 hs he;rw[hek,hev,show prV p.1=.agg #[.int .i64 p.1.1.1,.string (mkS p.1.1.2),.int .i64 p.1.2.1,.string (mkS p.1.2.2)] from rfl]at hen⊢;have hl2:=Aw hit2;have hlen:=hS'.len;simp only[A1d,A3f,A30]at hlen;have hJ2:J (L.map (·.1)) w2:=hJ _ wr w2 (some W.heap.size) hJs hgb (fun r e=>by cases e;exact⟨A08 _,_,hit,rfl⟩);have hJ3:J (L.map (·.1)) (w2.alloc (.cells #[.int .i64 p.1.1.1,.string (mkS p.1.1.2),.int .i64 p.1.2.1,.string (mkS p.1.2.2)] 166)):=hJ _ w2 _ none hJ2 ⟨rfl,rfl,rfl,by rw[B6];omega,fun k hk _=>Aq _ _ hk⟩ (fun r e=>by cases e);have hS2:w2.heap.size≥W.heap.size:=A04 hsz hgb.size;obtain⟨fn,tmps,assign,body,hy,hR⟩:=hY (L.map (·.1)) p.1 _ hJ3 (by rw[A03];omega);have hy':(Instr.yield l #[.agg #[.int .i64 p.1.1.1,.string (mkS p.1.1.2),.int .i64 p.1.2.1,.string (mkS p.1.2.2)]]).run prog (w2.alloc (.cells #[.int .i64 p.1.1.1,.string (mkS p.1.1.2),.int .i64 p.1.2.1,.string (mkS p.1.2.2)] 166))=.ok (.round l fn tmps assign body) (w2.alloc (.cells #[.int .i64 p.1.1.1,.string (mkS p.1.1.2),.int .i64 p.1.2.1,.string (mkS p.1.2.2)] 166)):=hy;have hit3:∀ W3,KeepsWalks (w2.alloc (.cells #[.int .i64 p.1.1.1,.string (mkS p.1.1.2),.int .i64 p.1.2.1,.string (mkS p.1.2.2)] 166)) W3->W3.heap[W.heap.size]?=some (.mapIter (some g) clock (Ar (D++[e])) clock)/\W3.heap[g]?=some (.map es clock)/\W.heap.size<=W3.heap.size:=fun W3 hk =>
    ⟨hk.same _ _ (by rw[Aq _ _ hl2];exact hit2) rfl,hk.same _ _ (by rw[Aq _ _ (Aw hgw2)];exact hgw2) rfl,by have:=hk.size;rw[B6]at this;omega⟩
   have hHold:(∀ W3,J (L.map (·.1)++[p.1]) W3->KeepsWalks (w2.alloc (.cells #[.int .i64 p.1.1.1,.string (mkS p.1.1.2),.int .i64 p.1.2.1,.string (mkS p.1.2.2)] 166)) W3 ->
    (∃ (D:List MapEntry) (L:List ((Par×Par)×Value)),W3.heap[W.heap.size]?=some (.mapIter (some g) clock (Ar D) clock)/\Gj prV es lk D L/\W3.heap[g]?=some (.map es clock)/\W.heap.size<=W3.heap.size/\J (L.map (·.1)) W3)/\Bje es W.heap.size W3<Bje es W.heap.size wr):=fun W3 hJ4 hk4=>by
    obtain⟨a1,a2,a3⟩:=hit3 W3 hk4;refine⟨⟨D++[e],L++[p],a1,hS',a2,a3,by rw[A1i];exact hJ4⟩,?_⟩;rw[Biv a1,Biv hit];have:=hi.lt;simp;omega
   have hHold:=Lib.hid hHold;clear hS' hS hJs hit hy hJ3 hJ2 hit3 hlen hi hgb hnew hp hY hJ
   gi_wp2
   refine⟨fun h=>(by cases h),hR.mono ?_⟩;rintro e3 W3 ⟨rfl,hJ4,hk4⟩;have hfin:=hHold.out W3 hJ4 hk4;clear hHold hJ4 hk4
   gi_wp2
   exact hfin
end
end Go.Proofs.YtnjlhkppabfebaaGreatDoor
