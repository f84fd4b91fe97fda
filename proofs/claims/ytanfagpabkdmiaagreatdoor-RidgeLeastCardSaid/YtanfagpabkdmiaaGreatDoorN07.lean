/- Parts of one proof, joined by a program. -/
import Derived.Test.YtanfagpabkdmiaaGreatDoorN06
import Derived.Laws.StructEq
import Derived.RangeFuncSeq
import Derived.RangeFuncGives
import Derived.Maps.AppendAt
import Derived.Shelf.Abstract
import Derived.Shelf.AbstractIn
import Derived.Sort.MapsRangeIn
import Derived.WalkKit
import Derived.OwnWalkIn
import Derived.TacticsInMore
import Derived.RegionIn
import Derived.LoopNIn
import Derived.LoopIn
import Derived.Shelf.SlIter.Collect
import Derived.Shelf.SlSortCmp.WholeK
import Derived.Ground.SlsfProg
import Derived.Test.YtanfagpabkdmiaaGreatDoorProg
import Derived.Shelf.SlSortCmp.NoneTotal
set_option linter.unusedVariables false
set_option linter.unusedSimpArgs false
set_option linter.unusedSectionVars false
set_option maxHeartbeats 16000000
namespace Go.Proofs.YtanfagpabkdmiaaGreatDoor
open Go.Proofs.Tryz
open Go.RowKit Go.MapKept
open _root_.Array renaming eq_empty_of_size_eq_zero -> A47, forIn_toList -> Baw, mk.injEq -> A3z
open Bool renaming and_eq_true -> A05, eq_false_iff -> Ba7, false_eq_true -> A3c, not_eq_true' -> A21, not_true -> A56, or_eq_true -> A3o
open Instr renaming checkKey -> A43, entry -> Bcw, next -> Bbv, sameBits -> A4e
open Int renaming lt_trichotomy -> A4f, ofNat_le -> Bav
open List renaming all_eq_true -> A08, cons.injEq -> A18, cons_append -> A39, forIn_cons -> A9m, forIn_nil -> A90, getElem?_eq_getElem -> A0n, getElem?_eq_some_iff -> A0s, getElem?_map -> A0v, getElem_inj -> A9b, getElem_map -> A4r, getElem_mem -> A04, getElem_of_mem -> A19, getElem_take -> A4t, length_cons -> A2n, length_map -> A0p, length_take -> A00, map_append -> A07, map_cons -> A1y, map_nil -> A5o, mem_append -> A01, mem_cons -> A02, mem_cons_of_mem -> A1w, mem_map -> A0u, mem_of_getElem? -> A1b, mem_singleton -> A1t, nodup_append -> A3w, nodup_cons -> A3p, pairwise_cons -> A8r, pairwise_iff_getElem -> A3q, take_add_one -> A1c, take_length -> A1k
open Nat renaming div_le_self -> A3v, eq_of_beq_eq_true -> A1h, le_refl -> A0w, le_trans -> A0q, lt_of_le_of_lt -> A2q, zero_le -> A1m
open Option renaming some.injEq -> A0t
open Prod renaming ext -> A7x, mk.injEq -> A1r
open Rat renaming divInt -> A2m, divInt_eq_div -> A4h, num_eq_zero -> A6z
open Result renaming andThen -> A6j, andThen_ok -> A0y
open Sem renaming run -> A9y, run_bind -> A1n, run_pure -> A3g
open UInt8 renaming lt_iff_toNat_lt -> A9z
open Value renaming agg.injEq -> A33, cells -> A1e, int -> A15, int.injEq -> A8b, string.injEq -> A8s
section
variable {D:List MapEntry}{clock g:Nat}{env:Operand->Value}{es:Array MapEntry}{o o':Obj}
variable [Cc]
open Go.MapKept
inductive Km where
 |other
 |mk
 |look (t:Option TypeDesc) (x k:Value) (ok:Bool)
 |put (t:Option TypeDesc) (x k v:Value)
 |range (t:Option TypeDesc) (x:Value)
 |next (it:Value)
 |entry (it:Value)
def Kj (P:Program)(env:Operand->Value):Op->Km
 |.makeMap _ none=>.mk
 |.lookup t x i ok=>.look (P.underlying t) (env x) (env i) ok
 |.mapUpdate t x k v=>.put (P.underlying t) (env x) (env k) (env v)
 |.insert t x k v=>.put (P.underlying t) (env x) (env k) (env v)
 |.range t x=>.range (P.underlying t) (env x)
 |.next it false=>.next (env it)
 |.entry it=>.entry (env it)
 |_=>.other
def Kn (P:Program)(st:List KI×S):Km :=
 match st.1 with
 |.reg _ ops _ (i::_)::_=>match ops[i]? with
  |some o=>match Fw st.2 o&&(Ko st.2 o.op&&Ls o.op) with
   |true=>match gv st.2 ops o with
    |some true=>Kj P (Kg st.2) o.op
    |_=>.other
   |false=>.other
  |none=>.other
 |_=>.other
def R8:Obj->Bool
 |.cells ..=>false
 |_=>true
section good
variable {u m:PH} {w:World}
def Qu (w:World)(g:Nat)(o:Obj):World:={ w with heap:=w.heap.setIfInBounds g o }
theorem Uo (h:w.heap[g]?=some o):(Qu w g o').heap[g]?=some o':=by
 show (w.heap.setIfInBounds g o')[g]?=_;rw[Array.getElem?_setIfInBounds_self];simp[Bw h]
theorem Qx {g k:Nat}(h:k≠g):(Qu w g o').heap[k]?=w.heap[k]?:=by
 show (w.heap.setIfInBounds g o')[k]?=_;rw[Array.getElem?_setIfInBounds_ne (fun e=>h e.symm)]
theorem Af6 (g:Nat)(o':Obj):(Qu w g o').heap.size=w.heap.size:=by show (w.heap.setIfInBounds g o').size=_;simp
theorem Bx.setO (h : Bx u m w)   (hg : m g = some o) (hn : R8 o' = true) : Bx u (m.upd g o') (Qu w g o') ∧ Bz u m w u (m.upd g o') (Qu w g o') := by
  have hb := h.pm g _ hg
  have hug : u g = none := by rcases h.ap g with e | e
                              · exact e
                              · rw [hg] at e; cases e
  refine ⟨⟨fun k o hk => ?_, fun k o hk => ?_, fun k => ?_, fun k cs1 t1 fr1 j z hk hj => ?_⟩, ⟨by rw [Af6]; exact A0w _, fun k hk hm => Qx (fun e => by rw [e, hg] at hm; cases hm), fun _ _ => rfl, fun k hk hm => by rw [Ad _ _ (fun e => by rw [e, hg] at hm; cases hm)]; exact hm, ⟨rfl, rfl⟩, fun _ => ⟨rfl, A0w _⟩⟩⟩
  · rw [Qx (fun e => by rw [e, hug] at hk; cases hk)]; exact h.pu k o hk
  · by_cases e : k = g
    · subst e; rw [Ac] at hk; rw [Uo hb]; exact hk
    · rw [Ad _ _ e] at hk; rw [Qx e]; exact h.pm k o hk
  · by_cases e : k = g
    · subst e; exact .inl hug
    · rw [Ad _ _ e]; exact h.ap k
  · by_cases e : k = g
    · subst e
      rw [Uo hb] at hk
      simp only [A0t] at hk
      subst hk; cases hn
    · rw [Qx e] at hk; exact h.cl k cs1 t1 fr1 j z hk hj
theorem Bx.newO (h:Bx u m w)(hn:R8 o=true):Bx u (m.upd w.heap.size o) (w.alloc o)/\Bz u m w u (m.upd w.heap.size o) (w.alloc o)/\m w.heap.size=none/\u w.heap.size=none:=by
 have hm:m w.heap.size=none:=h.pm.none (A0w _);have hu:u w.heap.size=none:=h.pu.none (A0w _);refine⟨⟨fun g o' hg=>?_,fun g o' hg=>?_,fun g=>?_,fun g cs t fr j z hg hj=>?_⟩,⟨by rw[Br];omega,fun g hg _=>A9 _ _ hg,fun _ _=>rfl,fun g hg hm=>by rw[Ad _ _ oV];exact hm,⟨rfl,rfl⟩,fun _=>⟨rfl,A0w _⟩⟩,hm,hu⟩
 ·rw[A9 _ _ (h.pu.lt hg)];exact h.pu g o' hg
 ·by_cases e:g=w.heap.size
  ·subst e;rw[Ac]at hg;rw[Ca];exact hg
  ·rw[Ad _ _ e]at hg;rw[A9 _ _ (h.pm.lt hg)];exact h.pm g o' hg
 ·by_cases e:g=w.heap.size
  ·subst e;exact .inl hu
  ·rw[Ad _ _ e];exact h.ap g
 ·by_cases e:g=w.heap.size
  ·subst e;rw[Ca]at hg;simp only[A0t]at hg;subst hg;cases hn
  ·have hlt:=Bw hg;rw[Br]at hlt;rw[A9 _ _ oV]at hg;exact h.cl g cs t fr j z hg hj
theorem Bx.drewG (h:Bx u m w):Bz u m w u m w.drew:=⟨A0w _,fun _ _ _=>rfl,fun _ _=>rfl,fun _ _ h=>h,⟨rfl,rfl⟩,fun _=>⟨rfl,Nat.le_succ _⟩⟩
end good
section rules
variable {P:Program} [Ba P] {fn:Func} {Post:B0} {st:List KI×S} {u m:PH}
theorem Sp {V:Km}(h:Kn P st=V)(hV:V≠.other):∃ id ops dr i l k s o,st=(.reg id ops dr (i::l)::k,s)/\ops[i]?=some o/\gv s ops o=some true/\Fw s o=true/\Ko s o.op=true/\Ls o.op=true/\Kj P (Kg s) o.op=V /\
 ∀ v,nx st v=(.reg id ops dr l::k,s.put o.dst (.v v)):=by
 obtain⟨ks,s⟩:=st;unfold Kn at h;simp only at h;split at h
 ·rename_i id ops dr i l k;split at h
  ·rename_i o ho;split at h
   ·rename_i hb;simp only[A05]at hb;split at h
    ·rename_i hg;exact⟨id,ops,dr,i,l,k,s,o,rfl,ho,hg,hb.1,hb.2.1,hb.2.2,h,fun v=>by simp[nx,ho]⟩
    ·exact absurd h.symm hV
   ·exact absurd h.symm hV
  ·exact absurd h.symm hV
 ·exact absurd h.symm hV
def M1:Km->Bool
 |.look ..=>true
 |_=>false
theorem Ab1 {o:Op}{V:Km}(h:Kj P env o=V)(hV:V≠.other)(hl:M1 V=false):D6 o=false:=by
 unfold Kj at h;split at h<;>first|rfl|exact absurd h.symm hV|(rw[<-h]at hl;cases hl)
theorem G.bigX {V:Km}{K:Value->PH->PH->Prop}(h:Kn P (adv P st)=V)(hV:V≠.other/\M1 V=false)(hk:(∀ v u' m',K v u' m'->PH.le m m')\/Tc (adv P st)=true)
 (hr:∀ env (o:Oper),Kj P env o.op=V->∀ w,Bx u m w->D3 P env o w fun v w'=>∃ u' m',Bx u' m' w'/\Bz u m w u' m' w'/\K v u' m')
 (k:∀ v u' m',PH.le u u'->K v u' m'->G P fn Post (nx (adv P st) v) u' m'):G P fn Post st u m:=by
 refine G.stp ?_;obtain⟨id,ops,dr,i,l,kk,s,o,e,ho,hg,hd,hv,hs,hview,hnx⟩:=Sp h hV.1;rw[e]at hk⊢;refine⟨?_⟩;refine Ob.big (K:=K) ho hg hd hv hs (Ab1 hview hV.1 hV.2) (fun v u' m' hK=>?_) (fun w hgd=>hr _ o hview w hgd) (fun v u' m' h1 h2=>?_)
 ·rcases hk with hk|hk
  ·exact .inl (hk v u' m' hK)
  ·exact .inr (Um ho hk)
 ·have:=(k v u' m' h1 h2).out;rw[hnx]at this;exact this
theorem Aff {o:Oper}{w w':World}{K:Value->World->Prop}(h:(execOp env o).run P w=.ok .skip w')(hk:K undef w'):D3 P env o w K:=by
 unfold D3;rw[h];exact hk
theorem G.mapMk (h:Kn P (adv P st)=.mk)(k:∀ g,m g=none->u g=none->G P fn Post (nx (adv P st) (.map (some g))) u (m.upd g (.map #[] 0))):G P fn Post st u m:=by
 refine G.bigX (K:=fun v u' m'=>u'=u/\PH.le m m'/\∃ g,m g=none/\u g=none/\v=.map (some g)/\m'=m.upd g (.map #[] 0)) h (by simp[M1]) (.inl fun v u' m' hk=>hk.2.1) (fun env o hview w hgd=>?_) (fun v' u' m' hle hk=>?_)
 ·obtain⟨dst,opp,type,pos,after,guard⟩:=o;simp only at hview;unfold Kj at hview;split at hview<;>try (cases hview;done)
  obtain⟨g1,g2,g3,g4⟩:=hgd.newO (o:=.map #[] 0) rfl;refine Bq (w':=w.alloc (.map #[] 0)) (v:=.map (some w.heap.size)) ?_ ⟨u,_,g1,g2,rfl,Jw _ g3,w.heap.size,g3,g4,rfl,rfl⟩;simp[execOp,Instr.makeMap,World.alloc_eq]
 ·obtain⟨rfl,_,g,h1,h2,rfl,rfl⟩:=hk;exact k g h1 h2
def U8 (P:Program)(t:TypeId):Option Value:=match P.info? t with|some i=>i.zero|none=>none
theorem U3 {t:TypeId}{z:Value}(h:U8 P t=some z)(w:World):(zeroValue t).run P w=.ok z w:=by
 unfold U8 at h;split at h
 ·rename_i i hi;simp[zeroValue,typeInfo,hi,h]
 ·cases h
variable {κ:Type} [DecidableEq κ] {enc:κ->Value} {kt et:TypeId}
theorem G.mapGet (K:Rr P kt enc)(z:Value)(g:Nat)(o:Obj)(l:List (κ×Value))(a:κ)(ok:Bool)(h:Kn P (adv P st)=.look (some (.map kt et)) (.map (some g)) (enc a) ok)(hz:U8 P et=some z)(hg:u g=some o\/m g=some o)(ho:Ec enc o l)
 (k:G P fn Post (nx (adv P st) (Aem z (Fi a l) ok)) u m):G P fn Post st u m:=by
 refine G.stp ?_;obtain⟨id,ops,dr,i,l',kk,s,o',e,ho',hgv,hd,hv,hs,hview,hnx⟩:=Sp h mV;have k:=k.out;rw[hnx]at k;rw[e];have hal:Ea o'.op=false:=by
  unfold Kj at hview;split at hview<;>first|(cases hview;done)|(rename_i e;rw[e];rfl)
 refine⟨Ob.ask ho' hgv hd hv hs hal (fun w hp=>?_) k⟩;obtain⟨dst,opp,type,pos,after,guard⟩:=o';simp only at hview hp;unfold Kj at hview;split at hview<;>try (cases hview;done)
 rename_i t x i ok';simp only[Km.look.injEq]at hview;obtain⟨h1,h2,h3,rfl⟩:=hview;obtain⟨pu,pm⟩:=hp rfl;have hw:w.heap[g]?=some o:=hg.elim (pu g o) (pm g o);have hr:=Ab5 K h1 (fun w=>U3 hz w) hw ho a ok';simp only[execOp,h2,h3];simp[hr]
theorem G.mapHas (K:Rr P kt enc)(z:Value)(g:Nat)(o:Obj)(l:List (κ×Value))(a:κ)(x:Value)(h:Kn P (adv P st)=.look (some (.map kt et)) (.map (some g)) (enc a) true)(hz:U8 P et=some z)(hg:u g=some o\/m g=some o)(ho:Ec enc o l)(hx:Fi a l=some x)
 (k:G P fn Post (nx (adv P st) (.tuple #[x,.bool true])) u m):G P fn Post st u m :=
 G.mapGet K z g o l a true h hz hg ho (by rw[hx];exact k)
theorem G.mapNot (K:Rr P kt enc)(z:Value)(g:Nat)(o:Obj)(l:List (κ×Value))(a:κ)(h:Kn P (adv P st)=.look (some (.map kt et)) (.map (some g)) (enc a) true)(hz:U8 P et=some z)(hg:u g=some o\/m g=some o)(ho:Ec enc o l)(hx:Fi a l=none)
 (k:G P fn Post (nx (adv P st) (.tuple #[z,.bool false])) u m):G P fn Post st u m :=
 G.mapGet K z g o l a true h hz hg ho (by rw[hx];exact k)
theorem G.mapPut (K:Rr P kt enc)(g:Nat)(o:Obj)(l:List (κ×Value))(a:κ)(x:Value)(h:Kn P (adv P st)=.put (some (.map kt et)) (.map (some g)) (enc a) x)(hdr:Tc (adv P st)=true)(hg:m g=some o)(ho:Ec enc o l)
 (k:∀ o',Ec enc o' (H5 a x l)->G P fn Post (nx (adv P st) undef) u (m.upd g o')):G P fn Post st u m:=by
 refine G.bigX (K:=fun v u' m'=>u'=u/\v=undef/\∃ o',Ec enc o' (H5 a x l)/\m'=m.upd g o') h (by simp[M1]) (.inr hdr) (fun env o' hview w hgd=>?_) (fun v' u' m' hle hk=>?_)
 ·obtain⟨dst,opp,type,pos,after,guard⟩:=o';simp only at hview;have key:∀ t X A Y,P.underlying t=some (.map kt et)->env X=.map (some g)->env A=enc a->env Y=x->(opp=.mapUpdate t X A Y\/opp=.insert t X A Y)->D3 P env ⟨dst,opp,type,pos,after,guard⟩ w fun v w'=>∃ u' m',Bx u' m' w'/\Bz u m w u' m' w'/\u'=u/\v=undef/\∃ o',Ec enc o' (H5 a x l)/\m'=m.upd g o':=by
   intro t X A Y h1 h2 h3 h4 he;have hw:w.heap[g]?=some o:=hgd.pm g o hg;obtain⟨o',ho',hr⟩:=Ab3 K h1 hw ho a x;have hn:R8 o'=true:=by obtain⟨es,c,rfl,_⟩:=ho';rfl
   obtain⟨g1,g2⟩:=hgd.setO hg hn;refine Aff (w':=Qu w g o') ?_ ⟨u,_,g1,g2,rfl,rfl,o',ho',rfl⟩;rcases he with rfl|rfl
   ·simp only[execOp,h2,h3,h4];simp[hr,Qu]
   ·simp only[execOp,h2,h3,h4];simp[hr,Qu]
  unfold Kj at hview;split at hview<;>try (cases hview;done)
  ·simp only[Km.put.injEq]at hview;obtain⟨h1,h2,h3,h4⟩:=hview;exact key _ _ _ _ h1 h2 h3 h4 (.inl rfl)
  ·simp only[Km.put.injEq]at hview;obtain⟨h1,h2,h3,h4⟩:=hview;exact key _ _ _ _ h1 h2 h3 h4 (.inr rfl)
 ·obtain⟨rfl,rfl,o',h1,rfl⟩:=hk;exact k o' h1
def Ar (D:List MapEntry):Array Nat:=(D.map (·.born)).toArray
structure Qr (es:Array MapEntry)(D:List MapEntry):Prop where
 sub:∀ e∈D,e∈es.toList
 nod:(D.map (·.born)).Nodup
theorem Qr.nil (es:Array MapEntry):Qr es []:=⟨mV,mV⟩
theorem G.mapRange (g:Nat)(es:Array MapEntry)(clock:Nat)(kt et:TypeId)(h:Kn P (adv P st)=.range (some (.map kt et)) (.map (some g)))(hg:u g=some (.map es clock)\/m g=some (.map es clock))
 (k:∀ i,m i=none->u i=none->G P fn Post (nx (adv P st) (.pointer (some ⟨i,0,none⟩))) u (m.upd i (.mapIter (some g) clock (Ar []) clock))):G P fn Post st u m:=by
 refine G.bigX (K:=fun v u' m'=>u'=u/\PH.le m m'/\∃ i,m i=none/\u i=none/\v=.pointer (some ⟨i,0,none⟩)/\m'=m.upd i (.mapIter (some g) clock (Ar []) clock)) h (by simp[M1]) (.inl fun v u' m' hk=>hk.2.1) (fun env o hview w hgd=>?_) (fun v' u' m' hle hk=>?_)
 ·obtain⟨dst,opp,type,pos,after,guard⟩:=o;simp only at hview;unfold Kj at hview;split at hview<;>try (cases hview;done)
  simp only[Km.range.injEq]at hview;obtain⟨h1,h2⟩:=hview;have hw:w.heap[g]?=some (.map es clock):=hg.elim (hgd.pu g _) (hgd.pm g _);obtain⟨g1,g2,g3,g4⟩:=hgd.newO (o:=.mapIter (some g) clock (Ar []) clock) rfl;have hr:=run_range_map (P:=P) w _ kt et g es clock h1 hw;refine Bq (w':=w.alloc (.mapIter (some g) clock (Ar []) clock)) (v:=.pointer (some ⟨w.heap.size,0,none⟩)) ?_ ⟨u,_,g1,g2,rfl,Jw _ g3,w.heap.size,g3,g4,rfl,rfl⟩;simp only[execOp,h2];simp[hr,Ar]
 ·obtain⟨rfl,_,i,h1,h2,rfl,rfl⟩:=hk;exact k i h1 h2
theorem Yf (n:Nat)(hn:0<n)(w:World):∃ j w1,j<n/\(w1=w\/w1=w.drew)/\(choose (.mapNext n)).run P w=.ok j w1:=by
 by_cases hf:n<=1
 ·exact⟨0,w,hn,.inl rfl,by simp[choose,A9y,Question.forced,hf]⟩
 ·exact⟨_,w.drew,Nat.mod_lt _ hn,.inr rfl,by
   simp only[choose,A9y,Question.forced,decide_eq_true_eq,hf,if_false,Question.cut];rfl⟩
theorem Agd {w:World}{it g:Nat}(ty:TypeId)(hi:w.heap[it]?=some (.mapIter (some g) clock (Ar D) clock))(hg:w.heap[g]?=some (.map es clock))(hs:Stamped es clock) :
 ((leftOf es (Ar D)).size=0/\(Bbv (.pointer (some ⟨it,0,none⟩)) false ty).run P w=.ok (.tuple #[.bool false]) w) \/
 ∃ e∈(leftOf es (Ar D)).toList,∃ w1,(w1=w\/w1=w.drew)/\(Bbv (.pointer (some ⟨it,0,none⟩)) false ty).run P w=.ok (.tuple #[.bool true,e.key,e.val]) (Qu w1 it (.mapIter (some g) clock (Ar (D++[e])) clock)):=by
 have e0:(Ar D).push=fun b=>(Ar D).push b:=rfl;have hpush:∀ e:MapEntry,(Ar D).push e.born=Ar (D++[e]):=fun e=>by simp[Ar]
 simp only[Bbv,getObj,A1n,A9y,hi,hg,A6j,next_test_false (Ar D) es clock clock hs.1 (A0w _),A3c,if_false];have hmem:∀ x∈(leftOf es (Ar D)).toList,x.born<clock:=fun x hx=>hs.1 x (mem_left hx).1;have hL:es.filter (fun e=>!(Ar D).contains e.born)=leftOf es (Ar D):=rfl;simp only[hL];generalize leftOf es (Ar D)=L at hmem⊢;have e1:L.filter (fun x=>decide (x.born<clock))=L:=Array.filter_eq_self.2 (fun x hx=>by simpa using hmem x (by simpa using hx));have e2:L.filter (fun x=>decide (x.born≥clock)) = #[]:=by
  rw[Array.filter_eq_empty_iff];intro x hx;have:=hmem x (by simpa using hx);simp;omega
 simp only[e1,e2,Array.append_empty];by_cases h0:L.size=0
 ·left;have:L = #[]:=A47 h0;subst this;refine⟨rfl,?_⟩;simp[choose,A9y,Question.forced]
 ·right;have hne:L.isEmpty=false:=by simp[Array.isEmpty,h0]
  simp only[hne,A3c,if_false,Array.empty_append,Array.size_map];obtain⟨j,w1,hj,hal,hrun⟩:=Yf (P:=P) L.size oV w;refine⟨L[j],mV,w1,hal,?_⟩;have hi1:w1.heap[it]?=some (.mapIter (some g) clock (Ar D) clock):=by rcases hal with rfl|rfl<;>exact hi
  have hset:∀ o':Obj,(setObj it o').run P w1=.ok () (Qu w1 it o'):=fun o'=>by
   simp only[setObj,A9y,hi1,Qu]
  simp only[hrun,Array.getElem?_map,Array.getElem?_eq_getElem hj,Option.map_some,A1n,hset,A6j,hpush];rfl
theorem Mn (D:List MapEntry)(b:Nat):(Ar D).contains b=true↔b∈D.map (·.born):=by
 unfold Ar;simp
theorem Age (hs:Stamped es clock)(hD:Qr es D)(h:(leftOf es (Ar D)).size=0):D.Perm es.toList:=by
 have hnd:es.toList.Nodup:=Kb hs.2.1;have hdd:D.Nodup:=Kb hD.nod;refine (List.perm_ext_iff_of_nodup hdd hnd).2 fun e=>⟨hD.sub e,fun he=>?_⟩;have hem:leftOf es (Ar D) = #[]:=A47 h;have hc:(Ar D).contains e.born=true:=by
  cases hc:(Ar D).contains e.born with
  |true=>rfl
  |false =>
   have:e∈leftOf es (Ar D):=Array.mem_filter.2 ⟨by simpa using he,by rw[hc];rfl⟩;rw[hem]at this;simp at this
 obtain⟨d,hd,hb⟩:=A0u.1 ((Mn D _).1 hc);have h1:=find_born e es.toList hs.2.1 he;have h2:=find_born d es.toList hs.2.1 (hD.sub d hd);rw[hb]at h2;rw[h1]at h2;have h3:=Option.some.inj h2;rw[h3];exact hd
theorem Qr.snoc (h:Qr es D){e:MapEntry}(he:e∈(leftOf es (Ar D)).toList):Qr es (D++[e]):=by
 obtain⟨h1,h2⟩:=mem_left he;refine⟨fun x hx=>?_,?_⟩
 ·simp only[A01,A1t]at hx;rcases hx with hx|rfl
  ·exact h.sub x hx
  ·exact h1
 ·simp only[A07,A1y,A5o];refine A3w.2 ⟨h.nod,mV,fun a ha b hb=>?_⟩;simp only[A1t]at hb;subst hb;rintro rfl;rw[(Mn D _).2 ha]at h2;cases h2
theorem G.mapNext (it g:Nat)(es:Array MapEntry)(clock:Nat)(D:List MapEntry)(h:Kn P (adv P st)=.next (.pointer (some ⟨it,0,none⟩)))(hdr:Tc (adv P st)=true)(hi:m it=some (.mapIter (some g) clock (Ar D) clock))(hg:u g=some (.map es clock)\/m g=some (.map es clock))(hs:Stamped es clock)(hD:Qr es D)
 (k0:D.Perm es.toList->G P fn Post (nx (adv P st) (.tuple #[.bool false])) u m)
 (k1:∀ e,e∈es.toList->Qr es (D++[e])->G P fn Post (nx (adv P st) (.tuple #[.bool true,e.key,e.val])) u (m.upd it (.mapIter (some g) clock (Ar (D++[e])) clock))):G P fn Post st u m:=by
 refine G.bigX (K:=fun v u' m'=>u'=u/\((m'=m/\v=.tuple #[.bool false]/\D.Perm es.toList)\/∃ e,e∈es.toList/\Qr es (D++[e])/\v=.tuple #[.bool true,e.key,e.val]/\m'=m.upd it (.mapIter (some g) clock (Ar (D++[e])) clock))) h (by simp[M1]) (.inr hdr) (fun env o hview w hgd=>?_) (fun v' u' m' hle hk=>?_)
 ·obtain⟨dst,opp,type,pos,after,guard⟩:=o;simp only at hview;unfold Kj at hview;split at hview<;>try (cases hview;done)
  simp only[Km.next.injEq]at hview;have hw:w.heap[g]?=some (.map es clock):=hg.elim (hgd.pu g _) (hgd.pm g _);have hwi:=hgd.pm it _ hi;rcases Agd (P:=P) type hwi hw hs with ⟨h0,hr⟩|⟨e,he,w1,hw1,hr⟩
  ·refine Bq (w':=w) (v:=.tuple #[.bool false]) ?_ ⟨u,m,hgd,Bz.refl _ _ _,rfl,.inl ⟨rfl,rfl,Age hs hD h0⟩⟩;simp only[execOp,hview];simp[hr]
  ·have hgd1:Bx u m w1:=by rcases hw1 with rfl|rfl;exact hgd;exact hgd.drew'
   have hgr1:Bz u m w u m w1:=by rcases hw1 with rfl|rfl;exact Bz.refl _ _ _;exact hgd.drewG
   obtain⟨g1,g2⟩:=hgd1.setO (o':=.mapIter (some g) clock (Ar (D++[e])) clock) hi rfl;refine Bq (w':=Qu w1 it (.mapIter (some g) clock (Ar (D++[e])) clock)) (v:=.tuple #[.bool true,e.key,e.val]) ?_ ⟨u,_,g1,hgr1.trans g2,rfl,.inr ⟨e,(mem_left he).1,hD.snoc he,rfl,rfl⟩⟩;simp only[execOp,hview];simp[hr]
 ·obtain⟨rfl,⟨rfl,rfl,hp⟩|⟨e,h1,h2,rfl,rfl⟩⟩:=hk
  ·exact k0 hp
  ·exact k1 e h1 h2
theorem G.mapEntry (it g:Nat)(es:Array MapEntry)(clock:Nat)(D:List MapEntry)(e:MapEntry)(h:Kn P (adv P st)=.entry (.pointer (some ⟨it,0,none⟩)))(hi:m it=some (.mapIter (some g) clock (Ar (D++[e])) clock))(hg:u g=some (.map es clock)\/m g=some (.map es clock))(hs:Stamped es clock)(he:e∈es.toList)
 (k:G P fn Post (nx (adv P st) (.tuple #[e.key,e.val])) u m):G P fn Post st u m:=by
 refine G.bigX (K:=fun v u' m'=>u'=u/\m'=m/\v=.tuple #[e.key,e.val]) h (by simp[M1]) (.inl fun v u' m' hk=>by rw[hk.2.1];exact PH.le_refl _) (fun env o hview w hgd=>?_) (fun v' u' m' hle hk=>?_)
 ·obtain⟨dst,opp,type,pos,after,guard⟩:=o;simp only at hview;unfold Kj at hview;split at hview<;>try (cases hview;done)
  simp only[Km.entry.injEq]at hview;have hw:w.heap[g]?=some (.map es clock):=hg.elim (hgd.pu g _) (hgd.pm g _);have hwi:=hgd.pm it _ hi;have hb:(Ar (D++[e])).back?=some e.born:=by simp[Ar]
  have hf:es.find? (fun x=>x.born==e.born)=some e:=by rw[<-Array.find?_toList];exact find_born e es.toList hs.2.1 he
  have hr:(Bcw (.pointer (some ⟨it,0,none⟩))).run P w=.ok (.tuple #[e.key,e.val]) w:=by
   simp only[Bcw,getObj,A1n,A9y,hwi,hw,A6j,hb,bne_self_eq_false,A3c,if_false,hf];rfl
  refine Bq (w':=w) ?_ ⟨u,m,hgd,Bz.refl _ _ _,rfl,rfl,rfl⟩;simp only[execOp,hview];simp[hr]
 ·obtain⟨rfl,rfl,rfl⟩:=hk;exact k
end rules
end
section
variable {g:Nat}
variable [Cc]
def Qt (g:Nat)(o:Obj):PH:=PH.mt.upd g o
def PH.del (m:PH)(g:Nat):PH:=fun h=>if h=g then none else m h
theorem Cg (g:Nat)(o:Obj):Qt g o g=some o:=Ac _ _ _
theorem Xq {g h:Nat}(o:Obj)(hn:h≠g):Qt g o h=none:=by unfold Qt;rw[Ad _ _ hn];rfl
theorem Aer {m:PH}{o:Obj}(h:m g=some o):m=(m.del g).or (Qt g o)/\Ki (m.del g) (Qt g o):=by
 constructor
 ·funext k
  by_cases e:k=g
  ·subst e;rw[PH.or_r (by simp[PH.del]),Cg,h]
  ·cases hk:m k with
   |none=>rw[PH.or_r (by simp[PH.del,e,hk]),Xq o e]
   |some p=>rw[PH.or_l (o:=p) (by simp[PH.del,e,hk])]
 ·intro k;by_cases e:k=g
  ·left;simp[PH.del,e]
  ·right;exact Xq o e
theorem Ajw {m:PH}{o:Obj}:(m.del g).or (Qt g o)=m.upd g o:=by
 funext k
 by_cases e:k=g
 ·subst e;rw[PH.or_r (by simp[PH.del]),Cg,Ac]
 ·rw[Ad _ _ e];cases hk:m k with
  |none=>rw[PH.or_r (by simp[PH.del,e,hk]),Xq o e]
  |some p=>rw[PH.or_l (o:=p) (by simp[PH.del,e,hk])]
section
variable {P:Program} [Ba P] {fn:Func} {Post:B0} {st:List KI×S} {u m:PH}
theorem G.callG (f:Nat)(args:List Value){g:Nat}{o:Obj}{R:Value->PH->Obj->Prop}(h:Al P (adv P st)=.call f args)(hdr:Tc (adv P st)=true)(hc:∀ args w,(callFunc f args).run P w=.ok (.enter f args) w)(hg:m g=some o)
 (c:Ai P f args u (Qt g o) (fun v u' m'=>∃ o',m'=Qt g o'/\R v u' o')) (k:∀ v u' o',PH.le u u'->R v u' o'->G P fn Post (nx (adv P st) v) u' (m.upd g o')):G P fn Post st u m:=by
 obtain⟨h1,h2⟩:=Aer hg;refine G.callA f args h hdr hc h1 h2 c ?_;rintro v u' m' hl ⟨o',rfl,hR⟩ _;rw[Ajw];exact k v u' o' hl hR
theorem Ai.giveAll {f:FuncId}{args:List Value}{R:Value->PH->PH->Prop}(c:Ai P f args u PH.mt R):Fn0 P f args u (fun v u'=>∃ u1 m1,PH.le u1 u'/\PH.le m1 u'/\R v u1 m1):=by
 intro w hg;refine Calls.mono (c w hg) fun e w' he=>?_;obtain⟨v,u',m',e1,e2,e3,e4⟩:=he;have hle:PH.le u' (m'.or u'):=fun g o hh=>by
  cases hx:m' g with
  |none=>rw[PH.or_r hx];exact hh
  |some p=>have:=(e2.ap g).resolve_right (by rw[hx];simp);rw[this]at hh;cases hh
 refine⟨v,m'.or u',PH.mt,e1,⟨fun g o hh=>?_,Eb.mt _,fun g=>.inr rfl,fun g cs t fr j z hh hj=>?_⟩,⟨e3.sz,e3.old,fun g hgl=>?_,fun _ _ _=>rfl,e3.io,e3.dr⟩,rfl,u',m',hle,fun g o hh=>PH.or_l hh,e4⟩
 ·cases hx:m' g with
  |none=>rw[PH.or_r hx]at hh;exact e2.pu g o hh
  |some p=>rw[PH.or_l hx]at hh;cases hh;exact e2.pm g _ hx
 ·exact hle g _ (e2.cl g cs t fr j z hh hj)
 ·rw[PH.or_r (e3.ms g hgl rfl)];exact e3.us g hgl
end
abbrev SlI:Type:=Option Addr×Nat×Nat
def E9 {κ:Type}(enc:κ->Value)(R:PH->Value->Rat->Prop)(nz:Bool)(u:PH)(o:Obj)(f:κ->Rat)(N s:Nat):Prop :=
 ∃ l:List (κ×Value),Ec enc o l/\(∀ p∈l,R u p.2 (f p.1)/\(nz=true->f p.1≠0)/\Sz (f p.1) s)/\(∀ k,k∉l.map (·.1)->f k=0)/\l.length<=N
section
variable {κ:Type} [DecidableEq κ] {enc:κ->Value} {R:PH->Value->Rat->Prop} {nz:Bool} {u:PH} {o:Obj} {f:κ->Rat} {N s:Nat}
theorem E9.up {N' s':Nat}(h:E9 enc R nz u o f N s)(hN:N<=N')(hs:s<=s'):E9 enc R nz u o f N' s':=by
 obtain⟨l,h1,h2,h3,h4⟩:=h;exact⟨l,h1,fun p hp=>⟨(h2 p hp).1,(h2 p hp).2.1,(h2 p hp).2.2.mono hs⟩,h3,A0q h4 hN⟩
theorem E9.congr {f':κ->Rat}(h:E9 enc R nz u o f N s)(e:∀ k,f k=f' k):E9 enc R nz u o f' N s:=by
 rw[<-funext e];exact h
theorem E9.empty (s:Nat):E9 enc R nz u (.map #[] 0) (fun _=>0) 0 s:=⟨[],Ec.empty,mV,fun _ _=>rfl,A0w _⟩
theorem Hk {a:κ}:∀ {l:List (κ×Value)} {v:Value},Fi a l=some v->(a,v)∈l
 |(b,w)::l,v,h=>by
  unfold Fi at h;split at h
  ·rename_i e;cases h;rw[e];simp
  ·exact A1w _ (Hk h)
theorem Wo {a:κ}:∀ {l:List (κ×Value)} {v:Value},(l.map (·.1)).Nodup->(a,v)∈l->Fi a l=some v
 |(b,w)::l,v,hn,h=>by
  simp only[A1y,A3p]at hn;unfold Fi;rcases A02.1 h with e|e
  ·cases e;rw[if_pos rfl]
  ·have:a≠b:=fun e'=>hn.1 (by rw[<-e'];exact A0u.2 ⟨_,e,rfl⟩);rw[if_neg this];exact Wo hn.2 e
theorem Ry {a:κ}{x:Value}:∀ {l:List (κ×Value)} {p:κ×Value},(l.map (·.1)).Nodup->p∈H5 a x l->p=(a,x)\/(p∈l/\p.1≠a)
 |[],p,_,h=>by simp[H5]at h;exact .inl h
 |(b,w)::l,p,hn,h=>by
  simp only[A1y,A3p]at hn;unfold H5 at h;split at h
  ·rename_i e;subst e;rcases A02.1 h with h|h
   ·exact .inl h
   ·refine .inr ⟨A1w _ h,fun e'=>hn.1 ?_⟩;rw[<-e'];exact A0u.2 ⟨p,h,rfl⟩
  ·rename_i e;rcases A02.1 h with h|h
   ·subst h;exact .inr ⟨mV,fun e'=>e e'.symm⟩
   ·rcases Ry hn.2 h with h|⟨h,h'⟩
    ·exact .inl h
    ·exact .inr ⟨A1w _ h,h'⟩
theorem Pm {a:κ}{x:Value}{k:κ}:∀ {l:List (κ×Value)},k∈(H5 a x l).map (·.1)↔k=a\/k∈l.map (·.1)
 |[]=>by simp[H5]
 |(b,w)::l=>by
  unfold H5;split
  ·rename_i e;subst e;simp
  ·simp only[A1y,A02,Pm (l:=l)];constructor
   ·rintro (h|h|h)
    ·exact .inr (.inl h)
    ·exact .inl h
    ·exact .inr (.inr h)
   ·rintro (h|h|h)
    ·exact .inr (.inl h)
    ·exact .inl h
    ·exact .inr (.inr h)
theorem Lc {a:κ}{x:Value}:∀ {l:List (κ×Value)},(H5 a x l).length<=l.length+1
 |[]=>by simp[H5]
 |(b,w)::l=>by
  unfold H5;split
  ·simp
  ·have:=Lc (a:=a) (x:=x) (l:=l);simp;omega
def Hb (f:κ->Rat)(a:κ)(q:Rat):κ->Rat:=fun k=>if k=a then q else f k
theorem E9.put {o':Obj}{a:κ}{x:Value}{q:Rat}{l:List (κ×Value)}(ho:Ec enc o l)(h2:∀ p∈l,R u p.2 (f p.1)/\(nz=true->f p.1≠0)/\Sz (f p.1) s)(h3:∀ k,k∉l.map (·.1)->f k=0)(h4:l.length<=N)
 (h':Ec enc o' (H5 a x l)) (hx:R u x q) (hq:nz=true->q≠0) {s':Nat} (hs:Sz q s') (hss:s<=s'):E9 enc R nz u o' (Hb f a q) (N+1) s':=by
 refine⟨_,h',fun p hp=>?_,fun k hk=>?_,A0q Lc oV⟩
 ·unfold Hb;rcases Ry ho.nodup hp with rfl|⟨hp,hne⟩
  ·simp only[if_true];exact⟨hx,hq,hs⟩
  ·rw[if_neg hne];exact⟨(h2 p hp).1,(h2 p hp).2.1,(h2 p hp).2.2.mono hss⟩
 ·rw[Pm,not_or]at hk;unfold Hb;rw[if_neg hk.1];exact h3 k hk.2
end
end
section
variable [Cc]
open Go.MapKept
theorem Pd {α β:Type}(f:α->β):∀ {l:List α} {x y:α},(l.map f).Nodup->x∈l->y∈l->f x=f y->x=y
 |[],_,_,_,h,_,_=>by simp at h
 |a::l,x,y,hn,hx,hy,e=>by
  simp only[A1y,A3p]at hn;rcases A02.1 hx with e0|hx
  ·subst e0;rcases A02.1 hy with e'|hy
   ·exact e'.symm
   ·exact absurd (A0u.2 ⟨y,hy,e.symm⟩) hn.1
  ·rcases A02.1 hy with e'|hy
   ·rw[e']at e;exact absurd (A0u.2 ⟨x,hx,e⟩) hn.1
   ·exact Pd f hn.2 hx hy e
theorem Sc {α β:Type}(f:α->β):∀ {L l:List α},(L.map f).Nodup->(∀ p∈L,p∈l)->L.length<=l.length
 |[],_,_,_=>A1m _
 |a::L,l,hn,hs=>by
  simp only[A1y,A3p]at hn;obtain⟨s,t,rfl⟩:=List.append_of_mem (hs a mV);have:=Sc f (L:=L) (l:=s++t) hn.2 (fun p hp=>by
   have h1:=hs p (by simp[hp]);have hne:p≠a:=fun e=>hn.1 (by rw[<-e];exact A0u.2 ⟨p,hp,rfl⟩);simp only[A01,A02]at h1⊢;rcases h1 with h|h|h
   ·exact .inl h
   ·exact absurd h hne
   ·exact .inr h)
  simp only[List.length_append,A2n]at this⊢;omega
section
variable {κ:Type} [DecidableEq κ] {enc:κ->Value}
structure Eq (enc:κ->Value)(es:Array MapEntry)(l:List (κ×Value))(D:List MapEntry)(L:List (κ×Value)):Prop where
 it:Qr es D
 kv:D.map (fun e=>(e.key,e.val))=L.map (fun p=>(enc p.1,p.2))
 sub:∀ p∈L,p∈l
 nod:(L.map (·.1)).Nodup
theorem Eq.nil (es:Array MapEntry)(l:List (κ×Value)):Eq enc es l [] []:=⟨Qr.nil es,rfl,mV,mV⟩
theorem Eq.snoc (hinj:∀ a b,enc a=enc b->a=b){es:Array MapEntry}{l:List (κ×Value)}{D:List MapEntry}{L:List (κ×Value)}(hl:es.toList.map (fun e=>(e.key,e.val))=l.map (fun p=>(enc p.1,p.2)))(hn:(l.map (·.1)).Nodup)
 (h:Eq enc es l D L) {e:MapEntry} (he:e∈es.toList) (hi:Qr es (D++[e])):∃ p,p∈l/\e.key=enc p.1/\e.val=p.2/\p.1∉L.map (·.1)/\Eq enc es l (D++[e]) (L++[p]):=by
 have h1:(e.key,e.val)∈l.map (fun p=>(enc p.1,p.2)):=by rw[<-hl];exact A0u.2 ⟨e,he,rfl⟩
 obtain⟨p,hp,hpe⟩:=A0u.1 h1;simp only[A1r]at hpe;have hkn:(es.toList.map (·.key)).Nodup:=by
  have e1:es.toList.map (·.key)=(l.map (·.1)).map enc:=by
   have:=congrArg (List.map (·.1)) hl;simpa[Function.comp_def] using this
  rw[e1];exact List.pairwise_map.2 (hn.imp fun hne e'=>hne (hinj _ _ e'))
 have hnew:p.1∉L.map (·.1):=by
  intro hm;obtain⟨q,hq,hqp⟩:=A0u.1 hm;have hqe:q=p:=Pd (·.1) hn (h.sub q hq) hp hqp;subst hqe;have h2:(enc q.1,q.2)∈D.map (fun e=>(e.key,e.val)):=by rw[h.kv];exact A0u.2 ⟨q,hq,rfl⟩
  obtain⟨e',he',hee⟩:=A0u.1 h2;simp only[A1r]at hee;have:e'=e:=Pd (·.key) hkn (h.it.sub e' he') he (hee.1.trans hpe.1);subst this;have:=hi.nod;rw[A07,A3w]at this;exact this.2.2 e'.born (A0u.2 ⟨e',he',rfl⟩) e'.born mV rfl
 refine⟨p,hp,hpe.1.symm,hpe.2.symm,hnew,hi,?_,fun q hq=>?_,?_⟩
 ·rw[A07,A07,h.kv];simp[hpe.1,hpe.2]
 ·rcases A01.1 hq with hq|hq
  ·exact h.sub q hq
  ·simp at hq;subst hq;exact hp
 ·rw[A07,A3w];exact⟨h.nod,mV,fun a ha b hb e'=>hnew (by simp at hb;rw[<-hb,<-e'];exact ha)⟩
theorem Eq.all (hinj:∀ a b,enc a=enc b->a=b){es:Array MapEntry}{l:List (κ×Value)}{D:List MapEntry}{L:List (κ×Value)}(hl:es.toList.map (fun e=>(e.key,e.val))=l.map (fun p=>(enc p.1,p.2)))
 (h:Eq enc es l D L) (hp:D.Perm es.toList):∀ p∈l,p∈L:=by
 intro p hpl;have h1:(enc p.1,p.2)∈es.toList.map (fun e=>(e.key,e.val)):=by rw[hl];exact A0u.2 ⟨p,hpl,rfl⟩
 obtain⟨e,he,hee⟩:=A0u.1 h1;have h2:(e.key,e.val)∈L.map (fun p=>(enc p.1,p.2)):=by rw[<-h.kv];exact A0u.2 ⟨e,hp.mem_iff.2 he,rfl⟩
 obtain⟨q,hq,hqe⟩:=A0u.1 h2;simp only[A1r]at hqe hee;have:q=p:=A7x (hinj _ _ (hqe.1.trans hee.1)) (hqe.2.trans hee.2);subst this;exact hq
theorem Eq.len {es:Array MapEntry}{l:List (κ×Value)}{D:List MapEntry}{L:List (κ×Value)}(h:Eq enc es l D L):L.length<=l.length:=Sc (·.1) h.nod h.sub
end
section rules
variable {P:Program} [Ba P] {fn:Func} {Post:B0} {st:List KI×S} {u m:PH}
variable {κ:Type} [DecidableEq κ] {enc:κ->Value}
theorem G.mapNextL (hinj:∀ a b,enc a=enc b->a=b)(it g:Nat)(es:Array MapEntry)(clock:Nat)(l:List (κ×Value))(D:List MapEntry)(L:List (κ×Value))(h:Kn P (adv P st)=.next (.pointer (some ⟨it,0,none⟩)))(hdr:Tc (adv P st)=true)
 (hi:m it=some (.mapIter (some g) clock (Ar D) clock)) (hg:u g=some (.map es clock)\/m g=some (.map es clock)) (hs:Stamped es clock) (hl:es.toList.map (fun e=>(e.key,e.val))=l.map (fun p=>(enc p.1,p.2))) (hn:(l.map (·.1)).Nodup) (hS:Eq enc es l D L)
 (k0:(∀ p∈l,p∈L)->G P fn Post (nx (adv P st) (.tuple #[.bool false])) u m)
 (k1:∀ p e,p∈l->p.1∉L.map (·.1)->e∈es.toList->e.key=enc p.1->e.val=p.2->Eq enc es l (D++[e]) (L++[p])->G P fn Post (nx (adv P st) (.tuple #[.bool true,enc p.1,p.2])) u (m.upd it (.mapIter (some g) clock (Ar (D++[e])) clock))):G P fn Post st u m:=by
 refine G.mapNext it g es clock D h hdr hi hg hs hS.it (fun hp=>k0 (hS.all hinj hl hp)) (fun e he hi'=>?_);obtain⟨p,h1,h2,h3,h4,h5⟩:=hS.snoc hinj hl hn he hi';rw[h2,h3];exact k1 p e h1 h4 he h2 h3 h5
end rules
end
section
abbrev Par:=Int×List UInt8
theorem Pv:∀ a:List UInt8,Op.bytesLess a a=false
 |[]=>rfl
 |x::a=>by unfold Op.bytesLess;rw[Pv a];simp
theorem Oa:∀ {a b c:List UInt8},Op.bytesLess a b=true->Op.bytesLess b c=true->Op.bytesLess a c=true
 |_,[],_,h,_=>by simp[Op.bytesLess]at h
 |_,_::_,[],_,k=>by simp[Op.bytesLess]at k
 |[],_::_,_::_,_,_=>rfl
 |x::a,y::b,z::c,h,k=>by
  unfold Op.bytesLess at h k⊢;simp only[A3o,decide_eq_true_eq,A05,beq_iff_eq]at h k⊢;rcases h with h|⟨rfl,h⟩
  ·rcases k with k|⟨rfl,k⟩
   ·exact .inl (UInt8.lt_trans h k)
   ·exact .inl h
  ·rcases k with k|⟨rfl,k⟩
   ·exact .inl k
   ·exact .inr ⟨rfl,Oa h k⟩
theorem Wk:∀ {a b:List UInt8},Op.bytesLess a b=false->Op.bytesLess b a=false->a=b
 |[],[],_,_=>rfl
 |[],_::_,h,_=>by simp[Op.bytesLess]at h
 |_::_,[],_,k=>by simp[Op.bytesLess]at k
 |x::a,y::b,h,k=>by
  unfold Op.bytesLess at h k;simp only[Bool.or_eq_false_iff,decide_eq_false_iff_not,Bool.and_eq_false_iff,beq_eq_false_iff_ne]at h k;have hxy:x=y:=by
   rcases Nat.lt_trichotomy x.toNat y.toNat with e|e|e
   ·exact absurd (A9z.2 e) h.1
   ·exact UInt8.toNat_inj.1 e
   ·exact absurd (A9z.2 e) k.1
  subst hxy;have h2:=h.2.resolve_left (fun e=>e rfl);have k2:=k.2.resolve_left (fun e=>e rfl);rw[Wk h2 k2]
def Qp (a b:List UInt8):Int:=if Op.bytesLess a b then -1 else if a=b then 0 else 1
def Na (x y:Int):Int:=if x<y then -1 else if y<x then 1 else 0
def A8 (a b:Par):Int:=if Na a.1 b.1≠0 then Na a.1 b.1 else Qp a.2 b.2
def Lg (a b:Par×Par):Int:=if A8 a.1 b.1≠0 then A8 a.1 b.1 else A8 a.2 b.2
structure Ord {κ:Type}(c:κ->κ->Int):Prop where
 refl:∀ a,c a a=0
 eq:∀ a b,c a b=0->a=b
 sym:∀ a b,c a b<0↔0<c b a
 trans:∀ a b d,c a b<0->c b d<0->c a d<0
theorem Apz:Ord Qp:=by
 refine⟨fun a=>by simp[Qp,Pv],fun a b h=>?_,fun a b=>?_,fun a b d h k=>?_⟩
 ·unfold Qp at h;split at h
  ·cases h
  ·split at h
   ·assumption
   ·cases h
 ·unfold Qp;by_cases h:Op.bytesLess a b=true
  ·rw[if_pos h];have h2:¬ (Op.bytesLess b a=true):=fun k=>by have:=Oa h k;rw[Pv]at this;cases this
   have h3:¬ (b=a):=fun e=>by rw[e,Pv]at h;cases h
   rw[if_neg h2,if_neg h3];omega
  ·rw[if_neg h];constructor
   ·intro k;split at k<;>omega
   ·intro k;by_cases h2:Op.bytesLess b a=true
    ·rw[if_pos h2]at k;omega
    ·rw[if_neg h2]at k;have:=Wk (Ba7.2 h2) (Ba7.2 h);rw[if_pos this]at k;omega
 ·have h1:Op.bytesLess a b=true:=by
   unfold Qp at h;split at h
   ·assumption
   ·split at h<;>omega
  have k1:Op.bytesLess b d=true:=by
   unfold Qp at k;split at k
   ·assumption
   ·split at k<;>omega
  unfold Qp;rw[if_pos (Oa h1 k1)];omega
theorem Apy:Ord Na:=by
 refine⟨fun a=>by simp[Na],fun a b h=>?_,fun a b=>?_,fun a b d h k=>?_⟩;all_goals unfold Na at *
 ·split at h<;>(try split at h)<;>omega
 ·split<;>split<;>(try split)<;>omega
 ·split at h<;>split at k<;>(try split at h)<;>(try split at k)<;>split<;>(try split)<;>omega
theorem Ord.lex {α β:Type}{c:α->α->Int}{d:β->β->Int}(h:Ord c)(k:Ord d):Ord (fun (a b:α×β)=>if c a.1 b.1≠0 then c a.1 b.1 else d a.2 b.2):=by
 refine⟨fun a=>by simp[h.refl,k.refl],fun a b e=>?_,fun a b=>?_,fun a b x e f=>?_⟩
 ·by_cases h0:c a.1 b.1=0
  ·simp only[h0,ne_eq,not_true,if_false]at e;exact A7x (h.eq _ _ h0) (k.eq _ _ e)
  ·simp only[h0,ne_eq,not_false_eq_true,if_true]at e
 ·have h1:=h.sym a.1 b.1;have h2:=h.sym b.1 a.1;by_cases h0:c a.1 b.1=0
  ·have e:=h.eq _ _ h0;have h3:c b.1 a.1=0:=by rw[<-e];exact h.refl _
   simp only[h0,h3,ne_eq,not_true,if_false];exact k.sym _ _
  ·have h3:c b.1 a.1≠0:=fun h4=>h0 (by rw[h.eq _ _ h4];exact h.refl _);simp only[h0,h3,ne_eq,not_false_eq_true,if_true];exact h1
 ·have g:∀ y z:α×β,(if c y.1 z.1≠0 then c y.1 z.1 else d y.2 z.2)<0↔(c y.1 z.1<0\/(y.1=z.1/\d y.2 z.2<0)):=fun y z=>by
   by_cases h0:c y.1 z.1=0
   ·have e:=h.eq _ _ h0;simp only[h0,ne_eq,not_true,if_false];constructor
    ·intro hh;exact .inr ⟨e,hh⟩
    ·rintro (hh|⟨_,hh⟩)
     ·omega
     ·exact hh
   ·simp only[h0,ne_eq,not_false_eq_true,if_true];constructor
    ·intro hh;exact .inl hh
    ·rintro (hh|⟨e',_⟩)
     ·exact hh
     ·exact absurd (by rw[e'];exact h.refl _) h0
  have e':=(g a b).1 e;have f':=(g b x).1 f;refine (g a x).2 ?_;rcases e' with e'|⟨e1,e2⟩
  ·rcases f' with f'|⟨f1,f2⟩
   ·exact .inl (h.trans _ _ _ e' f')
   ·rw[<-f1];exact .inl e'
  ·rcases f' with f'|⟨f1,f2⟩
   ·rw[e1];exact .inl f'
   ·exact .inr ⟨e1.trans f1,k.trans _ _ _ e2 f2⟩
theorem Dp:Ord A8:=Ord.lex Apy Apz
theorem Anq:Ord Lg:=Ord.lex Dp Dp
section
variable {κ:Type} {c:κ->κ->Int}
def Ef (c:κ->κ->Int)(l:List κ):Prop:=l.Pairwise fun a b=>c a b<0
theorem Ord.irr (h:Ord c)(a:κ):¬ c a a<0:=by rw[h.refl];omega
theorem Ys (h:Ord c):∀ {l l':List κ},Ef c l->Ef c l'->(∀ a,a∈l↔a∈l')->l=l'
 |[],[],_,_,_=>rfl
 |[],b::l',_,_,e=>by have:=(e b).2 mV;simp at this
 |a::l,[],_,_,e=>by have:=(e a).1 mV;simp at this
 |a::l,b::l',h1,h2,e=>by
  obtain⟨p1,p2⟩:=A8r.1 h1;obtain⟨q1,q2⟩:=A8r.1 h2;have hab:a=b:=by
   rcases A02.1 ((e a).1 mV) with r|r
   ·exact r
   ·rcases A02.1 ((e b).2 mV) with s|s
    ·exact s.symm
    ·exact absurd (h.trans _ _ _ (p1 b s) (q1 a r)) (h.irr a)
  subst hab
  congr 1
  refine Ys h p2 q2 fun x=>?_;constructor
  ·intro hx;rcases A02.1 ((e x).1 (by simp[hx])) with r|r
   ·subst r;exact absurd (p1 x hx) (h.irr x)
   ·exact r
  ·intro hx;rcases A02.1 ((e x).2 (by simp[hx])) with r|r
   ·subst r;exact absurd (q1 x hx) (h.irr x)
   ·exact r
theorem Ef.nodup (h:Ord c){l:List κ}(hs:Ef c l):l.Nodup:=hs.imp fun hh e=>by rw[e]at hh;exact h.irr _ hh
structure Can (c:κ->κ->Int)(f:κ->Rat)(l:List (κ×Rat)):Prop where
 srt:Ef c (l.map (·.1))
 val:∀ p∈l,p.2=f p.1/\p.2≠0
 out:∀ k,k∉l.map (·.1)->f k=0
end
structure CF where
 c:Rat
 s:Par->Rat
 t:Par×Par->Rat
def Ap (p q:Par):Par×Par:=if 0<A8 p q then (q,p) else (p,q)
theorem Ta (p q:Par):Ap p q=Ap q p:=by
 unfold Ap;have h1:=Dp.sym p q;have h2:=Dp.sym q p;by_cases h:0<A8 p q
 ·rw[if_pos h,if_neg oV]
 ·rw[if_neg h];by_cases h':0<A8 q p
  ·rw[if_pos h']
  ·rw[if_neg h'];have:=Dp.eq p q oV;rw[this]
def CF.zero:CF:=⟨0,fun _=>0,fun _=>0⟩
def CF.add (a b:CF):CF:=⟨a.c+b.c,fun p=>a.s p+b.s p,fun q=>a.t q+b.t q⟩
def CF.scale (k:Rat)(a:CF):CF:=⟨a.c*k,fun p=>a.s p*k,fun q=>a.t q*k⟩
def G3 (a b:CF)(q:Par×Par):Rat:=if 0<A8 q.1 q.2 then 0 else if q.1=q.2 then 2*(a.s q.1*b.s q.1) else a.s q.1*b.s q.2+a.s q.2*b.s q.1
def CF.mul (a b:CF):CF:=⟨a.c*b.c,fun p=>b.s p*a.c+a.s p*b.c,fun q=>b.t q*a.c+a.t q*b.c+G3 a b q⟩
theorem CF.ext' {a b:CF}(h1:a.c=b.c)(h2:∀ p,a.s p=b.s p)(h3:∀ q,a.t q=b.t q):a=b:=by
 cases a;cases b;simp only at h1 h2 h3;rw[h1,funext h2,funext h3]
theorem Acz (a b:CF)(q:Par×Par):G3 a b q=G3 b a q:=by
 unfold G3;split
 ·rfl
 ·split<;>grind
theorem CF.mul_comm (a b:CF):a.mul b=b.mul a:=CF.ext' (by simp only[CF.mul];grind) (fun p=>by simp only[CF.mul];grind) (fun q=>by simp only[CF.mul];rw[Acz];grind)
theorem CF.mul_zero (a:CF):a.mul CF.zero=CF.zero:=by
 refine CF.ext' (by simp only[CF.mul,CF.zero];grind) (fun p=>by simp only[CF.mul,CF.zero];grind) (fun q=>?_);simp only[CF.mul,CF.zero,G3];split
 ·grind
 ·split<;>grind
end
section
variable {F G:CF}{M N d e:Nat}{a b k q r:Rat}
def Dn (d N:Nat)(q:Rat):Prop:=∃ k:Int,q*((12^d:Nat):Rat)=(k:Rat)/\k.natAbs<=N
theorem W7 (d:Nat):0<12^d:=Nat.pow_pos oV
theorem Ao8 (d:Nat):((12^d:Nat):Rat)≠0:=by
 intro h;have h1:((12^d:Nat):Rat)=((0:Nat):Rat):=h;have:=Rat.natCast_inj.1 h1;have:=W7 d;omega
theorem Dn.mono (h:Dn d N q)(hm:N<=M):Dn d M q:=by
 obtain⟨k,h1,h2⟩:=h;exact⟨k,h1,oV⟩
theorem Dn.add (h:Dn d N q)(h':Dn d M r):Dn d (N+M) (q+r):=by
 obtain⟨k,h1,h2⟩:=h;obtain⟨l,k1,k2⟩:=h';exact⟨k+l,by rw[Rat.intCast_add,<-h1,<-k1];grind,oV⟩
theorem Dn.mul (h:Dn d N q)(h':Dn e M r):Dn (d+e) (N*M) (q*r):=by
 obtain⟨k,h1,h2⟩:=h;obtain⟨l,k1,k2⟩:=h';refine⟨k*l,?_,by rw[Int.natAbs_mul];exact Nat.mul_le_mul h2 k2⟩;rw[Rat.intCast_mul,<-h1,<-k1,Nat.pow_add,Rat.natCast_mul];grind
theorem Dn.zero (d N:Nat):Dn d N 0:=⟨0,by rw[Rat.zero_mul];rfl,A1m _⟩
theorem Dn.two (h:Dn d N q):Dn d (2*N) (2*q):=by
 have:=h.add h;rw[show 2*q=q+q by grind,show 2*N=N+N by omega];exact this
theorem Dn.frac (h:Dn d N q):q.num.natAbs<=N/\q.den<=12^d:=by
 obtain⟨k,h1,hk⟩:=h;have hp:=W7 d;have hq:q=A2m k ((12^d:Nat):Int):=by
  rw[A4h,Rat.intCast_natCast,<-h1];have:=Ao8 d;grind
 obtain⟨e1,e2,e3⟩:=Ju (y:=k) (z:=((12^d:Nat):Int)) oV;have hg0:0<Nat.gcd k.natAbs (12^d):=Nat.gcd_pos_of_pos_right _ hp;rw[hq];constructor
 ·rw[e1,Int.natAbs_tdiv];exact A0q (A3v _ _) hk
 ·have h2:((A2m k ((12^d:Nat):Int)).den:Int)<=((12^d:Nat):Int):=by
   rw[e2,show (((12^d:Nat):Int)).natAbs=12^d from rfl,Int.tdiv_eq_ediv_of_nonneg oV,<-Int.natCast_ediv];exact Bav.2 (A3v _ _)
  exact Bav.1 h2
theorem Dn.small (h:Dn d N q)(hd:d<=50)(hN:N<10^100):Ku q=true:=by
 obtain⟨h1,h2⟩:=h.frac;have h3:12^d<=12^50:=Nat.pow_le_pow_right oV hd;have h4:12^50<10^100:=jV
 simp only[Ku,A05,decide_eq_true_eq];exact⟨A2q h1 hN,A2q h2 (A2q h3 h4)⟩
theorem SmR.dn (h:SmR q):Dn 1 108 q:=by
 obtain⟨k,hk,hk2⟩:=h.t12;refine⟨k,?_,hk2⟩;rw[hk,A4h];have:((12^1:Nat):Rat)=((12:Int):Rat):=jV
 rw[this];have:((12:Int):Rat)≠0:=jV
 grind
structure CFD (d N:Nat)(F:CF):Prop where
 c:Dn d N F.c
 s:∀ p,Dn d N (F.s p)
 t:∀ q,Dn d N (F.t q)
theorem CFD.mono {d N M:Nat}{F:CF}(h:CFD d N F)(hm:N<=M):CFD d M F:=⟨h.c.mono hm,fun p=>(h.s p).mono hm,fun q=>(h.t q).mono hm⟩
theorem CFD.add {d N M:Nat}{F G:CF}(h:CFD d N F)(h':CFD d M G):CFD d (N+M) (F.add G):=⟨h.c.add h'.c,fun p=>(h.s p).add (h'.s p),fun q=>(h.t q).add (h'.t q)⟩
theorem CFD.scale (h:CFD d N F)(hk:Dn e M k):CFD (d+e) (N*M) (F.scale k):=⟨h.c.mul hk,fun p=>(h.s p).mul hk,fun q=>(h.t q).mul hk⟩
theorem CFD.mul {d e N M:Nat}{F G:CF}(h:CFD d N F)(h':CFD e M G):CFD (d+e) (4*(N*M)) (F.mul G):=by
 have sw:∀ {q r:Rat},Dn d N q->Dn e M r->Dn (d+e) (N*M) (r*q):=fun {q r} hq hr=>by rw[show r*q=q*r by grind];exact hq.mul hr
 refine⟨(h.c.mul h'.c).mono oV,fun p=>((sw h.c (h'.s p)).add ((h.s p).mul h'.c)).mono oV,fun q=>?_⟩;have e1:=(sw h.c (h'.t q)).add ((h.t q).mul h'.c);have e2:Dn (d+e) (N*M+N*M) (G3 F G q):=by
  unfold G3;split
  ·exact Dn.zero _ _
  ·split
   ·have:=((h.s q.1).mul (h'.s q.1)).two;exact this.mono oV
   ·exact ((h.s q.1).mul (h'.s q.2)).add ((h.s q.2).mul (h'.s q.1))
 exact (e1.add e2).mono oV
def Ang (c:UInt8):Bool:=decide (97<=c.toNat)&&decide (c.toNat<=122)
def Gw (s:List UInt8):Bool:=match s with
 |[]=>false
 |c::l=>Ang c&&l.all (fun x=>Ang x||(decide (x.toNat=45)||(decide (48<=x.toNat)&&decide (x.toNat<=57))))&&decide (s.length<=12)
structure PV (p:Par):Prop where
 lo:-1<=p.1
 hi:p.1<=1000
 cat:p.2 = []\/Gw p.2=true
structure CFV (F:CF):Prop where
 s:∀ p,F.s p≠0->PV p
 t:∀ q,F.t q≠0->PV q.1/\PV q.2/\¬ 0<A8 q.1 q.2
theorem Ez (h:a+b≠0):a≠0\/b≠0:=by
 by_cases ha:a=0
 ·right;rintro rfl;apply h;rw[ha];grind
 ·exact .inl ha
theorem B8 (h:a*b≠0):a≠0/\b≠0:=⟨fun e=>h (by rw[e];grind),fun e=>h (by rw[e];grind)⟩
theorem CFV.add (h:CFV F)(h':CFV G):CFV (F.add G) :=
 ⟨fun p hp=>(Ez hp).elim (h.s p) (h'.s p),fun q hq=>(Ez hq).elim (h.t q) (h'.t q)⟩
theorem CFV.scale (h:CFV F)(k:Rat):CFV (F.scale k):=⟨fun p hp=>h.s p (B8 hp).1,fun q hq=>h.t q (B8 hq).1⟩
theorem CFV.mul (h:CFV F)(h':CFV G):CFV (F.mul G):=by
 refine⟨fun p hp=>(Ez hp).elim (fun e=>h'.s p (B8 e).1) (fun e=>h.s p (B8 e).1),fun q hq=>?_⟩;rcases Ez hq with e|e
 ·exact (Ez e).elim (fun e=>h'.t q (B8 e).1) (fun e=>h.t q (B8 e).1)
 ·unfold G3 at e;split at e
  ·exact absurd rfl e
  ·rename_i hno;split at e
   ·rename_i heq;have:=B8 (B8 e).2;exact⟨h.s _ this.1,by rw[<-heq];exact h.s _ this.1,hno⟩
   ·rcases Ez e with e|e
    ·have:=B8 e;exact⟨h.s _ this.1,h'.s _ this.2,hno⟩
    ·have:=B8 e;exact⟨h'.s _ this.2,h.s _ this.1,hno⟩
theorem CFV.count (k:Rat):CFV ⟨k,fun _=>0,fun _=>0⟩:=⟨fun p h=>absurd rfl h,fun q h=>absurd rfl h⟩
theorem CFD.count (h:Dn d N k):CFD d N ⟨k,fun _=>0,fun _=>0⟩:=⟨h,fun _=>Dn.zero _ _,fun _=>Dn.zero _ _⟩
end
section
variable {F G:CF}{L:List (Par×Par)}{M N d e:Nat}{p q:Par}
structure CFS (F:CF):Prop where
 c:Ku F.c=true
 s:∀ p,Ku (F.s p)=true
 t:∀ q,Ku (F.t q)=true
theorem CFD.cfs (h:CFD d N F)(hd:d<=50)(hN:N<10^100):CFS F:=⟨h.c.small hd hN,fun p=>(h.s p).small hd hN,fun q=>(h.t q).small hd hN⟩
def con (F G:CF)(x:Par×Par):Rat:=if x.1=x.2 then F.s x.1*G.s x.2+F.s x.1*G.s x.2 else F.s x.1*G.s x.2
def Dj (F G:CF):List (Par×Par)->Par×Par->Rat
 |[],_=>0
 |x::L,k=>(if Ap x.1 x.2=k then con F G x else 0)+Dj F G L k
theorem Ht (F G:CF)(x:Par×Par):∀ (L:List (Par×Par)) (k:Par×Par),Dj F G (L++[x]) k=if k=Ap x.1 x.2 then con F G x+Dj F G L k else Dj F G L k
 |[],k=>by
  simp only[List.nil_append,Dj];by_cases h:k=Ap x.1 x.2
  ·rw[if_pos h.symm,if_pos h]
  ·rw[if_neg (fun e=>h e.symm),if_neg h];grind
 |y::L,k=>by
  simp only[A39,Dj];rw[Ht F G x L k];by_cases h:k=Ap x.1 x.2
  ·rw[if_pos h,if_pos h];grind
  ·rw[if_neg h,if_neg h]
def two (F G:CF)(L:List (Par×Par))(k:Par×Par):Rat :=
 if 0<A8 k.1 k.2 then 0 else if k.1=k.2 then (if k∈L then con F G k else 0) else (if k∈L then con F G k else 0)+(if (k.2,k.1)∈L then con F G (k.2,k.1) else 0)
theorem K8 (h:0<A8 p q):Ap p q=(q,p):=by unfold Ap;rw[if_pos h]
theorem Ft (h:¬ 0<A8 p q):Ap p q=(p,q):=by unfold Ap;rw[if_neg h]
theorem Pl (p q:Par):¬ 0<A8 (Ap p q).1 (Ap p q).2:=by
 by_cases h:0<A8 p q
 ·rw[K8 h];intro h';have:=(Dp.sym p q).1;have h1:=(Dp.sym q p).2 h;simp only at h';omega
 ·rw[Ft h];exact h
theorem Ji {p q a b:Par}:Ap p q=(a,b)↔¬ 0<A8 a b/\((p=a/\q=b)\/(p=b/\q=a)):=by
 constructor
 ·intro h;have:=Pl p q;rw[h]at this;refine⟨this,?_⟩;by_cases h':0<A8 p q
  ·rw[K8 h']at h;cases h;exact .inr ⟨rfl,rfl⟩
  ·rw[Ft h']at h;cases h;exact .inl ⟨rfl,rfl⟩
 ·rintro⟨h,⟨rfl,rfl⟩|⟨rfl,rfl⟩⟩
  ·exact Ft h
  ·rw[Ta];exact Ft h
theorem P5 (F G:CF):∀ (L:List (Par×Par)) (k:Par×Par),L.Nodup->Dj F G L k=two F G L k
 |[],k,_=>by
  unfold Dj two;split
  ·rfl
  ·split
   ·simp
   ·simp;grind
 |(p,q)::L,(a,b),hn=>by
  rw[A3p]at hn;unfold Dj;rw[P5 F G L (a,b) hn.2];unfold two;simp only;by_cases h0:0<A8 a b
  ·rw[if_pos h0,if_pos h0,if_neg (fun e=>(Ji.1 e).1 h0)];grind
  ·rw[if_neg h0,if_neg h0];by_cases hab:a=b
   ·subst hab;rw[if_pos rfl,if_pos rfl];by_cases hx:(p,q)=(a,a)
    ·cases hx;rw[if_pos (Ji.2 ⟨h0,.inl ⟨rfl,rfl⟩⟩),if_neg hn.1,if_pos mV];grind
    ·rw[if_neg (fun e=>hx (by rcases (Ji.1 e).2 with ⟨rfl,rfl⟩|⟨rfl,rfl⟩<;>rfl))]
     have:((a,a)∈(p,q)::L)↔(a,a)∈L:=by simp[A02,Ne.symm hx]
     simp only[this];grind
   ·rw[if_neg hab,if_neg hab];by_cases hx:(p,q)=(a,b)
    ·cases hx;rw[if_pos (Ji.2 ⟨h0,.inl ⟨rfl,rfl⟩⟩),if_neg hn.1,if_pos (show (p,q)∈(p,q)::L by simp)];have:((q,p)∈(p,q)::L)↔(q,p)∈L:=by simp[A02,Ne.symm hab]
     simp only[this];grind
    ·by_cases hy:(p,q)=(b,a)
     ·cases hy;rw[if_pos (Ji.2 ⟨h0,.inr ⟨rfl,rfl⟩⟩),if_neg hn.1,if_pos (show (p,q)∈(p,q)::L by simp)];have:((q,p)∈(p,q)::L)↔(q,p)∈L:=by simp[A02,hab]
      simp only[this];grind
     ·rw[if_neg (fun e=>by rcases (Ji.1 e).2 with ⟨rfl,rfl⟩|⟨rfl,rfl⟩;exact hx rfl;exact hy rfl)];have h1:((a,b)∈(p,q)::L)↔(a,b)∈L:=by simp[A02,Ne.symm hx]
      have h2:((b,a)∈(p,q)::L)↔(b,a)∈L:=by simp[A02,Ne.symm hy]
      simp only[h1,h2];grind
theorem Aev (F G:CF)(hn:L.Nodup)(ha:∀ p q,F.s p≠0->G.s q≠0->(p,q)∈L)(k:Par×Par):Dj F G L k=G3 F G k:=by
 rw[P5 F G L k hn];have key:∀ p q:Par,(if (p,q)∈L then con F G (p,q) else 0)=con F G (p,q):=fun p q=>by
  by_cases h:(p,q)∈L
  ·rw[if_pos h]
  ·rw[if_neg h];have:F.s p=0\/G.s q=0:=by
    by_cases h1:F.s p=0
    ·exact .inl h1
    ·by_cases h2:G.s q=0
     ·exact .inr h2
     ·exact absurd (ha p q h1 h2) h
   unfold con;simp only;rcases this with h1|h1<;>rw[h1]<;>split<;>grind
 obtain⟨a,b⟩:=k;unfold two G3;simp only[key];split
 ·rfl
 ·split
  ·rename_i e;subst e;unfold con;simp only[if_true];grind
  ·rename_i e;unfold con;simp only[if_neg e,if_neg (fun e':b=a=>e e'.symm)]
theorem Aht (h:CFD d N F)(h':CFD e M G)(x:Par×Par):Dn (d+e) (2*(N*M)) (con F G x):=by
 unfold con;split
 ·exact (((h.s x.1).mul (h'.s x.2)).add ((h.s x.1).mul (h'.s x.2))).mono oV
 ·exact ((h.s x.1).mul (h'.s x.2)).mono oV
theorem Ag9 (h:CFD d N F)(h':CFD e M G)(hn:L.Nodup)(k:Par×Par):Dn (d+e) (4*(N*M)) (Dj F G L k):=by
 rw[P5 F G L k hn];have h1:∀ x,Dn (d+e) (2*(N*M)) (if x∈L then con F G x else 0):=fun x=>by
  split
  ·exact Aht h h' x
  ·exact Dn.zero _ _
 unfold two;split
 ·exact Dn.zero _ _
 ·split
  ·exact (h1 k).mono oV
  ·exact ((h1 k).add (h1 _)).mono oV
def Bi {κ:Type}[DecidableEq κ](a:κ):List (κ×Rat)->Rat
 |[]=>0
 |(b,q)::l=>if a=b then q else Bi a l
section
variable {κ:Type} [DecidableEq κ]
theorem F9 {a:κ}{q:Rat}:∀ {l:List (κ×Rat)},(l.map (·.1)).Nodup->(a,q)∈l->Bi a l=q
 |(b,r)::l,hn,h=>by
  simp only[A1y,A3p]at hn;unfold Bi;rcases A02.1 h with e|e
  ·cases e;rw[if_pos rfl]
  ·have:a≠b:=fun e'=>hn.1 (by rw[<-e'];exact A0u.2 ⟨_,e,rfl⟩);rw[if_neg this];exact F9 hn.2 e
theorem Kc {a:κ}:∀ {l:List (κ×Rat)},a∉l.map (·.1)->Bi a l=0
 |[],_=>rfl
 |(b,r)::l,h=>by
  simp only[A1y,A02,not_or]at h;unfold Bi;rw[if_neg h.1];exact Kc h.2
theorem Bc8 (a:κ):∀ (l:List (κ×Rat)),Bi a l=0\/∃ q,(a,q)∈l/\Bi a l=q
 |[]=>.inl rfl
 |(b,r)::l=>by
  unfold Bi;split
  ·rename_i e;subst e;exact .inr ⟨r,mV,rfl⟩
  ·rcases Bc8 a l with h|⟨q,h1,h2⟩
   ·exact .inl h
   ·exact .inr ⟨q,by simp[h1],h2⟩
end
end
section
variable {k:IntKind}{o:Nat}{t ti ts:TypeId}{xs:Array Value}
def An (p:Par):Value:=.agg #[.int .i64 p.1,.string (mkS p.2)]
def prV (q:Par×Par):Value:=.agg #[.int .i64 q.1.1,.string (mkS q.1.2),.int .i64 q.2.1,.string (mkS q.2.2)]
def Kk (f:Field):Bool×TypeId×Nat:=(f.name != "_",f.type,f.offset)
section
variable {P:Program}
theorem Hc {v:Value}(h:Jr P t=some false)(hv:xs[o]?=some v)(w:World):(part t xs o).run P w=.ok v w:=by
 simp[part,Dg h,hv]
theorem Cw {n:Nat}(h:Jr P t=some true)(hn:szB P t=some n)(w:World):(part t xs o).run P w=.ok (.agg (xs.extract o (o+n))) w:=by
 simp[part,Dg h,Bf hn]
theorem Ni (h:P.underlying t=some (.int k)):Jr P t=some false:=by unfold Jr;rw[h]
theorem M2 (h:P.underlying t=some .string):Jr P t=some false:=by unfold Jr;rw[h]
theorem Amp (a b:List UInt8):((mkS a).toList==(mkS b).toList)=decide (a=b):=I8 a b
theorem Q9 {A B:Type}{h:A->B}{fs:List A}{x y:B}(hf:fs.map h = [x,y]):∃ f g,fs = [f,g]:=by
 have h0:=congrArg List.length hf;simp only[A0p,A2n,List.length_nil]at h0
 match fs,h0 with
 |[f,g],_=>exact⟨f,g,rfl⟩
theorem Aqx (hf:(P.fieldsOf t).toList.map Kk = [(true,ti,0),(true,ts,1)])(ht:P.underlying t=some (.struct (P.fieldsOf t)))(hp:P.stoodInHeld t=false)(hi:P.underlying ti=some (.int k))(hs:P.underlying ts=some .string)(d:Nat)(a b:Par)(w:World) :
 (Op.equalIn (d+2) t (An a) (An b)).run P w=.ok (decide (a=b)) w:=by
 unfold An;rw[run_equalIn_struct w (d+1) t _ _ ht hp];generalize (P.fieldsOf t).toList=fs at hf;obtain⟨f,g,hfs⟩:=Q9 hf;subst hfs
 ·simp only[A1y,A5o,A18,Kk,A1r,bne_iff_ne,ne_eq,and_true]at hf;obtain⟨⟨n1,rfl,o1⟩,n2,rfl,o2⟩:=hf;obtain⟨a1,a2⟩:=a;obtain⟨b1,b2⟩:=b;simp only[Op.eqFields,ne_eq,n1,n2,not_false_eq_true,if_true,A1n];rw[Hc (Ni hi) (v:=.int .i64 a1) (by rw[o1];rfl),A0y,Hc (Ni hi) (v:=.int .i64 b1) (by rw[o1];rfl),A0y,run_equalIn_int w d _ _ _ _ _ hi,A0y];by_cases e:a1=b1
  ·subst e;simp only[beq_self_eq_true,A56,A3c,if_false,A1n];rw[Hc (M2 hs) (v:=.string (mkS a2)) (by rw[o2];rfl),A0y,Hc (M2 hs) (v:=.string (mkS b2)) (by rw[o2];rfl),A0y,run_equalIn_string w d _ _ _ hs,A0y,Amp];by_cases e2:a2=b2
   ·subst e2;simp
   ·simp[e2]
  ·have:(a1==b1)=false:=by simpa using e
   simp[this,e]
theorem Af7 {t tp ti ts:TypeId}{k:IntKind}(hf:(P.fieldsOf t).toList.map Kk = [(true,tp,0),(true,tp,2)])(ht:P.underlying t=some (.struct (P.fieldsOf t)))(hp:P.stoodInHeld t=false)
 (hf':(P.fieldsOf tp).toList.map Kk = [(true,ti,0),(true,ts,1)]) (ht':P.underlying tp=some (.struct (P.fieldsOf tp))) (hp':P.stoodInHeld tp=false) (hsz:szB P tp=some 2) (hi:P.underlying ti=some (.int k)) (hs:P.underlying ts=some .string) (d:Nat) (a b:Par×Par) (w:World) :
 (Op.equalIn (d+3) t (prV a) (prV b)).run P w=.ok (decide (a=b)) w:=by
 have hag:Jr P tp=some true:=by unfold Jr;rw[ht']
 unfold prV;rw[run_equalIn_struct w (d+2) t _ _ ht hp];generalize (P.fieldsOf t).toList=fs at hf;obtain⟨f,g,hfs⟩:=Q9 hf;subst hfs
 ·simp only[A1y,A5o,A18,Kk,A1r,bne_iff_ne,ne_eq,and_true]at hf;obtain⟨⟨n1,e1,o1⟩,n2,e2,o2⟩:=hf;obtain⟨⟨a1,a2⟩,a3,a4⟩:=a;obtain⟨⟨b1,b2⟩,b3,b4⟩:=b;simp only[Op.eqFields,ne_eq,n1,n2,not_false_eq_true,if_true,A1n,e1,e2,o1,o2];rw[Cw hag hsz,A0y,Cw hag hsz,A0y];have q1:=Aqx hf' ht' hp' hi hs d (a1,a2) (b1,b2) w;have q2:=Aqx hf' ht' hp' hi hs d (a3,a4) (b3,b4) w;unfold An at q1 q2;have x1:(#[A15 .i64 a1,.string (mkS a2),.int .i64 a3,.string (mkS a4)].extract 0 (0+2)) = #[.int .i64 a1,.string (mkS a2)]:=rfl;have x2:(#[A15 .i64 b1,.string (mkS b2),.int .i64 b3,.string (mkS b4)].extract 0 (0+2)) = #[.int .i64 b1,.string (mkS b2)]:=rfl;have x3:(#[A15 .i64 a1,.string (mkS a2),.int .i64 a3,.string (mkS a4)].extract 2 (2+2)) = #[.int .i64 a3,.string (mkS a4)]:=rfl;have x4:(#[A15 .i64 b1,.string (mkS b2),.int .i64 b3,.string (mkS b4)].extract 2 (2+2)) = #[.int .i64 b3,.string (mkS b4)]:=rfl;simp only[x1,x2,q1,A0y];by_cases e:((a1,a2):Par)=(b1,b2)
  ·simp only[e,decide_true,A56,A3c,if_false,A1n];rw[Cw hag hsz,A0y,Cw hag hsz,A0y];simp only[x3,x4,q2,A0y];by_cases e':((a3,a4):Par)=(b3,b4)
   ·simp[e']
   ·simp[e']
  ·simp[e]
theorem O1 (h:(∃ k,P.underlying t=some (.int k))\/P.underlying t=some .string)(e:Bool)(d:Nat)(v:Value)(w:World):(A43 e (d+1) t v).run P w=.ok () w:=by
 unfold A43;rcases h with ⟨k,h⟩|h<;>simp[run_underlying h]
theorem Gp (hf:(P.fieldsOf t).toList.map Kk = [(true,ti,0),(true,ts,1)])(ht:P.underlying t=some (.struct (P.fieldsOf t)))(hi:P.underlying ti=some (.int k))(hs:P.underlying ts=some .string)(e:Bool)(d:Nat)(a:Par)(w:World) :
 (A43 e (d+2) t (An a)).run P w=.ok () w:=by
 unfold An;rw[A43];simp only[A1n,run_underlying ht,A0y];rw[<-Baw];generalize (P.fieldsOf t).toList=fs at hf;obtain⟨f,g,hfs⟩:=Q9 hf;subst hfs
 ·simp only[A1y,A5o,A18,Kk,A1r,bne_iff_ne,ne_eq,and_true]at hf;obtain⟨⟨n1,e1,o1⟩,n2,e2,o2⟩:=hf;simp only[A9m,A90,ne_eq,n1,n2,not_false_eq_true,if_true,A1n,e1,e2,o1,o2];rw[Hc (Ni hi) (v:=.int .i64 a.1) rfl,A0y,O1 (.inl ⟨k,hi⟩)];simp only[A0y,A3g,A1n];rw[Hc (M2 hs) (v:=.string (mkS a.2)) rfl,A0y,O1 (.inr hs)];simp
theorem Aax {t tp ti ts:TypeId}{k:IntKind}(hf:(P.fieldsOf t).toList.map Kk = [(true,tp,0),(true,tp,2)])(ht:P.underlying t=some (.struct (P.fieldsOf t)))
 (hf':(P.fieldsOf tp).toList.map Kk = [(true,ti,0),(true,ts,1)]) (ht':P.underlying tp=some (.struct (P.fieldsOf tp))) (hsz:szB P tp=some 2) (hi:P.underlying ti=some (.int k)) (hs:P.underlying ts=some .string) (e:Bool) (d:Nat) (a:Par×Par) (w:World) :
 (A43 e (d+3) t (prV a)).run P w=.ok () w:=by
 have hag:Jr P tp=some true:=by unfold Jr;rw[ht']
 unfold prV;rw[A43];simp only[A1n,run_underlying ht,A0y];rw[<-Baw];generalize (P.fieldsOf t).toList=fs at hf;obtain⟨f,g,hfs⟩:=Q9 hf;subst hfs
 ·simp only[A1y,A5o,A18,Kk,A1r,bne_iff_ne,ne_eq,and_true]at hf;obtain⟨⟨n1,e1,o1⟩,n2,e2,o2⟩:=hf;have q1:=Gp hf' ht' hi hs e d a.1 w;have q2:=Gp hf' ht' hi hs e d a.2 w;unfold An at q1 q2;simp only[A9m,A90,ne_eq,n1,n2,not_false_eq_true,if_true,A1n,e1,e2,o1,o2];rw[Cw hag hsz,A0y];have x1:(#[A15 .i64 a.1.1,.string (mkS a.1.2),.int .i64 a.2.1,.string (mkS a.2.2)].extract 0 (0+2)) = #[.int .i64 a.1.1,.string (mkS a.1.2)]:=rfl;have x2:(#[A15 .i64 a.1.1,.string (mkS a.1.2),.int .i64 a.2.1,.string (mkS a.2.2)].extract 2 (2+2)) = #[.int .i64 a.2.1,.string (mkS a.2.2)]:=rfl;rw[x1,q1];simp only[A0y,A3g,A1n];rw[Cw hag hsz,A0y,x2,q2];simp
theorem Aij (a b:Par)(h:An a=An b):a=b:=by
 unfold An at h;simp only[A33,A3z,A18,A8b,A8s,true_and,and_true]at h;exact A7x h.1 (Wx.1 h.2)
theorem Adl (a b:Par×Par)(h:prV a=prV b):a=b:=by
 unfold prV at h;simp only[A33,A3z,A18,A8b,A8s,true_and,and_true]at h;exact A7x (A7x h.1 (Wx.1 h.2.1)) (A7x h.2.2.1 (Wx.1 h.2.2.2))
theorem Z4 (d:Nat)(k:IntKind)(z:Int):A4e d (.int k z) (.int k z)=true:=by unfold A4e;simp
theorem Zj (d:Nat)(z:ByteArray):A4e d (.string z) (.string z)=true:=by
 obtain⟨⟨l⟩⟩:=z;have:((⟨⟨l⟩⟩:ByteArray) == ⟨⟨l⟩⟩)=true:=by rw[beq_toListBytes];simp
 unfold A4e;exact this
theorem Ah2 (a:Par):A4e 10000 (An a) (An a)=true:=by
 show A4e (9999+1) _ _=true;unfold An A4e;simp[Z4,Zj]
theorem Adq (a:Par×Par):A4e 10000 (prV a) (prV a)=true:=by
 show A4e (9999+1) _ _=true;unfold prV A4e;simp[Z4,Zj]
end
theorem Bt:Rr prog 79 An :=
 ⟨fun a b w=>Aqx (P:=prog) (t:=79) (ti:=3) (ts:=9) (k:=.i64) kV kV kV kV kV 9998 a b w,
  ⟨_,(by kernel_rfl:prog.underlying 79=some (.struct (prog.fieldsOf 79))),.inl fun _ _=>rfl⟩,
  fun e a w=>Gp (P:=prog) (t:=79) (ti:=3) (ts:=9) (k:=.i64) kV kV kV kV e 9998 a w,Ah2,Aij⟩
theorem Aiy:Rr prog 228 prV :=
 ⟨fun a b w=>Af7 (P:=prog) (t:=228) (tp:=79) (ti:=3) (ts:=9) (k:=.i64) kV kV kV kV kV kV kV kV kV 9997 a b w,
  ⟨_,(by kernel_rfl:prog.underlying 228=some (.struct (prog.fieldsOf 228))),.inl fun _ _=>rfl⟩,
  fun e a w=>Aax (P:=prog) (t:=228) (tp:=79) (ti:=3) (ts:=9) (k:=.i64) kV kV kV kV kV kV kV e 9997 a w,Adq,Adl⟩
end
section
theorem Ake {x y:List UInt8}(h:Op.bytesLess x y=true):Op.bytesLess y x=false:=by
 cases h':Op.bytesLess y x with
 |false=>rfl
 |true=>have:=Oa h h';rw[Pv]at this;cases this
theorem Apo (x y:List UInt8):(!(Op.bytesLess x y||decide (x=y)))=Op.bytesLess y x:=by
 cases h1:Op.bytesLess x y with
 |true=>rw[Ake h1];rfl
 |false =>
  by_cases e:x=y
  ·subst e;rw[h1];simp
  ·cases h2:Op.bytesLess y x with
   |true=>simp[e]
   |false=>exact absurd (Wk h1 h2) e
section rules
variable [Cc] {P:Program} [Ba P] {fn:Func} {Post:B0} {st:List KI×S} {u m:PH}
theorem G.ltS (a b:List UInt8)(r:Bool)(h:Al P (adv P st)=.bin .lss (.string (mkS a)) (.string (mkS b)))(hr:Op.bytesLess a b=r)(k:G P fn Post (nx (adv P st) (.bool r)) u m):G P fn Post st u m :=
 G.bin (.bool r) h (fun t X Y w=>Fx t X Y w) (fun t w=>by simp only[binOp,Op.stringOp,J9];rw[hr];rfl) k
theorem G.gtS (a b:List UInt8)(r:Bool)(h:Al P (adv P st)=.bin .gtr (.string (mkS a)) (.string (mkS b)))(hr:Op.bytesLess b a=r)(k:G P fn Post (nx (adv P st) (.bool r)) u m):G P fn Post st u m :=
 G.bin (.bool r) h (fun t X Y w=>Fx t X Y w) (fun t w=>by
  rw[<-hr,<-Apo];simp only[binOp,Op.stringOp,J9];rw[show (a==b)=decide (a=b) from by by_cases e:a=b<;>simp[e]]
  rfl) k
end rules
section
variable [Cc] {u:PH}
theorem Ac3 (x:Int):Fn0 prog 287 [.int .i64 x] u fun v _=>v=.bool false:=by
 refine Fn0.o func287 ?_;refine G.nF x x ?_;exact G.r (.bool false) ⟨rfl,rfl⟩
theorem Ad7 (x:List UInt8):Fn0 prog 288 [.string (mkS x)] u fun v _=>v=.bool false:=by
 refine Fn0.o func288 ?_;refine G.y x x rfl ?_;exact G.r (.bool false) ⟨rfl,rfl⟩
theorem Apf (x y:Int):Fn0 prog 245 [.int .i64 x,.int .i64 y] u fun v _=>v=.int .i64 (Na x y):=by
 refine Fn0.o func245 ?_;refine G.c call287 (Ac3 x) ?_;rintro v1 u1 l1 rfl;refine G.c call287 (Ac3 y) ?_;rintro v2 u2 l2 rfl;unfold Na;by_cases h:x<y
 ·refine G.lT' x y h ?_;exact G.r (.int .i64 (-1)) ⟨rfl,by rw[if_pos h]⟩
 ·refine G.lF' x y h ?_;by_cases h':x>y
  ·refine G.gT' x y h' ?_;exact G.r (.int .i64 1) ⟨rfl,by rw[if_neg h,if_pos h']⟩
  ·refine G.gF' x y h' ?_;exact G.r (.int .i64 0) ⟨rfl,by rw[if_neg h,if_neg h']⟩
theorem Api (x y:List UInt8):Fn0 prog 246 [.string (mkS x),.string (mkS y)] u fun v _=>v=.int .i64 (Qp x y):=by
 refine Fn0.o func246 ?_;refine G.c call288 (Ad7 x) ?_;rintro v1 u1 l1 rfl;refine G.c call288 (Ad7 y) ?_;rintro v2 u2 l2 rfl;unfold Qp;cases h:Op.bytesLess x y with
 |true =>
  refine G.ltS x y true kV h ?_;exact G.r (.int .i64 (-1)) ⟨rfl,by rw[if_pos rfl]⟩
 |false =>
  refine G.ltS x y false kV h ?_;cases h':Op.bytesLess y x with
  |true =>
   refine G.gtS x y true kV h' ?_;exact G.r (.int .i64 1) ⟨rfl,by rw[if_neg mV,if_neg (fun e=>by subst e;rw[Pv]at h';cases h')]⟩
  |false =>
   refine G.gtS x y false kV h' ?_;exact G.r (.int .i64 0) ⟨rfl,by rw[if_neg mV,if_pos (Wk h h')]⟩
theorem Ao7 (x y:Int){b:Nat}(h:El u b 0 1 [.int .i64 x,.int .i64 y]):Fn0 prog 244 [.slice (some ⟨b,0,none⟩) 2 2] u fun v _=>v=.int .i64 (if x≠0 then x else y):=by
 refine Fn0.o func244 ?_;refine G.l (ι:=Nat) (fun i=>[(3,iV 0),(6,sV (some ⟨b,0,none⟩) 2 2),(7,iV (2:Nat)),(8,iV i)]) (fun _=>[])
  (fun i u' m'=>i<=2/\m'=PH.mt/\(1<=i->x=0)/\(2<=i->y=0)) (fun i=>2-i) 0 ⟨oV,rfl,oV,oV⟩ ?_
 rintro J i hJ u' m' hle ⟨hi,rfl,hx,hy⟩;by_cases h2:i=2
 ·subst h2;refine G.lF ((2:Nat):Int) ((2:Nat):Int) ?_;exact G.r (.int .i64 0) ⟨rfl,by rw[if_neg (by simp[hx oV]),hy oV]⟩
 ·refine G.lT (i:Int) ((2:Nat):Int) ?_;refine G.a b 0 2 2 i 1 oV ?_;obtain⟨z,hz,h1,h2⟩:∃ z:Int,ElP u' b (0+i*1) (.int .i64 z)/\(z≠0->(if x≠0 then x else y)=z)/\(z=0->(1<=i+1->x=0)/\(2<=i+1->y=0)):=by
   rcases (by omega:i=0\/i=1) with rfl|rfl
   ·exact⟨x,(h 0 _ rfl).mono hle,fun hz=>if_pos hz,fun hz=>⟨fun _=>hz,oV⟩⟩
   ·exact⟨y,(h 1 _ rfl).mono hle,fun hz=>if_neg (by simp[hx oV]),fun hz=>⟨fun _=>hx oV,fun _=>hz⟩⟩
  refine G.lU none b (0+i*1) (.int .i64 z) hz ?_;by_cases h0:z=0
  ·refine G.nF z 0 ?_;refine G.i i ?_;exact G.b (hJ (i+1) _ _ _ cV hle ⟨oV,rfl,(h2 h0).1,(h2 h0).2⟩ oV)
  ·refine G.nT' z 0 h0 ?_;exact G.r (.int .i64 z) ⟨rfl,by rw[h1 h0]⟩
theorem Tw (p q:Par):Fn0 prog 190 [An p,An q] u fun v _=>v=.int .i64 (A8 p q):=by
 refine Fn0.o func190 ?_;refine G.c call245 (Apf p.1 q.1) ?_;rintro v1 u1 l1 rfl;refine G.c call246 (Api p.2 q.2) ?_;rintro v2 u2 l2 rfl;refine G.B 3 1 8 (.int .i64 0) [.int .i64 (Na p.1 q.1),.int .i64 (Qp p.2 q.2)] (K9 [_,_]) ?_;intro g u3 l3 e3;refine G.c call244 (Ao7 _ _ e3) ?_;rintro v4 u4 l4 rfl;exact G.r _ ⟨rfl,rfl⟩
end
end
section
variable {N s:Nat}{nz:Bool}{o:Obj}{q:Rat}{u u':PH}
abbrev SB (q:Rat):Prop:=Ku q=true
theorem SB.sz (h:SB q):Sz q 12:=(Qg h).2
theorem SB.tx (h:SB q):Tx q:=(Qg h).1
theorem SB.zero:SB 0:=fV
abbrev fz:Value:=.agg #[.bool false,.slice none 0 0,.bool false,.slice none 0 0]
theorem Aqc :sgn q.num=0↔q=0:=by
 constructor
 ·intro h;have:q.num=0:=by
   rcases A4f q.num 0 with h1|h1|h1
   ·rw[C0 h1]at h;cases h
   ·exact h1
   ·rw[B9 h1]at h;cases h
  exact A6z.1 this
 ·rintro rfl;rfl
theorem E9.at {κ:Type}[DecidableEq κ]{enc:κ->Value}{R:PH->Value->Rat->Prop}{f:κ->Rat}(h:E9 enc R nz u o f N s):∃ l:List (κ×Value),Ec enc o l/\(∀ p∈l,R u p.2 (f p.1)/\(nz=true->f p.1≠0)/\Sz (f p.1) s)/\(∀ k,k∉l.map (·.1)->f k=0)/\l.length<=N:=h
theorem E9.mf {κ:Type}[DecidableEq κ]{enc:κ->Value}{f:κ->Rat}(h:E9 enc Av nz u o f N s)(hl:PH.le u u'):E9 enc Av nz u' o f N s:=by
 obtain⟨l,h1,h2,h3,h4⟩:=h;exact⟨l,h1,fun p hp=>⟨(h2 p hp).1.mono hl,(h2 p hp).2⟩,h3,h4⟩
def Ak4 (m' u:PH)(v:Value)(F:CF)(N:Nat):Prop :=
 ∃ b a n c b' a' n' c' g1 g2 o1 o2,v=.agg #[.bool b,.slice a n c,.bool b',.slice a' n' c',.map (some g1),.map (some g2)]/\Av u (.agg #[.bool b,.slice a n c,.bool b',.slice a' n' c']) F.c/\g1≠g2/\m'=(PH.mt.upd g1 o1).upd g2 o2/\E9 An Av true u o1 F.s N 12/\E9 prV Av true u o2 F.t N 12
def Mf (u:PH)(v:Value)(F:CF)(N:Nat):Prop :=
 ∃ b a n c b' a' n' c' g1 g2 o1 o2,v=.agg #[.bool b,.slice a n c,.bool b',.slice a' n' c',.map (some g1),.map (some g2)]/\Av u (.agg #[.bool b,.slice a n c,.bool b',.slice a' n' c']) F.c/\u g1=some o1/\u g2=some o2/\E9 An Av true u o1 F.s N 12/\E9 prV Av true u o2 F.t N 12
theorem Mf.mono {u u':PH}{v:Value}{F:CF}{N:Nat}(h:Mf u v F N)(hl:PH.le u u'):Mf u' v F N:=by
 obtain⟨b,a,n,c,b',a',n',c',g1,g2,o1,o2,e,h1,h2,h3,h4,h5⟩:=h;exact⟨b,a,n,c,b',a',n',c',g1,g2,o1,o2,e,h1.mono hl,hl _ _ h2,hl _ _ h3,h4.mf hl,h5.mf hl⟩
theorem Ak4.give {m' u u':PH}{v:Value}{F:CF}(h:Ak4 m' u v F N)(hl:PH.le u u')(hm:PH.le m' u'):Mf u' v F N:=by
 obtain⟨b,a,n,c,b',a',n',c',g1,g2,o1,o2,e,h1,h2,rfl,h4,h5⟩:=h;exact⟨b,a,n,c,b',a',n',c',g1,g2,o1,o2,e,h1.mono hl,hm _ _ (by rw[Ad _ _ h2,Ac]),hm _ _ (Ac _ _ _),h4.mf hl,h5.mf hl⟩
theorem Apg (p q:Par):Fn0 prog 193 [An p,An q] u fun v _=>v=prV (Ap p q):=by
 refine Fn0.o func193 ?_;refine G.c call190 (Tw p q) ?_;rintro v1 u1 l1 rfl;by_cases h:0<A8 p q
 ·refine G.gT' (A8 p q) 0 h ?_;refine G.r (prV (q,p)) ⟨rfl,?_⟩;rw[K8 h]
 ·refine G.gF' (A8 p q) 0 h ?_;refine G.r (prV (p,q)) ⟨rfl,?_⟩;rw[Ft h]
theorem Apb {n:Int}(h1:-9223372036854775808<=n)(h2:n<=9223372036854775807):Ai prog 158 [.int .i64 n] u PH.mt fun v u' m'=>Ak4 m' u' v ⟨(n:Rat),fun _=>0,fun _=>0⟩ 0:=by
 refine Ai.o func158 ?_;refine G.c call98 (L8 h1 h2) ?_;intro v1 u1 l1 k1;obtain⟨b,a,nn,c,b',a',n',c',rfl⟩:=k1.opn;refine G.mapMk kV ?_;intro g1 hm1 hu1;refine G.mapMk kV ?_;intro g2 hm2 hu2;have hne:g1≠g2:=fun e=>by subst e;rw[Ac]at hm2;cases hm2
 exact G.r (.agg #[.bool b,.slice a nn c,.bool b',.slice a' n' c',.map (some g1),.map (some g2)]) ⟨b,a,nn,c,b',a',n',c',g1,g2,_,_,rfl,k1,hne,rfl,E9.empty 12,E9.empty 12⟩
end
section
section
variable {κ:Type} [DecidableEq κ]
def Dd (f g:κ->Rat)(q:Rat)(L:List κ):κ->Rat:=fun k=>if k∈L then g k*q+f k else f k
theorem He (f g:κ->Rat)(q:Rat){L:List κ}{k:κ}(h:k∉L):Hb (Dd f g q L) k (g k*q+Dd f g q L k)=Dd f g q (L++[k]):=by
 funext j
 unfold Hb Dd;by_cases e:j=k
 ·subst e;rw[if_pos rfl,if_neg h,if_pos mV]
 ·rw[if_neg e];by_cases hj:j∈L
  ·rw[if_pos hj,if_pos (by simp[hj])]
  ·rw[if_neg hj,if_neg (by simp[hj,e])]
theorem I4 (f g:κ->Rat)(q:Rat){L:List κ}(h:∀ k,k∉L->g k=0):Dd f g q L=fun k=>f k+g k*q:=by
 funext k
 unfold Dd;by_cases hk:k∈L
 ·rw[if_pos hk];grind
 ·rw[if_neg hk,h k hk];grind
theorem Md {f g:κ->Rat}{q:Rat}{L:List κ}(h1:∀ k,SB (f k))(h2:∀ k,SB (f k+g k*q))(k:κ):SB (Dd f g q L k):=by
 unfold Dd;split
 ·rw[Rat.add_comm];exact h2 k
 ·exact h1 k
end
end
section
def Am9 (t:TypeId):Op->Bool
 |.binOp _ t' ..=>Nat.beq t' t
 |_=>false
section rules
variable [Cc] {P:Program} [Ba P] {fn:Func} {Post:B0} {st:List KI×S} {u m:PH}
theorem Aao {op:BinOp}{t:TypeId}{xs ys:Array Value}(X Y:Operand)(hg:P.eqGuardType P.depth t=false)(w:World):(eqGuard op t X Y (.agg xs) (.agg ys)).run P w=.ok () w:=by
 unfold eqGuard;split<;>simp[hg]
theorem G.eqAgg (t:TypeId)(xs ys:Array Value)(r:Bool)(h:Al P (adv P st)=.binT .eql (P.underlying t) (.agg xs) (.agg ys))(hq:U6 (Am9 t) (adv P st)=true)(hg:P.eqGuardType P.depth t=false)(he:∀ w,(Op.equal t (.agg xs) (.agg ys)).run P w=.ok r w)
 (k:G P fn Post (nx (adv P st) (.bool r)) u m):G P fn Post st u m:=by
 refine G.askQ (Am9 t) h hq mV (fun env o hview hQ w _=>?_) k;obtain⟨t',X,Y,yt,e,e1,e2,e3⟩:=Pz hview;obtain⟨dst,opp,type,pos,after,guard⟩:=o;simp only at e;subst e;obtain rfl:t'=t:=A1h hQ;simp[execOp,e1,e2,Aao X Y hg,binOp,he]
theorem G.neAgg (t:TypeId)(xs ys:Array Value)(r:Bool)(h:Al P (adv P st)=.binT .neq (P.underlying t) (.agg xs) (.agg ys))(hq:U6 (Am9 t) (adv P st)=true)(hg:P.eqGuardType P.depth t=false)(he:∀ w,(Op.equal t (.agg xs) (.agg ys)).run P w=.ok r w)
 (k:G P fn Post (nx (adv P st) (.bool (!r))) u m):G P fn Post st u m:=by
 refine G.askQ (Am9 t) h hq mV (fun env o hview hQ w _=>?_) k;obtain⟨t',X,Y,yt,e,e1,e2,e3⟩:=Pz hview;obtain⟨dst,opp,type,pos,after,guard⟩:=o;simp only at e;subst e;obtain rfl:t'=t:=A1h hQ;simp[execOp,e1,e2,Aao X Y hg,binOp,he]
end rules
end
section
structure Am4 (F H:CF):Prop where
 a:CFS F
 b:CFS H
 c:CFS (H.scale F.c)
 d:CFS (F.scale H.c)
 e:CFS ((H.scale F.c).add (F.scale H.c))
 f:SB (F.c*H.c)
 pr:∀ p q,SB (F.s p*H.s q)
 con:∀ x,SB (con F H x)
 acc:∀ Ps:List (Par×Par),Ps.Nodup->∀ k,SB (((H.scale F.c).add (F.scale H.c)).t k+Dj F H Ps k)
theorem Apk {d e N M:Nat}{F H:CF}(h:CFD d N F)(h':CFD e M H)(hd:d+e<=50)(hN:8*(N*M)<10^100)(h1:0<N)(h2:0<M):Am4 F H:=by
 have b1:N<=N*M:=Nat.le_mul_of_pos_right _ h2;have b2:M<=N*M:=Nat.le_mul_of_pos_left _ h1;have c1:CFD (d+e) (N*M) (H.scale F.c):=by have:=h'.scale h.c;rw[Nat.add_comm,Nat.mul_comm]at this;exact this
 have c2:CFD (d+e) (N*M) (F.scale H.c):=h.scale h'.c;exact⟨h.cfs oV oV,h'.cfs oV oV,c1.cfs hd oV,c2.cfs hd oV,(c1.add c2).cfs hd oV,(h.c.mul h'.c).small hd oV,
  fun p q=>((h.s p).mul (h'.s q)).small hd oV,fun x=>(Aht h h' x).small hd oV,fun Ps hn k=>(((c1.add c2).t k).add (Ag9 h h' hn k)).small hd oV⟩
end
section
def A5 (p:Par×Rat):Value:=.agg #[.int .i64 p.1.1,.string (mkS p.1.2),.string (mkS (Af p.2))]
def Da (x:(Par×Par)×Rat):Value:=.agg #[.int .i64 x.1.1.1,.string (mkS x.1.1.2),.int .i64 x.1.2.1,.string (mkS x.1.2.2),.string (mkS (Af x.2))]
def H7 (u:PH)(v:Value)(F:CF)(K:Nat):Prop :=
 ∃ (T:List (Par×Rat)) (Q:List ((Par×Par)×Rat)) (a1:Option Addr) (c1:Nat) (a2:Option Addr) (c2:Nat),v=.agg #[.string (mkS (Af F.c)),.slice a1 T.length c1,.slice a2 Q.length c2] /\
  Ab u (.slice a1 T.length c1) 3 (T.map A5)/\Ab u (.slice a2 Q.length c2) 5 (Q.map Da)/\Can A8 F.s T/\Can Lg F.t Q/\T.length<=K/\Q.length<=K
theorem H7.mono {u u':PH}{v:Value}{F:CF}{K:Nat}(h:H7 u v F K)(hl:PH.le u u'):H7 u' v F K:=by
 obtain⟨T,Q,a1,c1,a2,c2,e,h1,h2,h3⟩:=h;exact⟨T,Q,a1,c1,a2,c2,e,h1.mono hl,h2.mono hl,h3⟩
section
variable {κ:Type} [DecidableEq κ]
theorem Ze {l:List (κ×Rat)}{a:κ}{q:Rat}(h:a∉l.map (·.1)):(fun k=>Bi k (l++[(a,q)]))=Hb (fun k=>Bi k l) a q:=by
 funext k
 unfold Hb;induction l with
 |nil=>simp[Bi]
 |cons p l ih =>
  obtain⟨b,r⟩:=p;simp only[A1y,A02,not_or]at h;simp only[A39,Bi];by_cases hk:k=b
  ·rw[if_pos hk,if_pos hk,if_neg (fun e=>h.1 (by rw[<-e,hk]))]
  ·rw[if_neg hk,if_neg hk];exact ih h.2
theorem Can.fn {c:κ->κ->Int}(hc:Ord c){f:κ->Rat}{l:List (κ×Rat)}(h:Can c f l):∀ k,Bi k l=f k:=fun k=>by
 by_cases hk:k∈l.map (·.1)
 ·obtain⟨p,hp,rfl⟩:=A0u.1 hk;rw[F9 (h.srt.nodup hc) (q:=p.2) hp];exact (h.val p hp).1
 ·rw[Kc hk,h.out k hk]
theorem Ym {l:List (κ×Rat)}{i:Nat}{p:κ×Rat}(hn:(l.map (·.1)).Nodup)(hi:l[i]?=some p):p.1∉(l.take i).map (·.1):=by
 intro hm;obtain⟨q,hq,e⟩:=A0u.1 hm;obtain⟨j,hj,rfl⟩:=List.mem_iff_getElem.1 hq;have hji:j<i:=by simp at hj;omega
 obtain⟨hil,rfl⟩:=A0s.1 hi;rw[A4t]at e;have:=A3q.1 hn j i gV (by simpa using hil) hji;simp only[A4r]at this;exact this e
end
theorem E9.snoc {κ:Type}[DecidableEq κ]{enc:κ->Value}{u:PH}{o o':Obj}{T:List (κ×Rat)}{p:κ×Rat}{x:Value}{l:List (κ×Value)}{N:Nat}(ho:Ec enc o l)(h2:∀ y∈l,Av u y.2 (Bi y.1 T)/\(true=true->Bi y.1 T≠0)/\Sz (Bi y.1 T) 12)(h3:∀ k,k∉l.map (·.1)->Bi k T=0)(h4:l.length<=N)
 (h':Ec enc o' (H5 p.1 x l)) (hx:Av u x p.2) (hp:p.1∉T.map (·.1)) (h0:p.2≠0) (hs:SB p.2):E9 enc Av true u o' (fun k=>Bi k (T++[p])) (N+1) 12:=by
 obtain⟨a,q⟩:=p;rw[Ze hp];exact E9.put (f:=fun k=>Bi k T) ho h2 h3 h4 h' hx (fun _=>h0) hs.sz (A0w _)
abbrev zvL:List SV:=[.v (.bool false),.v (.slice none 0 0),.v (.bool false),.v (.slice none 0 0),.v (.map none),.v (.map none)]
theorem of0 {u:PH}{F:CF}{K:Nat}{v:Value}(hv:H7 u v F K)(sF:CFS F)(hK:K<=1000000) :
 Ai prog 75 [v] u PH.mt fun v' u' m'=>Ak4 m' u' v' F K:=by
 obtain⟨T,Q,a1,c1,a2,c2,rfl,hT,hQ,cT,cQ,kT,kQ⟩:=hv;have ndT:=cT.srt.nodup Dp;have ndQ:=cQ.srt.nodup Anq;refine Ai.o func75 ?_;refine G.callO _ _ kV call158 (Apb (n:=0) oV oV) ?_;rintro v1 u1 m1 l1 r1 _;rw[C2];obtain⟨b,a,n,c,b',a',n',c',g1,g2,o1,o2,rfl,h1,hne,rfl,h4,h5⟩:=r1;refine G.c call77 (Iy (SB.tx sF.c)) ?_;intro v2 u2 l2 r2;obtain⟨b2,x2,n2,d2,b2',x2',n2',d2',rfl⟩:=r2.opn;refine G.l (ι:=Nat) (fun i=>[(1,.p 0 0),(2,.p 1 0),(3,.p 1001 0),(14,sV a1 T.length c1),(15,iV T.length),(16,iV i)])
  (fun _=>[(0,⟨37,[tV (Af F.c),sV a1 T.length c1,sV a2 Q.length c2]⟩),(1,⟨120,zvL⟩),(1001,⟨120,[bV b2,sV x2 n2 d2,bV b2',sV x2' n2' d2',.v (.map (some g1)),.v (.map (some g2))]⟩)])
  (fun i u' m'=>i<=T.length/\m' g2=some o2/\∃ o1',m' g1=some o1'/\E9 An Av true u' o1' (fun k=>Bi k (T.take i)) i 12)
  (fun i=>T.length-i) 0
  ⟨oV,Ac _ _ _,o1,by rw[Ad _ _ hne,Ac],(h4.mf l2).congr fun k=>by simp[Bi]⟩ ?_
 rintro J i hJ u3 m3 l3 ⟨hi,hg2,o1',hg1,hR⟩;by_cases hlt:i<T.length
 ·refine G.lT (i:Int) (T.length:Int) ?_;have hTi:T[i]?=some T[i]:=A0n hlt;obtain⟨ba,oa,rfl,ea⟩:=Ab.at' (hT.mono ((l1.trans l2).trans l3)) (j:=i) (e:=A5 T[i]) (by simp[hTi]);obtain⟨hval,h0⟩:=cT.val _ (A04 hlt);have hs:SB T[i].2:=by rw[hval];exact sF.s _
  refine G.a ba oa T.length c1 i 3 oV ?_;refine G.lU (some 3) ba (oa+i*3) (.agg #[.int .i64 T[i].1.1,.string (mkS T[i].1.2),.string (mkS (Af T[i].2))]) ea ?_;refine G.c call77 (Iy hs.tx) ?_;intro v4 u4 l4 r4;obtain⟨b4,x4,n4,d4,b4',x4',n4',d4',rfl⟩:=r4.opn;obtain⟨l,ho,q2,q3,q4⟩:=(hR.mf l4).at;refine G.mapPut (et:=116) Bt g1 o1' l T[i].1 (.agg #[.bool b4,.slice x4 n4 d4,.bool b4',.slice x4' n4' d4']) kV kV hg1 ho ?_;intro o' ho';refine G.i i ?_;refine G.b (hJ (i+1) _ _ _ cV (l3.trans l4) ⟨oV,by rw[Ad _ _ (Ne.symm hne)];exact hg2,o',Ac _ _ _,?_⟩ oV);rw[A1c,hTi];exact E9.snoc ho q2 q3 q4 ho' r4 (Ym ndT hTi) h0 hs
 obtain rfl:i=T.length:=oV
 refine G.lF (T.length:Int) (T.length:Int) ?_;have hR':E9 An Av true u3 o1' F.s T.length 12:=by
  rw[A1k]at hR;exact hR.congr (cT.fn Dp)
 refine G.l (ι:=Nat) (fun i=>[(2,.p 1 0),(3,.p 1001 0),(29,sV a2 Q.length c2),(30,iV Q.length),(31,iV i)])
  (fun _=>[(1,⟨120,zvL⟩),(1001,⟨120,[bV b2,sV x2 n2 d2,bV b2',sV x2' n2' d2',.v (.map (some g1)),.v (.map (some g2))]⟩)])
  (fun i u' m'=>i<=Q.length/\m' g1=some o1'/\∃ o2',m' g2=some o2'/\E9 prV Av true u' o2' (fun k=>Bi k (Q.take i)) i 12)
  (fun i=>Q.length-i) 0
  ⟨oV,hg1,o2,hg2,(h5.mf (l2.trans l3)).congr fun k=>by simp[Bi]⟩ ?_
 rintro J2 i hJ2 u5 m5 l5 ⟨hi2,hg15,o2',hg25,hR2⟩;by_cases hlt:i<Q.length
 ·refine G.lT (i:Int) (Q.length:Int) ?_;have hQi:Q[i]?=some Q[i]:=A0n hlt;obtain⟨ba,oa,rfl,ea⟩:=Ab.at' (hQ.mono (((l1.trans l2).trans l3).trans l5)) (j:=i) (e:=Da Q[i]) (by simp[hQi]);obtain⟨hval,h0⟩:=cQ.val _ (A04 hlt);have hs:SB Q[i].2:=by rw[hval];exact sF.t _
  refine G.a ba oa Q.length c2 i 5 oV ?_;refine G.lU (some 5) ba (oa+i*5) (.agg #[.int .i64 Q[i].1.1.1,.string (mkS Q[i].1.1.2),.int .i64 Q[i].1.2.1,.string (mkS Q[i].1.2.2),.string (mkS (Af Q[i].2))]) ea ?_;refine G.c call77 (Iy hs.tx) ?_;intro v4 u4 l4 r4;obtain⟨b4,x4,n4,d4,b4',x4',n4',d4',rfl⟩:=r4.opn;obtain⟨l,ho,q2,q3,q4⟩:=(hR2.mf l4).at;refine G.mapPut (et:=116) Aiy g2 o2' l Q[i].1 (.agg #[.bool b4,.slice x4 n4 d4,.bool b4',.slice x4' n4' d4']) kV kV hg25 ho ?_;intro o' ho';refine G.i i ?_;refine G.b (hJ2 (i+1) _ _ _ cV (l5.trans l4) ⟨oV,by rw[Ad _ _ hne];exact hg15,o',Ac _ _ _,?_⟩ oV);rw[A1c,hQi];exact E9.snoc ho q2 q3 q4 ho' r4 (Ym ndQ hQi) h0 hs
 obtain rfl:i=Q.length:=oV
 refine G.lF (Q.length:Int) (Q.length:Int) ?_;have hR2':E9 prV Av true u5 o2' F.t Q.length 12:=by
  rw[A1k]at hR2;exact hR2.congr (cQ.fn Anq)
 refine G.drop ((PH.mt.upd g1 o1').upd g2 o2') kV (fun g o hg=>?_) ?_
 ·by_cases e:g=g2
  ·subst e;rw[Ac]at hg;cases hg;exact hg25
  ·rw[Ad _ _ e]at hg;by_cases e:g=g1
   ·subst e;rw[Ac]at hg;cases hg;exact hg15
   ·rw[Ad _ _ e]at hg;cases hg
 exact G.r (.agg #[.bool b2,.slice x2 n2 d2,.bool b2',.slice x2' n2' d2',.map (some g1),.map (some g2)]) ⟨b2,x2,n2,d2,b2',x2',n2',d2',g1,g2,o1',o2',rfl,r2.mono (l3.trans l5),hne,rfl,(hR'.mf l5).up kT (A0w _),hR2'.up kQ (A0w _)⟩
end
section
open Go.RowKit Go.MapKept Go.Shelf
section
variable {F:Fence} {n:Nat} {P:Program} [Ba P] {w:World} {ops:Array Oper} {rest:List Oper} {o:Oper} {a:Act} {Q:Exit->Act->World->Prop}
end
end
section
open Go.RowKit Go.MapKept Go.Shelf
end
section
open Go.RowKit Go.MapKept Go.Shelf
end
section
open Go.RowKit Go.MapKept Go.Shelf
abbrev Bu (p:Par):List Value:=[.int .i64 p.1,.string (mkS p.2)]
end
section
open Go.RowKit Go.MapKept Go.Shelf
end
end Go.Proofs.YtanfagpabkdmiaaGreatDoor
section
namespace Go.Proofs
open Go.Shelf
def Tryz.sortPar_ren:Go.Shelf.Ren:=⟨fun|6=>189|15=>243|14=>242|28=>285|29=>286|20=>277|21=>278|22=>279|23=>280|24=>281|25=>282|26=>283|27=>284|46=>320|47=>321|48=>322|49=>323|50=>324|57=>337|n=>n,fun|22=>38|24=>79|25=>256|3=>3|39=>296|0=>0|53=>328|55=>266|4=>4|46=>322|45=>321|50=>269|5=>5|9=>9|66=>357|70=>360|76=>373|77=>374|n=>n,fun|n=>n⟩
theorem Tryz.sortPar:Go.Proofs.SlLaysF0.n6 Tryz.prog Tryz.sortPar_ren:={
 mixed:=by kernel_rfl
 f6:=⟨Tryz.f189.name,by decide,Tryz.func189.trans (congrArg some (by kernel_rfl))⟩
 f14:=⟨Tryz.f242.name,by decide,Tryz.func242.trans (congrArg some (by kernel_rfl))⟩
 f15:=Tryz.func243.trans (congrArg some (by kernel_rfl))
 f20:=⟨Tryz.f277.name,by decide,Tryz.func277.trans (congrArg some (by kernel_rfl))⟩
 f21:=⟨Tryz.f278.name,by decide,Tryz.func278.trans (congrArg some (by kernel_rfl))⟩
 f22:=⟨Tryz.f279.name,by decide,Tryz.func279.trans (congrArg some (by kernel_rfl))⟩
 f23:=⟨Tryz.f280.name,by decide,Tryz.func280.trans (congrArg some (by kernel_rfl))⟩
 f24:=⟨Tryz.f281.name,by decide,Tryz.func281.trans (congrArg some (by kernel_rfl))⟩
 f25:=⟨Tryz.f282.name,by decide,Tryz.func282.trans (congrArg some (by kernel_rfl))⟩
 f26:=⟨Tryz.f283.name,by decide,Tryz.func283.trans (congrArg some (by kernel_rfl))⟩
 f27:=⟨Tryz.f284.name,by decide,Tryz.func284.trans (congrArg some (by kernel_rfl))⟩
 f28:=Tryz.func285.trans (congrArg some (by kernel_rfl))
 f29:=Tryz.func286.trans (congrArg some (by kernel_rfl))
 f46:=⟨Tryz.f320.name,by decide,Tryz.func320.trans (congrArg some (by kernel_rfl))⟩
 f47:=Tryz.func321.trans (congrArg some (by kernel_rfl))
 f48:=Tryz.func322.trans (congrArg some (by kernel_rfl))
 f49:=⟨Tryz.f323.name,by decide,Tryz.func323.trans (congrArg some (by kernel_rfl))⟩
 f50:=⟨Tryz.f324.name,by decide,Tryz.func324.trans (congrArg some (by kernel_rfl))⟩
 f57:=⟨Tryz.f337.name,by decide,Tryz.func337.trans (congrArg some (by kernel_rfl))⟩
 t0:=Tryz.underlying0
 a0:=Tryz.isAgg0
 z0:=Tryz.sizeOf0
 v0:=Tryz.zeroValue0
 t3:=Tryz.underlying3
 a3:=Tryz.isAgg3
 z3:=Tryz.sizeOf3
 v3:=Tryz.zeroValue3
 t4:=Tryz.underlying4
 a4:=Tryz.isAgg4
 z4:=Tryz.sizeOf4
 v4:=Tryz.zeroValue4
 t5:=Tryz.underlying5
 a5:=Tryz.isAgg5
 z5:=Tryz.sizeOf5
 v5:=Tryz.zeroValue5
 t9:=Tryz.underlying9
 a9:=Tryz.isAgg9
 z9:=Tryz.sizeOf9
 v9:=Tryz.zeroValue9
 t22:=Tryz.underlying38
 a22:=Tryz.isAgg38
 z22:=Tryz.sizeOf38
 v22:=Tryz.zeroValue38
 t25:=Tryz.underlying256
 a25:=Tryz.isAgg256
 z25:=Tryz.sizeOf256
 v25:=Tryz.zeroValue256
 t39:=Tryz.underlying296
 a39:=Tryz.isAgg296
 z39:=Tryz.sizeOf296
 v39:=Tryz.zeroValue296
 t45:=Tryz.underlying321
 a45:=Tryz.isAgg321
 z45:=Tryz.sizeOf321
 v45:=Tryz.zeroValue321
 t46:=Tryz.underlying322
 a46:=Tryz.isAgg322
 z46:=Tryz.sizeOf322
 v46:=Tryz.zeroValue322
 t50:=Tryz.underlying269
 a50:=Tryz.isAgg269
 z50:=Tryz.sizeOf269
 v50:=Tryz.zeroValue269
 t53:=Tryz.underlying328
 a53:=Tryz.isAgg328
 z53:=Tryz.sizeOf328
 v53:=Tryz.zeroValue328
 t55:=Tryz.underlying266
 a55:=Tryz.isAgg266
 z55:=Tryz.sizeOf266
 v55:=Tryz.zeroValue266
 t66:=Tryz.underlying357
 a66:=Tryz.isAgg357
 z66:=Tryz.sizeOf357
 v66:=Tryz.zeroValue357
 t70:=Tryz.underlying360
 a70:=Tryz.isAgg360
 z70:=Tryz.sizeOf360
 v70:=Tryz.zeroValue360
 t76:=Tryz.underlying373
 a76:=Tryz.isAgg373
 z76:=Tryz.sizeOf373
 v76:=Tryz.zeroValue373
 t77:=Tryz.underlying374
 a77:=Tryz.isAgg374
 z77:=Tryz.sizeOf374
 v77:=Tryz.zeroValue374 }
end Go.Proofs
end
namespace Go.Proofs.YtanfagpabkdmiaaGreatDoor
open Go.Proofs.Tryz
open Go.RowKit Go.MapKept
open _root_.Array renaming eq_empty_of_size_eq_zero -> A47, forIn_toList -> Baw, mk.injEq -> A3z
open Bool renaming and_eq_true -> A05, eq_false_iff -> Ba7, false_eq_true -> A3c, not_eq_true' -> A21, not_true -> A56, or_eq_true -> A3o
open Instr renaming checkKey -> A43, entry -> Bcw, next -> Bbv, sameBits -> A4e
open Int renaming lt_trichotomy -> A4f, ofNat_le -> Bav
open List renaming all_eq_true -> A08, cons.injEq -> A18, cons_append -> A39, forIn_cons -> A9m, forIn_nil -> A90, getElem?_eq_getElem -> A0n, getElem?_eq_some_iff -> A0s, getElem?_map -> A0v, getElem_inj -> A9b, getElem_map -> A4r, getElem_mem -> A04, getElem_of_mem -> A19, getElem_take -> A4t, length_cons -> A2n, length_map -> A0p, length_take -> A00, map_append -> A07, map_cons -> A1y, map_nil -> A5o, mem_append -> A01, mem_cons -> A02, mem_cons_of_mem -> A1w, mem_map -> A0u, mem_of_getElem? -> A1b, mem_singleton -> A1t, nodup_append -> A3w, nodup_cons -> A3p, pairwise_cons -> A8r, pairwise_iff_getElem -> A3q, take_add_one -> A1c, take_length -> A1k
open Nat renaming div_le_self -> A3v, eq_of_beq_eq_true -> A1h, le_refl -> A0w, le_trans -> A0q, lt_of_le_of_lt -> A2q, zero_le -> A1m
open Option renaming some.injEq -> A0t
open Prod renaming ext -> A7x, mk.injEq -> A1r
open Rat renaming divInt -> A2m, divInt_eq_div -> A4h, num_eq_zero -> A6z
open Result renaming andThen -> A6j, andThen_ok -> A0y
open Sem renaming run -> A9y, run_bind -> A1n, run_pure -> A3g
open UInt8 renaming lt_iff_toNat_lt -> A9z
open Value renaming agg.injEq -> A33, cells -> A1e, int -> A15, int.injEq -> A8b, string.injEq -> A8s
section
open Go.RowKit Go.Sort
def Aos (w:World):PH:=fun g=>w.heap[g]?
theorem Apd (w:World):Bx (Aos w) PH.mt w:=⟨fun _ _ h=>h,Eb.mt w,fun _=>.inr rfl,fun _ _ _ _ _ _ h _=>h⟩
@[reducible] def Cc.yes:Cc:=⟨True⟩
theorem Z6 [Fl:Cc](hF:Fl.on){w w':World}{u':PH}(h:Bz (Aos w) PH.mt w u' PH.mt w'):∃ n os,w'=grow (w.drewN n) os:=by
 have hd:=h.dr hF;refine⟨w'.drawn-w.drawn,w'.heap.extract w.heap.size w'.heap.size,?_⟩;obtain⟨hp,tp,dr,os,out⟩:=w;obtain⟨hp',tp',dr',os',out'⟩:=w';have h1:=hd.tape;have h2:=hd.dr;have h3:=h.io.1;have h4:=h.io.2;have h5:=h.sz;have h6:=fun g hg=>h.old g hg rfl;simp only at h1 h2 h3 h4 h5 h6;subst h1 h3 h4;unfold grow World.drewN;simp only[World.mk.injEq,and_true,true_and];refine⟨?_,oV⟩;apply Array.ext_getElem?;intro i;by_cases hi:i<hp.size
 ·rw[Array.getElem?_append_left hi];exact h6 i hi
 ·rw[Array.getElem?_append_right oV,Array.getElem?_extract];by_cases hi':i<hp'.size
  ·rw[if_pos oV];congr 1;omega
  ·rw[if_neg oV,Array.getElem?_eq_none oV]
theorem Fn0.exact [Fl:Cc](hF:Fl.on){P:Program}{f:FuncId}{args:List Value}{r:Value}(h:∀ u,Fn0 P f args u (fun v _=>v=r))(w:World):Calls P f args.toArray w fun e w'=>e=.returned r/\∃ n os,w'=grow (w.drewN n) os:=by
 refine Calls.mono (h (Aos w) w (Apd w)) fun e w' he=>?_;obtain⟨v,u',m',e1,_,e3,e4,e5⟩:=he;subst e4 e5;exact⟨e1,Z6 hF e3⟩
theorem Abb (blk off size:Nat)(w:World):Go.Proofs.CmpLays prog 190 #[] (fun p:Par=>[.int .i64 p.1,.string (mkS p.2)]) 2 A8 blk off size w :=
 fun m os dk _ x y=>@Fn0.exact Cc.yes trivial _ _ _ _ (fun u=>@Tw Cc.yes u x y) _
end
section
open Go.RowKit Go.Sort
section
variable {κ:Type} {c:κ->κ->Int}
theorem Ord.swo (h:Ord c):SWO (ltOf c) where
 irrefl x:=by simp[ltOf,h.irr x]
 trans x y z h1 h2:=by
  simp only[ltOf,decide_eq_true_eq]at *
  exact h.trans x y z h1 h2
 ntrans x y z h1 h2:=by
  simp only[ltOf,decide_eq_false_iff_not]at *
  intro h3;rcases A4f (c x y) 0 with e|e|e
  ·exact h1 e
  ·rw[h.eq x y e]at h3;exact h2 h3
  ·exact h2 (h.trans y x z ((h.sym y x).2 e) h3)
theorem Ord.tot (h:Ord c)(x y:κ)(h1:ltOf c x y=false)(h2:ltOf c y x=false):x=y:=by
 simp only[ltOf,decide_eq_false_iff_not]at *
 rcases A4f (c x y) 0 with e|e|e
 ·exact absurd e h1
 ·exact h.eq x y e
 ·exact absurd ((h.sym y x).2 e) h2
def Dw (c:κ->κ->Int)(l:List κ):List κ:=l.mergeSort fun x y=>!(ltOf c) y x
theorem Gx (l:List κ):(Dw c l).Perm l:=List.mergeSort_perm _ _
theorem P6 (h:Ord c){l:List κ}(hn:l.Nodup):Ef c (Dw c l):=by
 have h1:(Dw c l).Pairwise fun a b=>(!(ltOf c) b a)=true:=by
  refine List.pairwise_mergeSort (fun a b d h1 h2=>?_) (fun a b=>?_) l
  ·simp only[A21]at h1 h2⊢;exact h.swo.ntrans d b a h2 h1
  ·simp only[A3o,A21];cases e:ltOf c b a with
   |false=>exact .inl rfl
   |true =>
    right;simp only[ltOf,decide_eq_true_eq,decide_eq_false_iff_not]at *
    have:=(h.sym b a).1 e;omega
 have h2:(Dw c l).Nodup:=(Gx l).nodup_iff.2 hn;refine (h1.and h2).imp fun {a b} ⟨e1,e2⟩=>?_;simp only[A21,ltOf,decide_eq_false_iff_not]at e1;rcases A4f (c a b) 0 with e|e|e
 ·exact e
 ·exact absurd (h.eq a b e) e2
 ·exact absurd ((h.sym b a).2 e) e1
end
section
variable {κ:Type} [Inhabited κ] {enc:κ->List Value} {k:Nat}
theorem M7 (hk:∀ x,(enc x).length=k):∀ (ss:List κ) (t:Nat),t<ss.length*k->(ss.flatMap enc)[t]?=some ((enc ss.toArray[t/k]!)[t%k]!)
 |[],t,h=>by simp at h
 |x::ss,t,h=>by
  have hk0:0<k:=by
   rcases Nat.eq_zero_or_pos k with h0|h0
   ·rw[h0]at h;simp at h
   ·exact h0
  rw[List.flatMap_cons];by_cases ht:t<k
  ·rw[List.getElem?_append_left (by rw[hk];exact ht),Nat.div_eq_of_lt ht,Nat.mod_eq_of_lt ht];have:t<(enc x).length:=by rw[hk];exact ht
   simp[getElem!_pos,this]
  ·rw[List.getElem?_append_right (by rw[hk];omega),hk,M7 hk ss (t-k) (by simp only[A2n,Nat.add_mul]at h;omega)];have e1:t/k=(t-k)/k+1:=by rw[Nat.div_eq_sub_div hk0 oV]
   have e2:t%k=(t-k)%k:=Nat.mod_eq_sub_mod oV;rw[e1,e2];simp
theorem Afx (hk:∀ x,(enc x).length=k){W:World}{gb:Nat}{e:TypeId}{cur:Array Value}{ss:List κ}(hgb:W.heap[gb]?=some (.cells cur e (0,0)))(hcur:cur.toList.take (ss.length*k)=ss.flatMap enc):HoldsK enc k W gb 0 ss.toArray:=by
 intro t ht;rw[size_flatK]at ht;have ht':t<ss.length*k:=by simpa using ht
 have h1:cur[t]?=some ((flatK enc k ss.toArray)[t]!):=by
  rw[get_flatK enc k _ t ht,<-M7 hk ss t ht',<-hcur,List.getElem?_take,if_pos ht',Array.getElem?_toList]
 constructor
 ·simp[World.cell?,hgb,h1]
 ·simp[World.frozen?,hgb]
end
end
section
open Go.RowKit Go.MapKept Go.Shelf Go.Sort
theorem J8 (x:Par):(Bu x).length=2:=rfl
def Kh (P:Program)(st:List KI×S):List KI×S:=match one P (Aqo P 200 st).1 (Aqo P 200 st).2 with|some st'=>st'|none=>st
section
variable {P:Program} [Ba P] {fn:Func} {Post:B0} {st:List KI×S} {u m:PH}
theorem G.pastI (h:G P fn Post (Kh P st) u m):G P fn Post st u m:=by
 unfold Kh at h;split at h
 ·rename_i st' he;exact⟨Nf 200 st (Ar0 Ba.mx he h.out)⟩
 ·exact h
theorem Fn0.weak {f:FuncId}{args:List Value}{R R':Value->PH->Prop}(h:Fn0 P f args u R)(hr:∀ v u',R v u'->R' v u'):Fn0 P f args u R':=fun w hg=>Calls.mono (h w hg) fun e w' ⟨v,u',m',e1,e2,e3,e4,e5⟩=>⟨v,u',m',e1,e2,e3,e4,hr _ _ e5⟩
end
end
section
open Go.RowKit Go.MapKept Go.Shelf Go.Sort
end
section
theorem Ae.le {m0 m:PH}{v:Value}{t:TypeId}{sz:Nat}{es:List Value}(h:Ae m0 m v t sz es):PH.le m0 m:=by
 rcases h.2 with ⟨_,_,rfl⟩|⟨g,cap,rest,hg0,rfl,_⟩
 ·exact PH.le_refl _
 ·exact Jw _ hg0
theorem Ot (p:Par×Rat):A3 3 [A5 p]:=fun e he=>by
 simp at he;subst he;exact⟨rfl,fun y hy=>by simp[A5,A1e]at hy;rcases hy with rfl|rfl|rfl<;>rfl⟩
theorem Aei (p:(Par×Par)×Rat):A3 5 [Da p]:=fun e he=>by
 simp at he;subst he;exact⟨rfl,fun y hy=>by simp[Da,A1e]at hy;rcases hy with rfl|rfl|rfl|rfl|rfl<;>rfl⟩
end
section
variable {i:Nat}{q:Rat}{s:List UInt8}{u:PH}{x:Par×Rat}
theorem Rh (h:q≠0):Af q≠[48]:=by
 intro e;unfold Af at e;split at e
 ·have:=Gv (e.trans Dt.symm);exact h (A6z.1 this)
 ·have:(47:UInt8)∈Lib.itoa q.num++47::Lib.itoa (q.den:Int):=mV
  rw[e]at this;simp at this
theorem U5 (p q:Par)(r:Bool)(h:decide (A8 p q<0)=r):Fn0 prog 206 [An p,An q] u fun v _=>v=.bool r:=by
 refine Fn0.o func206 ?_;refine G.c call190 (Tw p q) ?_;rintro v1 u1 l1 rfl;cases r with
 |true =>
  refine G.lT' (A8 p q) 0 (of_decide_eq_true h) ?_;exact G.r (.bool true) ⟨rfl,rfl⟩
 |false =>
  refine G.lF' (A8 p q) 0 (of_decide_eq_false h) ?_;exact G.r (.bool false) ⟨rfl,rfl⟩
theorem Ahr (h:Tx q)(h0:q≠0):Fn0 prog 234 [.string (mkS (Af q))] u fun v _=>v=.bool true:=by
 refine Fn0.o func234 ?_;refine G.c call154 (Aqm h) ?_;rintro v1 u1 l1 rfl;refine G.x (Af q) [48] (Rh h0) ?_;exact G.r (.bool true) ⟨rfl,rfl⟩
theorem Ux (h:Gw s=true):1<=s.length/\s.length<=12:=by
 unfold Gw at h;split at h
 ·cases h
 ·simp only[A05,decide_eq_true_eq]at h;exact⟨mV,h.2⟩
theorem Rj (h:Gw s=true){c:UInt8}(hi:s[i]?=some c):(97<=c.toNat/\c.toNat<=122)\/(i≠0/\(c.toNat=45\/(48<=c.toNat/\c.toNat<=57))):=by
 unfold Gw at h;split at h
 ·cases h
 ·rename_i d l;simp only[A05,decide_eq_true_eq,A08,Ang,A3o]at h;obtain⟨⟨h1,h2⟩,_⟩:=h
  match i,hi with
  |0,hi=>simp at hi;subst hi;exact .inl h1
  |i+1,hi =>
   simp at hi;rcases h2 c (A1b hi) with h|h
   ·exact .inl h
   ·exact .inr ⟨oV,h⟩
theorem Ajx (h:Gw s=true):Fn0 prog 208 [.string (mkS s)] u fun v _=>v=.bool true:=by
 obtain⟨hl1,hl2⟩:=Ux h;refine Fn0.o func208 ?_;refine G.convSB (some .string) 5 s kV kV kV ?_;intro v1 u1 l1 hb;obtain⟨a,c,rfl⟩:=Ab.opn hb;rw[Aw]at hb⊢;refine G.l (ι:=Nat) (fun i=>[(0,tV s),(7,sV a s.length c),(8,iV s.length),(9,iV i)]) (fun _=>[])
  (fun i u' m'=>i<=s.length/\m'=PH.mt) (fun i=>s.length-i) 0 ⟨oV,rfl⟩ ?_
 rintro J i hJ u2 m2 l2 ⟨hi,rfl⟩;by_cases hlt:i<s.length
 ·refine G.lT (i:Int) (s.length:Int) ?_;have hsi:s[i]?=some s[i]:=A0n hlt;obtain⟨b,off,rfl,e⟩:=Ab.at' (hb.mono l2) (j:=i) (e:=.int .u8 (s[i].toNat:Int)) (by simp[Bc,hsi]);have hw:=Rj h hsi;generalize s[i].toNat=n at e hw;refine G.a b off s.length c i 1 hlt ?_;refine G.lU none b (off+i*1) (.int .u8 (n:Int)) e ?_;by_cases hle:97<=n/\n<=122
  ·refine G.cmpG .geq .u8 (n:Int) 97 true kV rfl (by simp[B4];omega) ?_;refine G.cmpG .leq .u8 (n:Int) 122 true kV rfl (by simp[B4];omega) ?_;refine G.i i ?_;exact G.b (hJ (i+1) _ _ _ cV l2 ⟨oV,rfl⟩ oV)
  ·obtain⟨hi0,hd⟩:=hw.resolve_left hle;by_cases h97:97<=n
   ·refine G.cmpG .geq .u8 (n:Int) 97 true kV rfl (by simp[B4];omega) ?_;refine G.cmpG .leq .u8 (n:Int) 122 false kV rfl (by simp[B4];omega) ?_;refine G.eF (i:Int) 0 ?_;by_cases h45:n=45
    ·refine G.cmpG .neq .u8 (n:Int) 45 false kV rfl (by simp[B4];omega) ?_;refine G.i i ?_;exact G.b (hJ (i+1) _ _ _ cV l2 ⟨oV,rfl⟩ oV)
    ·refine G.cmpG .neq .u8 (n:Int) 45 true kV rfl (by simp[B4];omega) ?_;refine G.cmpG .lss .u8 (n:Int) 48 false kV rfl (by simp[B4];omega) ?_;refine G.cmpG .gtr .u8 (n:Int) 57 false kV rfl (by simp[B4];omega) ?_;refine G.i i ?_;exact G.b (hJ (i+1) _ _ _ cV l2 ⟨oV,rfl⟩ oV)
   ·refine G.cmpG .geq .u8 (n:Int) 97 false kV rfl (by simp[B4];omega) ?_;refine G.eF (i:Int) 0 ?_;by_cases h45:n=45
    ·refine G.cmpG .neq .u8 (n:Int) 45 false kV rfl (by simp[B4];omega) ?_;refine G.i i ?_;exact G.b (hJ (i+1) _ _ _ cV l2 ⟨oV,rfl⟩ oV)
    ·refine G.cmpG .neq .u8 (n:Int) 45 true kV rfl (by simp[B4];omega) ?_;refine G.cmpG .lss .u8 (n:Int) 48 false kV rfl (by simp[B4];omega) ?_;refine G.cmpG .gtr .u8 (n:Int) 57 false kV rfl (by simp[B4];omega) ?_;refine G.i i ?_;exact G.b (hJ (i+1) _ _ _ cV l2 ⟨oV,rfl⟩ oV)
 ·obtain rfl:i=s.length:=oV
  refine G.lF (s.length:Int) (s.length:Int) ?_;have hq:∀ x:Int,x=(s.length:Int)->1<=x/\x<=12:=fun x hx=>oV
  refine G.hT (s.length:Int) 1 ?_;refine G.kT (s.length:Int) 12 ?_;exact G.r (.bool true) ⟨rfl,rfl⟩
theorem Aay {p:Par}(h:PV p):Fn0 prog 233 [An p] u fun v _=>v=.bool true:=by
 refine Fn0.o func233 ?_;refine G.hT' p.1 (-1) (by have:=h.lo;omega) ?_;by_cases hc:p.2 = []
 ·refine G.q p.2 [] hc ?_;exact G.r (.bool true) ⟨rfl,rfl⟩
 ·refine G.w p.2 [] hc ?_;refine G.c call208 (Ajx (h.cat.resolve_left hc)) ?_;rintro v1 u1 l1 rfl;exact G.r (.bool true) ⟨rfl,rfl⟩
theorem Aqd (h:PV x.1)(hx:Tx x.2)(h0:x.2≠0):Fn0 prog 232 [A5 x] u fun v _=>v=.bool false:=by
 refine Fn0.o func232 ?_;refine G.c call233 (Aay h) ?_;rintro v1 u1 l1 rfl;refine G.c call234 (Ahr hx h0) ?_;rintro v2 u2 l2 rfl;exact G.r (.bool false) ⟨rfl,rfl⟩
theorem Ap5 {x:(Par×Par)×Rat}(h:PV x.1.1)(h':PV x.1.2)(ho:¬ 0<A8 x.1.1 x.1.2)(hx:Tx x.2)(h0:x.2≠0):Fn0 prog 236 [Da x] u fun v _=>v=.bool false:=by
 refine Fn0.o func236 ?_;refine G.c call233 (Aay h) ?_;rintro v1 u1 l1 rfl;refine G.c call233 (Aay h') ?_;rintro v2 u2 l2 rfl;refine G.c call206 (U5 x.1.2 x.1.1 false (decide_eq_false fun e=>ho ((Dp.sym _ _).1 e))) ?_;rintro v3 u3 l3 rfl;refine G.c call234 (Ahr hx h0) ?_;rintro v4 u4 l4 rfl;exact G.r (.bool false) ⟨rfl,rfl⟩
theorem Aod {x y:Par×Rat}(h:A8 x.1 y.1<0):Fn0 prog 238 [A5 x,A5 y] u fun v _=>v=.bool true:=by
 refine Fn0.o func238 ?_;refine G.c call206 (U5 x.1 y.1 true (decide_eq_true h)) ?_;rintro v1 u1 l1 rfl;exact G.r (.bool true) ⟨rfl,rfl⟩
theorem Aog {x y:(Par×Par)×Rat}(h:Lg x.1 y.1<0):Fn0 prog 240 [Da x,Da y] u fun v _=>v=.bool true:=by
 refine Fn0.o func240 ?_;by_cases h1:A8 x.1.1 y.1.1<0
 ·refine G.c call206 (U5 x.1.1 y.1.1 true (decide_eq_true h1)) ?_;rintro v1 u1 l1 rfl;exact G.r (.bool true) ⟨rfl,rfl⟩
 ·have h2:A8 x.1.1 y.1.1=0/\A8 x.1.2 y.1.2<0:=by
   unfold Lg at h;split at h
   ·exact absurd h h1
   ·rename_i e;exact⟨by simpa using e,h⟩
  have he:=Dp.eq _ _ h2.1;refine G.c call206 (U5 x.1.1 y.1.1 false (decide_eq_false h1)) ?_;rintro v1 u1 l1 rfl;refine G.eqAgg 79 #[.int .i64 x.1.1.1,.string (mkS x.1.1.2)] #[.int .i64 y.1.1.1,.string (mkS y.1.1.2)] true kV kV kV (fun w=>by rw[<-decide_eq_true he];exact Bt.eq x.1.1 y.1.1 w) ?_;refine G.c call206 (U5 x.1.2 y.1.2 true (decide_eq_true h2.2)) ?_;rintro v2 u2 l2 rfl;exact G.r (.bool true) ⟨rfl,rfl⟩
theorem Al0 {u:PH}{v:Value}{T:List (Par×Rat)}{fid:Nat}(h:Ab u v 3 (T.map A5))(hl:T.length<=1000000)
 (hcall:∀ args w,(callFunc fid args).run prog w=.ok (.enter fid args) w) (hf:∀ p∈T,∀ u',PH.le u u'->Fn0 prog fid [A5 p] u' fun v _=>v=.bool false) :
 Fn0 prog 241 [v,.func (.func fid) #[] #[]] u fun v' _=>v'=.int .i64 (-1):=by
 obtain⟨a,c,rfl⟩:=h.opn;rw[A0p]at h⊢;refine Fn0.o func241 ?_;refine G.l (ι:=Nat) (fun i=>[(0,sV a T.length c),(1,.v (.func (.func fid) #[] #[])),(7,iV T.length),(8,iV i)]) (fun _=>[])
  (fun i u' m'=>i<=T.length/\m'=PH.mt) (fun i=>T.length-i) 0 ⟨oV,rfl⟩ ?_
 rintro J i hJ u1 m1 l1 ⟨hi,rfl⟩;by_cases hlt:i<T.length
 ·refine G.lT (i:Int) (T.length:Int) ?_;have hTi:T[i]?=some T[i]:=A0n hlt;obtain⟨ba,oa,rfl,ea⟩:=Ab.at' (h.mono l1) (j:=i) (e:=A5 T[i]) (by simp[hTi]);refine G.a ba oa T.length c i 3 oV ?_;refine G.lU (some 3) ba (oa+i*3) (A5 T[i]) ea ?_;refine G.call0 fid [A5 T[i]] kV hcall (hf T[i] (A04 hlt) u1 l1) ?_;rintro v2 u2 l2 rfl;refine G.i i ?_;exact G.b (hJ (i+1) _ _ _ cV (l1.trans l2) ⟨oV,rfl⟩ oV)
 ·obtain rfl:i=T.length:=oV
  refine G.lF (T.length:Int) (T.length:Int) ?_;exact G.r (.int .i64 (-1)) ⟨rfl,rfl⟩
theorem T0 {u:PH}{v:Value}{T:List (Par×Rat)}{fid:Nat}(h:Ab u v 3 (T.map A5))(hl:T.length<=1000000)
 (hcall:∀ args w,(callFunc fid args).run prog w=.ok (.enter fid args) w) (hf:∀ p∈T,∀ u',PH.le u u'->Fn0 prog fid [A5 p] u' fun v _=>v=.bool false) :
 Fn0 prog 185 [v,.func (.func fid) #[] #[]] u fun v' _=>v'=.bool false:=by
 obtain⟨a,c,rfl⟩:=h.opn;refine Fn0.o func185 ?_;refine G.c call241 (Al0 h hl hcall hf) ?_;rintro v1 u1 l1 rfl;refine G.hF (-1) 0 ?_;exact G.r (.bool false) ⟨rfl,rfl⟩
theorem Zs {u:PH}{v:Value}{T:List (Par×Rat)}{fid:Nat}(h:Ab u v 3 (T.map A5))(hl:T.length<=1000000)
 (hcall:∀ args w,(callFunc fid args).run prog w=.ok (.enter fid args) w) (hf:∀ (i:Nat) x y,T[i]?=some x->T[i+1]?=some y->∀ u',Fn0 prog fid [A5 x,A5 y] u' fun v _=>v=.bool true) :
 Fn0 prog 237 [v,.func (.func fid) #[] #[]] u fun v' _=>v'=.bool true:=by
 obtain⟨a,c,rfl⟩:=h.opn;rw[A0p]at h⊢;refine Fn0.o func237 ?_;refine G.l (ι:=Nat) (fun i=>[(0,sV a T.length c),(1,.v (.func (.func fid) #[] #[])),(5,iV (i+1:Nat))]) (fun _=>[])
  (fun i u' m'=>i<=T.length/\m'=PH.mt) (fun i=>T.length-i) 0 ⟨oV,rfl⟩ ?_
 rintro J i hJ u1 m1 l1 ⟨hi,rfl⟩;by_cases hlt:i+1<T.length
 ·refine G.lT ((i+1:Nat):Int) (T.length:Int) ?_;have hTi:T[i]?=some T[i]:=A0n oV;have hTj:T[i+1]?=some T[i+1]:=A0n hlt;obtain⟨ba,oa,rfl,ea⟩:=Ab.at' (h.mono l1) (j:=i) (e:=A5 T[i]) (by simp[hTi]);obtain⟨_,_,e',eb⟩:=Ab.at' (h.mono l1) (j:=i+1) (e:=A5 T[i+1]) (by simp[hTj]);cases e';refine G.s ((i+1:Nat):Int) 1 (i:Int) ?_;refine G.a ba oa T.length c i 3 oV ?_;refine G.lU (some 3) ba (oa+i*3) (A5 T[i]) ea ?_;refine G.a ba oa T.length c (i+1) 3 oV ?_;refine G.lU (some 3) ba (oa+(i+1)*3) (A5 T[i+1]) eb ?_;refine G.call0 fid [A5 T[i],A5 T[i+1]] kV hcall (hf i _ _ hTi hTj u1) ?_;rintro v2 u2 l2 rfl;refine G.p ((i+1:Nat):Int) 1 ((i+1+1:Nat):Int) ?_;exact G.b (hJ (i+1) _ _ _ cV (l1.trans l2) ⟨oV,rfl⟩ oV)
 ·refine G.lF ((i+1:Nat):Int) (T.length:Int) ?_;exact G.r (.bool true) ⟨rfl,rfl⟩
theorem Akg {u:PH}{v:Value}{T:List ((Par×Par)×Rat)}{fid:Nat}(h:Ab u v 5 (T.map Da))(hl:T.length<=1000000)
 (hcall:∀ args w,(callFunc fid args).run prog w=.ok (.enter fid args) w) (hf:∀ p∈T,∀ u',PH.le u u'->Fn0 prog fid [Da p] u' fun v _=>v=.bool false) :
 Fn0 prog 276 [v,.func (.func fid) #[] #[]] u fun v' _=>v'=.int .i64 (-1):=by
 obtain⟨a,c,rfl⟩:=h.opn;rw[A0p]at h⊢;refine Fn0.o func276 ?_;refine G.l (ι:=Nat) (fun i=>[(0,sV a T.length c),(1,.v (.func (.func fid) #[] #[])),(7,iV T.length),(8,iV i)]) (fun _=>[])
  (fun i u' m'=>i<=T.length/\m'=PH.mt) (fun i=>T.length-i) 0 ⟨oV,rfl⟩ ?_
 rintro J i hJ u1 m1 l1 ⟨hi,rfl⟩;by_cases hlt:i<T.length
 ·refine G.lT (i:Int) (T.length:Int) ?_;have hTi:T[i]?=some T[i]:=A0n hlt;obtain⟨ba,oa,rfl,ea⟩:=Ab.at' (h.mono l1) (j:=i) (e:=Da T[i]) (by simp[hTi]);refine G.a ba oa T.length c i 5 oV ?_;refine G.lU (some 5) ba (oa+i*5) (Da T[i]) ea ?_;refine G.call0 fid [Da T[i]] kV hcall (hf T[i] (A04 hlt) u1 l1) ?_;rintro v2 u2 l2 rfl;refine G.i i ?_;exact G.b (hJ (i+1) _ _ _ cV (l1.trans l2) ⟨oV,rfl⟩ oV)
 ·obtain rfl:i=T.length:=oV
  refine G.lF (T.length:Int) (T.length:Int) ?_;exact G.r (.int .i64 (-1)) ⟨rfl,rfl⟩
theorem Abi {u:PH}{v:Value}{T:List ((Par×Par)×Rat)}{fid:Nat}(h:Ab u v 5 (T.map Da))(hl:T.length<=1000000)
 (hcall:∀ args w,(callFunc fid args).run prog w=.ok (.enter fid args) w) (hf:∀ p∈T,∀ u',PH.le u u'->Fn0 prog fid [Da p] u' fun v _=>v=.bool false) :
 Fn0 prog 235 [v,.func (.func fid) #[] #[]] u fun v' _=>v'=.bool false:=by
 obtain⟨a,c,rfl⟩:=h.opn;refine Fn0.o func235 ?_;refine G.c call276 (Akg h hl hcall hf) ?_;rintro v1 u1 l1 rfl;refine G.hF (-1) 0 ?_;exact G.r (.bool false) ⟨rfl,rfl⟩
theorem Yj {u:PH}{v:Value}{T:List ((Par×Par)×Rat)}{fid:Nat}(h:Ab u v 5 (T.map Da))(hl:T.length<=1000000)
 (hcall:∀ args w,(callFunc fid args).run prog w=.ok (.enter fid args) w) (hf:∀ (i:Nat) x y,T[i]?=some x->T[i+1]?=some y->∀ u',Fn0 prog fid [Da x,Da y] u' fun v _=>v=.bool true) :
 Fn0 prog 239 [v,.func (.func fid) #[] #[]] u fun v' _=>v'=.bool true:=by
 obtain⟨a,c,rfl⟩:=h.opn;rw[A0p]at h⊢;refine Fn0.o func239 ?_;refine G.l (ι:=Nat) (fun i=>[(0,sV a T.length c),(1,.v (.func (.func fid) #[] #[])),(5,iV (i+1:Nat))]) (fun _=>[])
  (fun i u' m'=>i<=T.length/\m'=PH.mt) (fun i=>T.length-i) 0 ⟨oV,rfl⟩ ?_
 rintro J i hJ u1 m1 l1 ⟨hi,rfl⟩;by_cases hlt:i+1<T.length
 ·refine G.lT ((i+1:Nat):Int) (T.length:Int) ?_;have hTi:T[i]?=some T[i]:=A0n oV;have hTj:T[i+1]?=some T[i+1]:=A0n hlt;obtain⟨ba,oa,rfl,ea⟩:=Ab.at' (h.mono l1) (j:=i) (e:=Da T[i]) (by simp[hTi]);obtain⟨_,_,e',eb⟩:=Ab.at' (h.mono l1) (j:=i+1) (e:=Da T[i+1]) (by simp[hTj]);cases e';refine G.s ((i+1:Nat):Int) 1 (i:Int) ?_;refine G.a ba oa T.length c i 5 oV ?_;refine G.lU (some 5) ba (oa+i*5) (Da T[i]) ea ?_;refine G.a ba oa T.length c (i+1) 5 oV ?_;refine G.lU (some 5) ba (oa+(i+1)*5) (Da T[i+1]) eb ?_;refine G.call0 fid [Da T[i],Da T[i+1]] kV hcall (hf i _ _ hTi hTj u1) ?_;rintro v2 u2 l2 rfl;refine G.p ((i+1:Nat):Int) 1 ((i+1+1:Nat):Int) ?_;exact G.b (hJ (i+1) _ _ _ cV (l1.trans l2) ⟨oV,rfl⟩ oV)
 ·refine G.lF ((i+1:Nat):Int) (T.length:Int) ?_;exact G.r (.bool true) ⟨rfl,rfl⟩
theorem U4 {κ:Type}{c:κ->κ->Int}{T:List (κ×Rat)}(h:Ef c (T.map (·.1))){x y:κ×Rat}(hx:T[i]?=some x)(hy:T[i+1]?=some y):c x.1 y.1<0:=by
 obtain⟨h1,rfl⟩:=A0s.1 hx;obtain⟨h2,rfl⟩:=A0s.1 hy;have:=A3q.1 h i (i+1) (by simpa using h1) (by simpa using h2) oV;simpa using this
theorem Ah4 {v:Value}{F:CF}{K:Nat}(hv:H7 u v F K)(sF:CFS F)(vF:CFV F)(hK:K<=1000000):Fn0 prog 184 [v] u fun v' _=>v'=.bool true:=by
 obtain⟨T,Q,a1,c1,a2,c2,rfl,hT,hQ,cT,cQ,kT,kQ⟩:=hv;refine Fn0.o func184 ?_;refine G.c call154 (Aqm (SB.tx sF.c)) ?_;rintro v1 u1 l1 rfl;refine G.c call185 (T0 (fid:=232) (hT.mono l1) oV call232 (fun p hp u' _=>by
  obtain⟨e1,e2⟩:=cT.val p hp;exact Aqd (vF.s _ (by rw[<-e1];exact e2)) (SB.tx (by rw[e1];exact sF.s _)) e2)) ?_
 rintro v2 u2 l2 rfl;refine G.c call235 (Abi (fid:=236) (hQ.mono (l1.trans l2)) oV call236 (fun p hp u' _=>by
  obtain⟨e1,e2⟩:=cQ.val p hp;obtain⟨f1,f2,f3⟩:=vF.t p.1 (by rw[<-e1];exact e2);exact Ap5 f1 f2 f3 (SB.tx (by rw[e1];exact sF.t _)) e2)) ?_
 rintro v3 u3 l3 rfl;refine G.c call237 (Zs (fid:=238) (hT.mono ((l1.trans l2).trans l3)) oV call238 (fun i x y hx hy u'=>Aod (U4 cT.srt hx hy))) ?_;rintro v4 u4 l4 rfl;refine G.c call239 (Yj (fid:=240) (hQ.mono (((l1.trans l2).trans l3).trans l4)) oV call240 (fun i x y hx hy u'=>Aog (U4 cQ.srt hx hy))) ?_;rintro v5 u5 l5 rfl;exact G.r (.bool true) ⟨rfl,rfl⟩
end
section
variable {F:CF}{K:Nat}{u:PH}{v:Value}
section
variable {P:Program}
theorem Auv {t:TypeId}(h:P.underlying t=some .string)(d:Nat)(s:List UInt8)(w:World):(Op.equalIn (d+1) t (.string (mkS s)) (.string (mkS s))).run P w=.ok true w:=by
 rw[run_equalIn_string w d _ _ _ h,Amp];simp
theorem Aw4 {t tp ti ts tr:TypeId}{k:IntKind}(hf:(P.fieldsOf t).toList.map Kk = [(true,tp,0),(true,tr,2)])(ht:P.underlying t=some (.struct (P.fieldsOf t)))(hp:P.stoodInHeld t=false)
 (hf':(P.fieldsOf tp).toList.map Kk = [(true,ti,0),(true,ts,1)]) (ht':P.underlying tp=some (.struct (P.fieldsOf tp))) (hp':P.stoodInHeld tp=false) (hsz:szB P tp=some 2) (hi:P.underlying ti=some (.int k)) (hs:P.underlying ts=some .string) (hr:P.underlying tr=some .string) (d:Nat) (x:Par×Rat) (w:World) :
 (Op.equalIn (d+3) t (A5 x) (A5 x)).run P w=.ok true w:=by
 have hag:Jr P tp=some true:=by unfold Jr;rw[ht']
 unfold A5;rw[run_equalIn_struct w (d+2) t _ _ ht hp];generalize (P.fieldsOf t).toList=fs at hf;obtain⟨f,g,hfs⟩:=Q9 hf;subst hfs;simp only[A1y,A5o,A18,Kk,A1r,bne_iff_ne,ne_eq,and_true]at hf;obtain⟨⟨n1,e1,o1⟩,n2,e2,o2⟩:=hf;obtain⟨⟨a1,a2⟩,a3⟩:=x;simp only[Op.eqFields,ne_eq,n1,n2,not_false_eq_true,if_true,A1n,e1,e2,o1,o2];rw[Cw hag hsz,A0y,Cw hag hsz,A0y];have q1:=Aqx hf' ht' hp' hi hs d (a1,a2) (a1,a2) w;unfold An at q1;have x1:(#[A15 .i64 a1,.string (mkS a2),.string (mkS (Af a3))].extract 0 (0+2)) = #[.int .i64 a1,.string (mkS a2)]:=rfl;simp only[x1,q1,A0y,decide_true,A56,A3c,if_false,A1n];rw[Hc (M2 hr) (v:=.string (mkS (Af a3))) rfl,A0y,Hc (M2 hr) (v:=.string (mkS (Af a3))) rfl,A0y,Auv hr];simp
end
theorem Azm (x:Par×Rat)(w:World):(Op.equal 81 (A5 x) (A5 x)).run prog w=.ok true w :=
 Aw4 (P:=prog) (t:=81) (tp:=79) (ti:=3) (ts:=9) (tr:=33) (k:=.i64) kV kV kV kV kV kV kV kV kV kV 9997 x w
def Apm (u:PH)(v:Value)(F:CF)(K:Nat):Prop:=∃ r,v=.tuple #[r,.int .i64 0]/\H7 u r F K
theorem H7.opn (h:H7 u v F K):∃ a1 n1 c1 a2 n2 c2,v=.agg #[.string (mkS (Af F.c)),.slice a1 n1 c1,.slice a2 n2 c2]:=by
 obtain⟨T,Q,a1,c1,a2,c2,rfl,_⟩:=h;exact⟨_,_,_,_,_,_,rfl⟩
theorem S3 {N:Nat}(h:Mf u v F N):∃ b a n c b' a' n' c' g1 g2,v=.agg #[.bool b,.slice a n c,.bool b',.slice a' n' c',.map (some g1),.map (some g2)]:=by
 obtain⟨b,a,n,c,b',a',n',c',g1,g2,o1,o2,e,_⟩:=h;exact⟨_,_,_,_,_,_,_,_,_,_,e⟩
theorem A0i (hv:H7 u v F K)(sF:CFS F)(hK:K<=1000000):Fn0 prog 75 [v] u fun v' u'=>Mf u' v' F K :=
 Fn0.weak (Ai.giveAll (of0 hv sF hK)) fun v u' ⟨u1,m1,l1,l2,h⟩=>h.give l1 l2
def CF.num (k:Rat):CF:=⟨k,fun _=>0,fun _=>0⟩
end
section
variable {b c n:Nat}{x:List UInt8}
section rules
variable [Cc] {P:Program} [Ba P] {fn:Func} {Post:B0} {st:List KI×S} {u m:PH}
def FnK (P:Program)(f:FuncId)(args:List Value)(u m:PH)(R:Value->PH->Prop):Prop:=Ai P f args u m fun v u' m'=>m'=m/\R v u'
theorem FnK.of {R:Value->PH->Prop}{f:FuncId}{args:List Value}(hf:P.funcs[f]?=some fn)(hb:fn.body.isSome=true)(hn:Nat.ble args.length fn.ntmps=true)(h:G P fn ⟨fun v u' m'=>m'=m/\R v u',m⟩ (st0 fn args) u m):FnK P f args u m R:=Ai.of hf hb hn h
theorem G.callK (f:Nat)(args:List Value){R:Value->PH->Prop}(h:Al P (adv P st)=.call f args)(hc:∀ args w,(callFunc f args).run P w=.ok (.enter f args) w)(c:FnK P f args u m R)
 (k:∀ v u',PH.le u u'->R v u'->G P fn Post (nx (adv P st) v) u' m):G P fn Post st u m:=by
 refine G.big (K:=fun v u' m'=>m'=m/\R v u') h mV Fm (.inl fun v u' m' hK=>by rw[hK.1];exact fun g o hg=>hg) (fun env o hview w hgd=>?_) (fun v u' m' h1 h2=>?_)
 ·refine Lz hview hc w _ (Calls.mono (c w hgd) fun e w' he=>?_);obtain⟨v,u',m',e1,e2,e3,e4⟩:=he;exact⟨v,e1,u',m',e2,e3,e4⟩
 ·obtain⟨rfl,hR⟩:=h2;exact k v u' h1 hR
end rules
section
theorem Akl {u m:PH}(L:List (List UInt8))(hn:n<=L.length)(hl:n<=1000000)(hE:∀ j s,L[j]?=some s->ElP m b (0+j*1) (.string (mkS s)))(hx:∀ j s,j<n->L[j]?=some s->s≠x) :
 FnK prog 331 [.slice (some ⟨b,0,none⟩) n c,.string (mkS x)] u m fun v _=>v=.int .i64 (-1):=by
 refine FnK.of func331 kV kV ?_;refine G.l (ι:=Nat) (fun i=>[(0,sV (some ⟨b,0,none⟩) n c),(1,tV x),(7,iV n),(8,iV i)]) (fun _=>[])
  (fun i u' m'=>i<=n/\m'=m) (fun i=>n-i) 0 ⟨oV,rfl⟩ ?_
 rintro J i hJ u1 m1 l1 ⟨hi,rfl⟩;by_cases hlt:i<n
 ·refine G.lT (i:Int) (n:Int) ?_;have hTi:L[i]?=some L[i]:=A0n oV;refine G.a b 0 n c i 1 hlt ?_;refine G.lM none b (0+i*1) (.string (mkS L[i])) (hE i _ hTi) ?_;refine G.w x L[i] (fun e=>hx i _ hlt hTi e.symm) ?_;refine G.i i ?_;exact G.b (hJ (i+1) _ _ _ cV l1 ⟨oV,rfl⟩ oV)
 ·obtain rfl:i=n:=oV
  refine G.lF (i:Int) (i:Int) ?_;exact G.r (.int .i64 (-1)) ⟨rfl,rfl⟩
theorem Abd {u m:PH}(L:List (List UInt8))(hn:n<=L.length)(hl:n<=1000000)(hE:∀ j s,L[j]?=some s->ElP m b (0+j*1) (.string (mkS s)))(hx:∀ j s,j<n->L[j]?=some s->s≠x) :
 FnK prog 302 [.slice (some ⟨b,0,none⟩) n c,.string (mkS x)] u m fun v _=>v=.bool false:=by
 refine FnK.of func302 kV kV ?_;refine G.callK _ _ kV call331 (Akl (c:=c) L hn hl hE hx) ?_;rintro v1 u1 l1 rfl;refine G.hF (-1) 0 ?_;exact G.r (.bool false) ⟨rfl,rfl⟩
structure Oh (L:List (List UInt8)):Prop where
 word:∀ s∈L,Gw s=true
 nodup:L.Nodup
theorem Ah3 {u m:PH}{b k c:Nat}{L:List (List UInt8)}(h:Oh L)(hl:L.length<=1000)(hc:L.length<=c)(hk:L[k]?=some x)(hE:∀ j s,L[j]?=some s->ElP m b (0+j*1) (.string (mkS s))) :
 FnK prog 254 [.slice (some ⟨b,0,none⟩) L.length c,.int .i64 (k:Int)] u m fun v _=>v=.int .i64 0:=by
 obtain⟨hkl,hkx⟩:=A0s.1 hk;refine FnK.of func254 kV kV ?_;refine G.a b 0 L.length c k 1 hkl ?_;refine G.lM none b (0+k*1) (.string (mkS x)) (hE k x hk) ?_;refine G.c call208 (Ajx (h.word x (A1b hk))) ?_;rintro v1 u1 l1 rfl;refine G.sliceTo 1 (some ⟨b,0,none⟩) L.length c k kV oV ?_;refine G.a b 0 L.length c k 1 hkl ?_;refine G.lM none b (0+k*1) (.string (mkS x)) (hE k x hk) ?_;refine G.callK _ _ kV call302 (Abd (n:=k) (c:=c) (x:=x) L oV oV hE fun j s hj hs e=>?_) ?_
 ·obtain⟨hjl,hjx⟩:=A0s.1 hs;have:=(A9b (h₀:=hjl) (h₁:=hkl) h.nodup).1 (by rw[hjx,hkx,e]);omega
 rintro v2 u2 l2 rfl;exact G.r (.int .i64 0) ⟨rfl,rfl⟩
def D0 (a:List UInt8×Nat):Value:=.agg #[.string (mkS a.1),.int .i64 (a.2:Int)]
def nmV (s:List UInt8):Value:=.string (mkS s)
theorem G4 (L:List (List UInt8)):A3 1 (L.map nmV):=by
 intro e he;obtain⟨s,_,rfl⟩:=A0u.1 he;exact⟨rfl,A08.1 rfl⟩
end
end
section
structure Ah7 (T:List (List UInt8×Nat)):Prop where
 names:Oh (T.map (·.1))
 kind:∀ a∈T,1<=a.2/\a.2<=3
theorem Oh.take {L:List (List UInt8)}(h:Oh L)(k:Nat):Oh (L.take k):=⟨fun s hs=>h.word s (List.mem_of_mem_take hs),h.nodup.sublist (List.take_sublist _ _)⟩
theorem getElem?_snoc_last {α:Type}(l:List α)(x:α):(l++[x])[l.length]?=some x:=mV
theorem X7 {u:PH}{v w x y:Value}{T:List (List UInt8×Nat)}(h:Ab u v 2 (T.map D0))(ok:Ah7 T)(hl:T.length<=1000)(hw:∃ a n c,w=.slice a n c)(hx:∃ a n c,x=.slice a n c)(hy:∃ z:Int,y=.int .i64 z) :
 Fn0 prog 202 [.agg #[v,w,x,y]] u fun r _=>r=.int .i64 0:=by
 obtain⟨a,c,rfl⟩:=h.opn;obtain⟨wa,wn,wc,rfl⟩:=hw;obtain⟨xa,xn,xc,rfl⟩:=hx;obtain⟨z,rfl⟩:=hy;rw[A0p]at h⊢;refine Fn0.o func202 ?_;refine G.l (ι:=Nat×(Option Addr×Nat×Nat)) (fun i=>[(3,sV i.2.1 i.2.2.1 i.2.2.2),(8,sV a T.length c),(9,iV T.length),(10,iV i.1)]) (fun _=>[])
  (fun i u' m'=>i.1<=T.length/\Ae PH.mt m' (.slice i.2.1 i.2.2.1 i.2.2.2) 9 1 (((T.map (·.1)).take i.1).map nmV)) (fun i=>T.length-i.1) (0,(none,0,0)) ⟨mV,Ae.nil _ _ _⟩ ?_
 rintro J ⟨i,na,nn,nc⟩ hJ u1 m1 l1 ⟨hi,hA⟩;simp only at hi hA hJ;by_cases hlt:i<T.length
 ·refine G.lT (i:Int) (T.length:Int) ?_;have hTi:T[i]?=some T[i]:=A0n hlt;have hki:=ok.kind T[i] (A04 hlt);have htk:((T.map (·.1)).take (i+1))=(T.map (·.1)).take i++[T[i].1]:=by
   rw[A1c,A0v,hTi];rfl
  have hnames:=ok.names.take (i+1);rw[htk]at hnames;have hlen:((T.map (·.1)).take i).length=i:=gV
  generalize hL:(T.map (·.1)).take i=L at hA htk hnames hlen;obtain⟨ba,oa,rfl,ea⟩:=Ab.at' (h.mono l1) (j:=i) (e:=D0 T[i]) (by simp[hTi]);generalize T[i]=q at ea hki htk hnames;refine G.a ba oa T.length c i 2 hlt ?_;refine G.lU (some 2) ba (oa+i*2) (.agg #[.string (mkS q.1),.int .i64 (q.2:Int)]) ea ?_;refine G.B 9 1 16 (.string (mkS [])) [.string (mkS q.1)] (G4 [q.1]) ?_;intro g2 u2 l2 e2;refine G.k 9 1 16 (.string (mkS [])) PH.mt (L.map nmV) [.string (mkS q.1)] (.slice na nn nc) g2 0 1 1 hA e2 (G4 [q.1]) ?_;intro v3 m3 hA3;rw[show L.map nmV++[.string (mkS q.1)]=(L++[q.1]).map nmV by rw[A07];rfl]at hA3;obtain⟨b3,c3,rfl⟩:=hA3.ptr mV;have hcap:=hA3.cap;rw[A0p]at hA3 hcap⊢;refine G.callK _ _ kV call254 (Ah3 (b:=b3) (k:=i) (c:=c3) (x:=q.1) (L:=L++[q.1]) hnames gV hcap (by rw[<-hlen];exact getElem?_snoc_last L q.1) fun j s hs=>hA3.el (by rw[A0v,hs];rfl)) ?_;rintro v4 u4 l4 rfl;refine G.nF 0 0 ?_;refine G.lF (q.2:Int) 1 ?_;refine G.gF (q.2:Int) 3 ?_;refine G.i i ?_;exact G.b (hJ (i+1,(some ⟨b3,0,none⟩,(L++[q.1]).length,c3)) _ _ _ cV ((l1.trans l2).trans l4) ⟨dV,by dsimp only;rw[htk];exact hA3⟩ dV)
 ·obtain rfl:i=T.length:=oV
  refine G.lF (T.length:Int) (T.length:Int) ?_;refine G.pastI ?_;refine G.drop PH.mt kV (PH.mt_le _) ?_;exact G.r (.int .i64 0) ⟨rfl,rfl⟩
end
section
variable {α:Type}
abbrev Ao:Type:=Nat×Nat×Nat
def B6 (f:Ao):Value:=.agg #[.int .i64 (f.1:Int),.int .i64 (f.2.1:Int),.int .i64 (f.2.2:Int)]
def Aj3 {α:Type}(p:α->Bool)(T:List α):Int:=match T.findIdx? p with|some k=>(k:Int)|none=>-1
theorem Akf {p:α->Bool}{T:List α}{i:Nat}(hi:i<T.length)(h:p T[i]=true)(h0:∀ j (hj:j<i),p (T[j]'oV)=false):Aj3 p T=(i:Int):=by
 have:T.findIdx? p=some i:=List.findIdx?_eq_some_iff_getElem.2 ⟨hi,h,fun j hj=>by simp[h0 j hj]⟩;unfold Aj3;rw[this]
theorem Adk {p:α->Bool}{T:List α}(h0:∀ x∈T,p x=false):Aj3 p T = -1:=by
 have:T.findIdx? p=none:=List.findIdx?_eq_none_iff.2 h0;unfold Aj3;rw[this]
theorem Ak1 {u m:PH}{v cap:Value}{T:List Ao}{fid:Nat}(p:Ao->Bool)(h:Ab u v 3 (T.map B6))(hl:T.length<=1000000)
 (hcall:∀ args w,(callFunc fid args).run prog w=.ok (.enter fid args) w) (hf:∀ f∈T,∀ u',PH.le u u'->FnK prog fid [B6 f,cap] u' m fun v _=>v=.bool (p f)) :
 FnK prog 304 [v,.func (.func fid) #[] #[cap]] u m fun v' _=>v'=.int .i64 (Aj3 p T):=by
 obtain⟨a,c,rfl⟩:=h.opn;rw[A0p]at h⊢;refine FnK.of func304 kV kV ?_;refine G.l (ι:=Nat) (fun i=>[(0,sV a T.length c),(1,.v (.func (.func fid) #[] #[cap])),(7,iV T.length),(8,iV i)]) (fun _=>[])
  (fun i u' m'=>i<=T.length/\(∀ j (hj:j<T.length),j<i->p (T[j]'hj)=false)/\m'=m) (fun i=>T.length-i) 0 ⟨oV,fun j hj h=>oV,rfl⟩ ?_
 rintro J i hJ u1 m1 l1 ⟨hi,h0,rfl⟩;by_cases hlt:i<T.length
 ·refine G.lT (i:Int) (T.length:Int) ?_;have hTi:T[i]?=some T[i]:=A0n hlt;obtain⟨ba,oa,rfl,ea⟩:=Ab.at' (h.mono l1) (j:=i) (e:=B6 T[i]) (by simp[hTi]);refine G.a ba oa T.length c i 3 oV ?_;refine G.lU (some 3) ba (oa+i*3) (B6 T[i]) ea ?_;refine G.callK fid [B6 T[i],cap] kV hcall (hf T[i] (A04 hlt) u1 l1) ?_;rintro v2 u2 l2 rfl;cases hp:p T[i] with
  |true =>
   rw[Akf hlt hp fun j hj=>h0 j oV hj];exact G.r (.int .i64 (i:Int)) ⟨rfl,rfl⟩
  |false =>
   refine G.i i ?_;exact G.b (hJ (i+1) _ _ _ cV (l1.trans l2) ⟨oV,fun j hj h=>by
    rcases (by omega:j<i\/j=i) with e|rfl
    ·exact h0 j hj e
    ·exact hp,rfl⟩ oV)
 ·obtain rfl:i=T.length:=oV
  refine G.lF (T.length:Int) (T.length:Int) ?_;rw[Adk fun x hx=>by obtain⟨j,hj,rfl⟩:=A19 hx;exact h0 j hj hj];exact G.r (.int .i64 (-1)) ⟨rfl,rfl⟩
theorem Jv {u m:PH}{v cap:Value}{T:List Ao}{fid:Nat}(h:Ab u v 3 (T.map B6))(hl:T.length<=1000000)
 (hcall:∀ args w,(callFunc fid args).run prog w=.ok (.enter fid args) w) (hf:∀ f∈T,∀ u',PH.le u u'->FnK prog fid [B6 f,cap] u' m fun v _=>v=.bool false) :
 FnK prog 256 [v,.func (.func fid) #[] #[cap]] u m fun v' _=>v'=.bool false:=by
 obtain⟨a,c,rfl⟩:=h.opn;refine FnK.of func256 kV kV ?_;refine G.callK _ _ kV call304 (Ak1 (cap:=cap) (fun _=>false) h hl hcall hf) ?_;rintro v1 u1 l1 rfl;rw[Adk fun x _=>rfl];refine G.hF (-1) 0 ?_;exact G.r (.bool false) ⟨rfl,rfl⟩
theorem R7 {u m:PH}{f g:Ao}{b:Nat}(hb:ElP m b 0 (B6 g))(hne:f.1≠g.1):FnK prog 257 [B6 f,.pointer (some ⟨b,0,none⟩)] u m fun v _=>v=.bool false:=by
 refine FnK.of func257 kV kV ?_;refine G.f 144 b 0 0 0 ?_;refine G.lM none b (0+0) (.int .i64 (g.1:Int)) (fun i x hx=>?_) ?_
 ·have:i=0/\x=.int .i64 (g.1:Int):=by
   match i,hx with
   |0,hx=>exact⟨rfl,by simpa[A1e] using hx.symm⟩
   |i+1,hx=>simp[A1e]at hx
  obtain⟨rfl,rfl⟩:=this;exact hb 0 _ rfl
 refine G.eF (f.1:Int) (g.1:Int) ?_;exact G.r (.bool false) ⟨rfl,rfl⟩
structure Dk (T:List (List UInt8×Nat))(F:List Ao)(lab:Int):Prop where
 ok:∀ f∈F,∃ n k,T[f.1]?=some (n,k)/\((f.2.1=1/\k=2/\f.2.2<=1)\/(f.2.1=2/\k=3/\f.2.2=0))/\(f.1:Int)≠lab
 nodup:(F.map (·.1)).Nodup
end
section
variable {b:Nat}{m u:PH}
theorem Ab.cap {a:Option Addr}{n c sz:Nat}{es:List Value}(h:Ab u (.slice a n c) sz es):es.length<=c:=by
 obtain⟨_,_,e,hc,_⟩:=h;cases e;exact hc
theorem I6 {b off:Nat}{q:List UInt8×Nat}(h:ElP u b off (D0 q)):ElP u b (off+1) (.int .i64 (q.2:Int)):=fun i x hx=>by
 match i,hx with
 |0,hx =>
  have:x=.int .i64 (q.2:Int):=by simpa[A1e] using hx.symm
  subst this;exact h 1 _ rfl
 |i+1,hx=>simp[A1e]at hx
theorem L6 {t:TypeId}{xs:List Value}{e:Value}(he:e.cells=xs.toArray):ElP (m.upd b (.cells xs.toArray t (0,0))) b 0 e:=fun i x hx=>by
 refine⟨_,_,_,Ac _ _ _,?_⟩;rw[he]at hx;simpa using hx
theorem Abr {g:Ao}(hb:ElP m b 0 (B6 g)):ElP m b (0+0) (.int .i64 (g.1:Int)):=fun i x hx=>by
 match i,hx with
 |0,hx =>
  have:x=.int .i64 (g.1:Int):=by simpa[A1e] using hx.symm
  subst this;exact hb 0 _ rfl
 |i+1,hx=>simp[A1e]at hx
theorem Afk {v w x:Value}{T:List (List UInt8×Nat)}{F:List Ao}{lab:Int}(h:Ab u v 2 (T.map D0))(hF:Ab u x 3 (F.map B6))(ok:Dk T F lab)(hl:T.length<=1000)(hl2:F.length<=1000)(hw:∃ a n c,w=.slice a n c) :
 Fn0 prog 204 [.agg #[v,w,x,.int .i64 lab]] u fun r _=>r=.int .i64 0:=by
 obtain⟨a,c,rfl⟩:=h.opn;obtain⟨a',c',rfl⟩:=hF.opn;obtain⟨wa,wn,wc,rfl⟩:=hw;have hcap:=hF.cap;rw[A0p]at h hF hcap⊢;rw[A0p];refine Fn0.o func204 ?_;refine G.l (ι:=Nat) (fun i=>[(1,.p 0 0),(9,sV a' F.length c'),(10,iV F.length),(11,iV i)]) (fun _=>[(0,⟨31,[sV a T.length c,sV wa wn wc,sV a' F.length c',iV lab]⟩)])
  (fun i u' m'=>i<=F.length/\m'=PH.mt) (fun i=>F.length-i) 0 ⟨oV,rfl⟩ ?_
 rintro J i hJ u1 m1 l1 ⟨hi,rfl⟩;by_cases hlt:i<F.length
 ·refine G.lT (i:Int) (F.length:Int) ?_;have hTi:F[i]?=some F[i]:=A0n hlt;obtain⟨n,k,hk,hkind,hlab⟩:=ok.ok F[i] (A04 hlt);have hdiff:∀ f∈F.take i,f.1≠(F[i]).1:=by
   intro f hf;obtain⟨j,hj,rfl⟩:=A19 hf;rw[A00]at hj;rw[A4t];intro e;have:=(A9b (xs:=F.map (·.1)) (h₀:=by rw[A0p];omega) (h₁:=by rw[A0p];omega) (i:=j) (j:=i) ok.nodup).1 (by rw[A4r,A4r];exact e);omega
  obtain⟨ba,oa,rfl,ea⟩:=Ab.at' (hF.mono l1) (j:=i) (e:=B6 F[i]) (by simp[hTi]);have hTk:=(hF.mono l1).take' i (by rw[A0p];omega);rw[<-List.map_take]at hTk;have htl:(F.take i).length=i:=by rw[A00];omega
  generalize F[i]=f at ea hk hkind hlab hdiff;obtain⟨hkl,hkx⟩:=A0s.1 hk;obtain⟨bb,ob,rfl,eb⟩:=Ab.at' (h.mono l1) (j:=f.1) (e:=D0 (n,k)) (by simp[hk]);refine G.a ba oa F.length c' i 3 hlt ?_;refine G.lU (some 3) ba (oa+i*3) (.agg #[.int .i64 (f.1:Int),.int .i64 (f.2.1:Int),.int .i64 (f.2.2:Int)]) ea ?_;refine G.lF (f.1:Int) 0 ?_;refine G.hF (f.1:Int) (T.length:Int) ?_;refine G.a bb ob T.length c f.1 2 hkl ?_;refine G.f 92 bb (ob+f.1*2) 1 1 ?_;refine G.lU none bb (ob+f.1*2+1) (.int .i64 (k:Int)) (I6 eb) ?_;rcases hkind with ⟨k1,k2,k3⟩|⟨k1,k2,k3⟩
  ·refine G.eT (f.2.1:Int) 1 ?_;refine G.eT (k:Int) 2 ?_;by_cases k0:f.2.2=0
   ·refine G.eT (f.2.2:Int) 0 ?_;refine G.eF (f.2.1:Int) 2 ?_;refine G.pastI ?_;refine G.pub 3003 144 [.int .i64 (f.1:Int),.int .i64 (f.2.1:Int),.int .i64 (f.2.2:Int)] kV kV ?_;intro e2 hu2 hm2;refine G.f 144 e2 0 0 0 ?_;refine G.lM none e2 (0+0) (.int .i64 (f.1:Int)) (Abr (g:=f) (L6 rfl)) ?_;refine G.eF' (f.1:Int) lab hlab ?_;refine G.sliceTo 3 (some ⟨ba,oa,none⟩) F.length c' i kV oV ?_;refine G.callK _ _ kV call256 (Jv hTk (by rw[A00];omega) call257 fun f' hf' u' _=>R7 (g:=f) (L6 rfl) (hdiff f' hf')) ?_;rintro v2 u2 l2 rfl;refine G.drop PH.mt kV (PH.mt_le _) ?_;refine G.i i ?_;exact G.b (hJ (i+1) _ _ _ cV (l1.trans l2) ⟨oV,rfl⟩ oV)
   ·refine G.eF (f.2.2:Int) 0 ?_;refine G.eT (f.2.2:Int) 1 ?_;refine G.eF (f.2.1:Int) 2 ?_;refine G.pastI ?_;refine G.pub 3003 144 [.int .i64 (f.1:Int),.int .i64 (f.2.1:Int),.int .i64 (f.2.2:Int)] kV kV ?_;intro e2 hu2 hm2;refine G.f 144 e2 0 0 0 ?_;refine G.lM none e2 (0+0) (.int .i64 (f.1:Int)) (Abr (g:=f) (L6 rfl)) ?_;refine G.eF' (f.1:Int) lab hlab ?_;refine G.sliceTo 3 (some ⟨ba,oa,none⟩) F.length c' i kV oV ?_;refine G.callK _ _ kV call256 (Jv hTk (by rw[A00];omega) call257 fun f' hf' u' _=>R7 (g:=f) (L6 rfl) (hdiff f' hf')) ?_;rintro v2 u2 l2 rfl;refine G.drop PH.mt kV (PH.mt_le _) ?_;refine G.i i ?_;exact G.b (hJ (i+1) _ _ _ cV (l1.trans l2) ⟨oV,rfl⟩ oV)
  ·refine G.eF (f.2.1:Int) 1 ?_;refine G.eT (f.2.1:Int) 2 ?_;refine G.eT (k:Int) 3 ?_;refine G.eT (f.2.2:Int) 0 ?_;refine G.pastI ?_;refine G.pub 3003 144 [.int .i64 (f.1:Int),.int .i64 (f.2.1:Int),.int .i64 (f.2.2:Int)] kV kV ?_;intro e2 hu2 hm2;refine G.f 144 e2 0 0 0 ?_;refine G.lM none e2 (0+0) (.int .i64 (f.1:Int)) (Abr (g:=f) (L6 rfl)) ?_;refine G.eF' (f.1:Int) lab hlab ?_;refine G.sliceTo 3 (some ⟨ba,oa,none⟩) F.length c' i kV oV ?_;refine G.callK _ _ kV call256 (Jv hTk (by rw[A00];omega) call257 fun f' hf' u' _=>R7 (g:=f) (L6 rfl) (hdiff f' hf')) ?_;rintro v2 u2 l2 rfl;refine G.drop PH.mt kV (PH.mt_le _) ?_;refine G.i i ?_;exact G.b (hJ (i+1) _ _ _ cV (l1.trans l2) ⟨oV,rfl⟩ oV)
 ·obtain rfl:i=F.length:=oV
  refine G.lF (F.length:Int) (F.length:Int) ?_;exact G.r (.int .i64 0) ⟨rfl,rfl⟩
end
end Go.Proofs.YtanfagpabkdmiaaGreatDoor
