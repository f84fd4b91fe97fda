/- Parts of one proof, joined by a program. -/
import Derived.Test.YtanfagpabkdmiaaGreatDoorN12
set_option linter.unusedVariables false
set_option linter.unusedSimpArgs false
set_option linter.unusedSectionVars false
set_option maxHeartbeats 16000000
namespace Go.Proofs.YtanfagpabkdmiaaGreatDoor
open Go.Proofs.Tryz
open Go.RowKit Go.MapKept
open _root_.Array renaming getD_eq_getD_getElem? -> A1f, length_toList -> A29, range -> A6d
open Bool renaming and_eq_true -> A05
open Instr renaming loadAt -> A74, storeAt -> A7p, sureAddr -> A3x
open List renaming Perm.swap -> A4s, all_eq_true -> A08, append_assoc -> A1j, append_nil -> A1i, cons.injEq -> A18, cons_append -> A39, drop_of_length_le -> A1u, eq_nil_of_length_eq_zero -> A13, erase_cons_head -> A2v, erase_cons_tail -> A49, getD_eq_getElem?_getD -> A0o, getElem?_cons_succ -> A38, getElem?_eq_getElem -> A0n, getElem?_eq_some_iff -> A0s, getElem?_map -> A0v, getElem?_set_ne -> A95, getElem?_set_self -> A4v, getElem_map -> A4r, getElem_of_mem -> A19, getElem_take -> A4t, length -> A35, length_append -> A0z, length_cons -> A2n, length_map -> A0p, length_set -> A3u, length_take -> A00, map_append -> A07, map_cons -> A1y, map_map -> A9e, map_set -> A27, mem_append -> A01, mem_cons -> A02, mem_iff_getElem -> A2u, mem_map -> A0u, mem_of_getElem? -> A1b, mem_of_mem_erase -> A93, mem_of_mem_take -> A2r, nil_append -> A2t, not_mem_nil -> A14, range -> A1q, rel_of_pairwise_cons -> A2h, replicate -> A0x, set_cons_succ -> A2c, set_cons_zero -> A2k, take_add_one -> A1c, take_length -> A1k, take_of_length_le -> A03, take_zero -> A3y, toList_toArray -> A2z
open Nat renaming le_refl -> A0w, le_trans -> A0q, one_pos -> A6e, sub_self -> A45, zero_le -> A1m
open Option renaming map_some -> A3h, some.inj -> A2d, toList_some -> Ba1
open Prod renaming mk.injEq -> A1r
open Rat renaming divInt -> A2m
open Value renaming cells -> A1e, slice -> A06, slice.injEq -> A09, string -> Baq
section
variable [Cc] [Dy]
section
variable {P:Program} {id:Nat} {ops:Array Oper} {dr:Bool} {Fin:S->PH->PH->Prop} {c:Cx} {Q:Exit->Act->World->Prop}
def Ar4 (P:Program)(id:Nat)(ops:Array Oper)(post:List Nat)(Fin:S->PH->PH->Prop):Nat->List Nat->S->PH->PH->Prop
 |0,_,s,u,m=>Ob P id ops true Fin post s u m
 |n+1,A,s,u,m=>∀ a∈A,(∀ b∈A,b≠a->bef ops ops.size a b=false)->Ob P id ops true (Ar4 P id ops post Fin n (A.erase a)) [a] s u m
theorem Ob.wpAnyT {s0:S}(hL0:La s0)(hE:(A1q ops.size).all (Hq ops)=true)(hF:∀ s u m ρ a w,Fin s u m->Rel c s u m ρ a w->Q .normal a w){post A0:List Nat}(hpost:∀ y∈post,∀ a∈A0,bef ops ops.size y a=true)(hnd:∀ a∈A0,∀ y∈post,dir ops a y=false) :
 ∀ (n k:Nat) (A pre:List Nat) (listed:Array Bool) {s:S} {u m:PH} {ρ:Nat->Nat} {a:Act} {w:World},A.length=k->(∀ x∈A,x∈A0)->A.Pairwise (fun x y=>dir ops x y=false)->pre.length+(k+post.length)=n->H8 ops listed (pre++(A++post)) ->
  (pre++post).Pairwise (fun x y=>Eg ops s0 x y=true)->(∀ x∈pre,∀ y∈A,Eg ops s0 x y=true)->Ei ops s0 s->Ob P id ops true (Ar4 P id ops post Fin k A) pre s u m->Rel c s u m ρ a w->Go.wpAny P .any ops Q n listed a w:=by
 intro n;induction n with
 |zero =>
  intro k A pre listed s u m ρ a w hk hA0 hAd hlen hLeft hP hPA hag hO hr;obtain rfl:k=0:=oV
  obtain rfl:=A13 hk;exact hLeft.any hL0 hE hF (by simp only[A0z,List.length_nil];omega) hP hag (Ob.append hO) hr
 |succ n ih =>
  intro k A pre listed s u m ρ a w hk hA0 hAd hlen hLeft hP hPA hag hO hr;cases A with
  |nil =>
   simp at hk;subst hk;exact hLeft.any hL0 hE hF gV hP hag (Ob.append hO) hr
  |cons b A' =>
   obtain⟨k,rfl⟩:∃ k',k=k'+1:=⟨k-1,by simp at hk;omega⟩;refine⟨fun hnil=>?_,fun i hi=>?_⟩
   ·exfalso;cases pre with
    |nil =>
     have:=H8.first (t:=b) (T:=A'++post) hLeft hE fun x hx=>by
      rcases A01.1 hx with hx|hx
      ·exact A2h hAd hx
      ·exact hnd b (hA0 b mV) x hx
     rw[hnil]at this;cases this
    |cons t T' =>
     have:=H8.first (t:=t) (T:=T'++(b::A'++post)) hLeft hE fun x hx=>by
      rcases A01.1 hx with hx|hx
      ·exact Dc (A2h hP (by simp[hx]))
      ·rcases A01.1 hx with hx|hx
       ·exact Dc (hPA t mV x hx)
       ·exact Dc (A2h hP (by simp[hx]))
     rw[hnil]at this;cases this
   ·obtain⟨h1,h2,o,ho,hpre⟩:=O5.1 hi;have hm:=(hLeft.mem i h1).1 h2;rcases A01.1 hm with hm|hm
    ·obtain⟨A1,B1,rfl⟩:=List.append_of_mem hm;have hLeft':H8 ops listed (A1++i::(B1++(b::A'++post))):=by
      rw[A1j]at hLeft;exact hLeft
     have hP':(A1++i::(B1++post)).Pairwise (fun x y=>Eg ops s0 x y=true):=by
      rw[A1j]at hP;exact hP
     have hsw:=hLeft'.swaps (A:=A1) (s0:=s0) (fun x hx=>by simp[hx]) ho hpre fun x hx=>(List.pairwise_append.1 hP').2.2 x hx i mV;have hO':=Ob.bubble hL0 A1 hsw hr.lv hag hO;refine wpOp_mono (fun a' w' ⟨s',u',m',ρ',r1,ra,r2⟩=>?_) (hO'.step (Q:=Q) hr);refine ih (k+1) (b::A') (A1++B1) _ hk hA0 hAd (by simp at hlen⊢;omega) (by rw[A1j];exact hLeft'.next ho hpre) ?_ (fun x hx y hy=>hPA x (by simp at hx⊢;rcases hx with h|h<;>simp[h]) y hy) (hag.trans ra) r2 r1
     rw[A1j];exact hP'.sublist (List.Sublist.append_left (List.sublist_cons_self i _) A1)
    ·rcases A01.1 hm with hm|hm
     ·have hpm:(pre++(b::A'++post)).Perm (pre++i::((b::A').erase i++post)):=by
       refine List.Perm.append_left pre ?_;rw[<-A39];exact (List.perm_cons_erase hm).append_right post
      have hLeft':=hLeft.perm hpm;have hsw:=hLeft'.swaps (A:=pre) (s0:=s0) (fun x hx=>by simp[hx]) ho hpre fun x hx=>hPA x hx i hm;have hcond:∀ b'∈b::A',b'≠i->bef ops ops.size i b'=false:=fun b' hb' hne=>by
       cases e:bef ops ops.size i b' with
       |false=>rfl
       |true=>exact (hLeft.no (x:=b') (by simp at hb'⊢;rcases hb' with h|h<;>simp[h]) (Aqq hLeft.cl ops.size i (fun o' ho'=>by rw[ho]at ho';obtain rfl:=A2d ho';exact hpre) e)).elim
      have hO':=Ob.bubble (B:=[]) hL0 pre hsw hr.lv hag (Ob.append (l2:=[i]) (hO.fin fun s u m h=>h i hm hcond));refine wpOp_mono (fun a' w' ⟨s',u',m',ρ',r1,ra,r2⟩=>?_) (hO'.step (Q:=Q) hr);rw[A1i]at r2;exact ih k ((b::A').erase i) pre _ (by rw[List.length_erase_of_mem hm];simp at hk⊢;omega) (fun x hx=>hA0 x (A93 hx)) (hAd.sublist List.erase_sublist) oV (hLeft'.next ho hpre) hP (fun x hx y hy=>hPA x hx y (A93 hy)) (hag.trans ra) r2 r1
     ·exfalso;exact hLeft.no (x:=b) mV (Aqq hLeft.cl ops.size i (fun o' ho'=>by rw[ho]at ho';obtain rfl:=A2d ho';exact hpre) (hpost i hm b (hA0 b mV)))
def Awb (ops:Array Oper):List Nat->Bool
 |[]=>true
 |x::l=>l.all (fun y=>!dir ops x y)&&Awb ops l
theorem As0:∀ {l:List Nat},Awb ops l=true->l.Pairwise (fun x y=>dir ops x y=false)
 |[],_=>.nil
 |x::l,h=>by
  unfold Awb at h;rw[A05,A08]at h;exact .cons (fun y hy=>by simpa using h.1 y hy) (As0 h.2)
def Av0 (ops:Array Oper)(s:S)(pre A post:List Nat):Bool :=
 Nat.beq (pre.length+(A.length+post.length)) ops.size&&(A1q ops.size).all (fun i=>(pre++(A++post)).contains i)&&(pre++(A++post)).all (fun i=>Nat.blt i ops.size)&&decide ((pre++(A++post)).Nodup)&&Lk ops s (pre++post) &&
  pre.all (fun x=>A.all fun y=>Eg ops s x y)&&Awb ops A&&(A1q ops.size).all (Hq ops)&&post.all (fun y=>A.all fun a=>bef ops ops.size y a)&&A.all (fun a=>post.all fun y=>!dir ops a y)
end
section
variable {P:Program} {fn:Func} {Post:B0}
theorem Sym.reg_tree (hm:P.follows .mixedOrders=true){id:Nat}{ops:Array Oper}{pre A post:List Nat}{s:S}(hB:Av0 ops s pre A post=true){k:List KI}{u m:PH}
 (h:Ob P id ops true (Ar4 P id ops post (Oq P fn Post k) A.length A) pre s u m):Oq P fn Post (.code (.region id ops true)::k) s u m:=by
 intro c ρ a w hm0 hr;simp only[Hs,Exit.then];unfold Av0 at hB;simp only[A05]at hB;obtain⟨⟨⟨⟨⟨⟨⟨⟨⟨b1,b2⟩,b3⟩,b4⟩,b5⟩,b6⟩,b7⟩,b8⟩,b9⟩,b10⟩:=hB;have b1:=Nat.eq_of_beq_eq_true b1;rw[A08]at b2 b3 b6 b9 b10;have b4:=of_decide_eq_true b4;refine wp_region_any hm ?_;refine Ob.wpAnyT (c:=c) (A0:=A) hr.lv b8 (fun s u m ρ a w hf hr=>hf c ρ a w hm0 hr) (fun y hy a ha=>by have:=b9 y hy;rw[A08]at this;exact this a ha) (fun a ha y hy=>by have:=b10 a ha;rw[A08]at this;simpa using this y hy) _ A.length A pre _ rfl (fun _ h=>h) (As0 b7) b1
  ⟨mV,fun i hi=>?_,fun i hi=>Nat.blt_eq▸b3 i hi,b4,fun i hi=>?_⟩ (D4 b5) (fun x hx y hy=>by have:=b6 x hx;rw[A08]at this;exact this y hy) (Ei.refl _ _) h hr.drew
 ·have:=b2 i (by simpa using hi);rw[List.contains_iff_mem]at this;simp only[A1f,Array.getElem?_replicate,hi,if_true,Option.getD_some];exact⟨fun _=>this,fun _=>trivial⟩
 ·exfalso;simp only[A1f]at hi;by_cases hlt:i<ops.size
  ·simp[hlt]at hi
  ·rw[Array.getElem?_eq_none gV]at hi;simp at hi
def S.put4 (s:S)(d1 d2 d3 d4:Nat)(x1 x2 x3 x4:SV):S:=(((s.put (some d1) x1).put (some d2) x2).put (some d3) x3).put (some d4) x4
theorem Aq2 (s:S)(d1 d2 d3 d4:Nat)(x1 x2 x3 x4:SV)(t:Nat):(s.put4 d1 d2 d3 d4 x1 x2 x3 x4).tm t=if t=d4 then x4 else if t=d3 then x3 else if t=d2 then x2 else if t=d1 then x1 else s.tm t:=by
 unfold S.put4;have key:∀ (s:S) (d:Nat) (x:SV),(s.put (some d) x).tm t=if t=d then x else s.tm t:=fun s d x=>by
  by_cases e:t=d
  ·subst e;rw[B5,if_pos rfl]
  ·rw[Px _ _ _ e,if_neg e]
 rw[key,key,key,key]
theorem Awx (s:S)(d1 d2 d3 d4:Nat):s=s.put4 d1 d2 d3 d4 (s.tm d1) (s.tm d2) (s.tm d3) (s.tm d4):=by
 refine S.ext' rfl (funext fun t=>?_) rfl;rw[Aq2];split
 ·rename_i e;rw[e]
 ·split
  ·rename_i e;rw[e]
  ·split
   ·rename_i e;rw[e]
   ·split
    ·rename_i e;rw[e]
    ·rfl
section
variable {s:S} {d1 d2 d3 d4:Nat} {x1 x2 x3 x4 y:SV} (h:d1≠d2/\d1≠d3/\d1≠d4/\d2≠d3/\d2≠d4/\d3≠d4)
include h
theorem Azt:(s.put4 d1 d2 d3 d4 x1 x2 x3 x4).put (some d1) y=s.put4 d1 d2 d3 d4 y x2 x3 x4:=by
 refine S.ext' rfl (funext fun t=>?_) rfl;rw[Aq2];by_cases e:t=d1
 ·subst e;rw[B5,if_neg h.2.2.1,if_neg h.2.1,if_neg h.1,if_pos rfl]
 ·rw[Px _ _ _ e,Aq2,if_neg e,if_neg e]
theorem Azs:(s.put4 d1 d2 d3 d4 x1 x2 x3 x4).put (some d2) y=s.put4 d1 d2 d3 d4 x1 y x3 x4:=by
 refine S.ext' rfl (funext fun t=>?_) rfl;rw[Aq2];by_cases e:t=d2
 ·subst e;rw[B5,if_neg h.2.2.2.2.1,if_neg h.2.2.2.1,if_pos rfl]
 ·rw[Px _ _ _ e,Aq2,if_neg e,if_neg e]
theorem Azu:(s.put4 d1 d2 d3 d4 x1 x2 x3 x4).put (some d3) y=s.put4 d1 d2 d3 d4 x1 x2 y x4:=by
 refine S.ext' rfl (funext fun t=>?_) rfl;rw[Aq2];by_cases e:t=d3
 ·subst e;rw[B5,if_neg h.2.2.2.2.2,if_pos rfl]
 ·rw[Px _ _ _ e,Aq2,if_neg e,if_neg e]
theorem Azk:(s.put4 d1 d2 d3 d4 x1 x2 x3 x4).put (some d4) y=s.put4 d1 d2 d3 d4 x1 x2 x3 y:=by
 refine S.ext' rfl (funext fun t=>?_) rfl;rw[Aq2];by_cases e:t=d4
 ·subst e;rw[B5,if_pos rfl]
 ·rw[Px _ _ _ e,Aq2,if_neg e,if_neg e]
end
theorem Ob.layM {P:Program}[Ba P]{id:Nat}{ops:Array Oper}{Fin:S->PH->PH->Prop}{a d:Nat}{kk:List KI}{s:S}{u m:PH}(e:TypeId)(sz bt:Nat)(z:Value)(es:List Value)
 (h:Al P (.reg id ops true [a]::kk,s)=.buildS (some (e,sz,bt,z)) es.length (es.zipIdx.map fun p=>(p.2,p.1))) (hd:(ops[a]?).bind (·.dst)=some d) (ho:A3 sz es) (hzs:z.cells.size=sz) (hsz:0<sz) (hn0:0<es.length) (hb:es.length*sz<=16777216)
 (k:∀ g m',Ae m m' (.slice (some ⟨g,0,none⟩) es.length es.length) e sz es->Fin (s.put (some d) (.v (.slice (some ⟨g,0,none⟩) es.length es.length))) u m'):Ob P id ops true Fin [a] s u m:=by
 obtain⟨id',ops',dr',i',l',kk',s'',o,e1,ho',hg,hdo,hv,hs,hview,hnx⟩:=Ho h mV;simp only[A1r,A18,KI.reg.injEq]at e1;obtain⟨⟨⟨rfl,rfl,rfl,rfl,rfl⟩,rfl⟩,rfl⟩:=e1;have hdst:o.dst=some d:=by rw[ho']at hd;simpa using hd
 refine Ob.big (K:=fun v' u' m'=>u'=u/\PH.le m m'/\∃ g,v'=.slice (some ⟨g,0,none⟩) es.length es.length/\Ae m m' (.slice (some ⟨g,0,none⟩) es.length es.length) e sz es) ho' hg hdo hv hs (by
  obtain⟨t,qs,e2,_⟩:=E1 hview;rw[e2];rfl) (fun v u' m' hK=>.inl hK.2.1) (fun w hgd=>?_) (fun v u' m' hle hK=>?_)
 ·obtain⟨t,qs,e1,e2,hi⟩:=E1 hview;obtain⟨dst,opp,type,pos,after,guard⟩:=o;simp only at e1;subst e1;obtain⟨hu,i,hi1,hi2,rfl,rfl⟩:=Df hi;obtain⟨g1,g2,g3,g4⟩:=hgd.newM (cs:=(Az es).toArray) (t:=e) (by simpa using Ep ho);have hfl:=A2 ho;have hne:es.length*i.size≠0:=by have:=Nat.mul_pos hn0 hsz;omega
  have hfill:=Oz es 0 ((A6d (es.length*i.size)).map (z.cells[· % z.cells.size]!)) ho mV;have e0:((A6d (es.length*i.size)).map (z.cells[· % z.cells.size]!)).toList.drop (es.length*i.size) = []:=by
   apply List.drop_eq_nil_of_le;simp
  simp only[Nat.zero_mul,A3y,A2t,Nat.zero_add,e0,A1i]at hfill;refine Bq (w':=w.alloc (.cells (Az es).toArray e (0,0))) (v:=.slice (some ⟨w.heap.size,0,none⟩) es.length es.length) ?_ ⟨u,_,g1,g2,rfl,Jw _ g3,_,rfl,ho,.inr ⟨w.heap.size,es.length,[],g3,by rw[A1i],rfl,A0w _,by rw[A1i,hfl],mV⟩⟩;simp only[execOp,e2];simp[Instr.buildSlice,run_underlying hu,sizeOf,typeInfo,zeroValue,hi1,hi2,hne,hfill,newRow,show ¬ 16777216<es.length*i.size by omega]
 ·obtain⟨rfl,_,g,rfl,hA⟩:=hK;rw[hdst];exact .nil (k g m' hA)
theorem Ob.callV {P:Program}[Ba P]{id:Nat}{ops:Array Oper}{Fin:S->PH->PH->Prop}{a d:Nat}{kk:List KI}{s:S}{u m:PH}(f:Nat)(args:List Value){R:Value->PH->Prop}
 (h:Al P (.reg id ops true [a]::kk,s)=.call f args) (hd:(ops[a]?).bind (·.dst)=some d) (hc:∀ args w,(callFunc f args).run P w=.ok (.enter f args) w) (c:Fn0 P f args u R)
 (k:∀ v u',PH.le u u'->R v u'->Fin (s.put (some d) (.v v)) u' m):Ob P id ops true Fin [a] s u m:=by
 obtain⟨id',ops',dr',i',l',kk',s'',o,e1,ho',hg,hdo,hv,hs,hview,hnx⟩:=Ho h mV;simp only[A1r,A18,KI.reg.injEq]at e1;obtain⟨⟨⟨rfl,rfl,rfl,rfl,rfl⟩,rfl⟩,rfl⟩:=e1;have hdst:o.dst=some d:=by rw[ho']at hd;simpa using hd
 refine Ob.big (K:=fun v' u' m'=>m'=m/\R v' u') ho' hg hdo hv hs (Fm _ _ hview) (fun v u' m' hK=>.inl (by rw[hK.1];exact PH.le_refl _)) (fun w hgd=>?_) (fun v u' m' hle hK=>?_)
 ·refine Lz hview hc w _ ?_;refine (c w hgd.noM).mono fun e w' he=>?_;obtain⟨v,u',m',e1,e2,e3,rfl,e4⟩:=he;obtain⟨g1,g2⟩:=hgd.frame e2 e3;exact⟨v,e1,u',m,g1,g2,rfl,e4⟩
 ·obtain⟨rfl,hR⟩:=hK;rw[hdst];exact .nil (k v u' hle hR)
end
def Avs (P:Program)(pre l:List Nat)(d1 d2 d3 d4:Nat)(x1 x2 x3 x4:SV)(st:List KI×S):List KI×S:=match st with
 |(.code (.region id ops true)::k,s)=>match Qi P id ops pre s with
  |some s'=>(.reg id ops true l::k,s'.put4 d1 d2 d3 d4 x1 x2 x3 x4)
  |none=>st
 |_=>st
def A0a (P:Program)(pre:List Nat)(q1 q2 r1 r2:Nat)(post:List Nat)(d1 d2 d3 d4:Nat)(st:List KI×S):Bool:=match st with
 |(.code (.region _ ops true)::_,s)=>Av0 ops s pre [q1,q2,r1,r2] post&&(match st.1 with|.code (.region id ops _)::_=>(Qi P id ops pre s).isSome|_=>false)&&bef ops ops.size q2 q1&&bef ops ops.size r2 r1 &&
  decide ((ops[q1]?).bind (·.dst)=some d1/\(ops[q2]?).bind (·.dst)=some d2/\(ops[r1]?).bind (·.dst)=some d3/\(ops[r2]?).bind (·.dst)=some d4)&&decide (d1≠d2/\d1≠d3/\d1≠d4/\d2≠d3/\d2≠d4/\d3≠d4)&&decide ([q1,q2,r1,r2].Nodup)
 |_=>false
structure Lay where
 e:TypeId
 sz:Nat
 bt:Nat
 z:Value
 es:List Value
structure Axg (L:Lay):Prop where
 ho:A3 L.sz L.es
 hzs:L.z.cells.size=L.sz
 hsz:0<L.sz
 hn0:0<L.es.length
 hb:L.es.length*L.sz<=16777216
def Lay.stop (L:Lay):S2:=.buildS (some (L.e,L.sz,L.bt,L.z)) L.es.length (L.es.zipIdx.map fun p=>(p.2,p.1))
def Lay.v (L:Lay)(g:Nat):Value:=.slice (some ⟨g,0,none⟩) L.es.length L.es.length
def Lay.arr (L:Lay)(g:Nat):Arr:=⟨L.v g,L.e,L.sz,L.es⟩
section rules
variable {P:Program} [Ba P] {fn:Func} {Post:B0} {st:List KI×S} {u m:PH}
theorem G.fan (pre:List Nat)(q1 q2 r1 r2:Nat)(post:List Nat)(d1 d2 d3 d4:Nat)(L1:Lay)(L2:Nat->Lay)(L4:Lay)(w0:Value)(f:Nat)(args:List Value)(h:A0a P pre q1 q2 r1 r2 post d1 d2 d3 d4 (adv P st)=true)
 (H1:∀ x1 x2 x3 x4,Al P (Avs P pre [q1] d1 d2 d3 d4 x1 x2 x3 x4 (adv P st))=L1.stop) (o1:Axg L1)
 (H2:∀ g x2 x3 x4,Al P (Avs P pre [q2] d1 d2 d3 d4 (.v (L1.v g)) x2 x3 x4 (adv P st))=(L2 g).stop) (o2:∀ g,Axg (L2 g))
 (H3:∀ x1 x2 x3 x4,Al P (Avs P pre [r1] d1 d2 d3 d4 x1 x2 x3 x4 (adv P st))=.call f args) (hc:∀ args w,(callFunc f args).run P w=.ok (.enter f args) w) (c:∀ u',PH.le u u'->Fn0 P f args u' fun v _=>v=w0)
 (H4:∀ x1 x2 x4,Al P (Avs P pre [r2] d1 d2 d3 d4 x1 x2 (.v w0) x4 (adv P st))=L4.stop) (o4:Axg L4)
 (k:∀ g1 g2 g4 u' m',PH.le u u'->Bag m' [L4.arr g4,(L2 g1).arr g2,L1.arr g1]->G P fn Post (Avs P pre post d1 d2 d3 d4 (.v (L1.v g1)) (.v ((L2 g1).v g2)) (.v w0) (.v (L4.v g4)) (adv P st)) u' m'):G P fn Post st u m:=by
 refine G.stp ⟨?_⟩;generalize adv P st=st' at h H1 H2 H3 H4 k;unfold A0a at h;split at h
 ·rename_i id ops kk s;simp only[A05]at h;obtain⟨⟨⟨⟨⟨⟨h1,h2⟩,hq⟩,hr⟩,hd⟩,hne⟩,hnd⟩:=h;obtain⟨s',hs'⟩:=Option.isSome_iff_exists.1 h2;obtain⟨e1,e2,e3,e4⟩:=of_decide_eq_true hd;have hne:=of_decide_eq_true hne;have hnd:=of_decide_eq_true hnd;simp only[List.nodup_cons,A02,A14,or_false,not_or,not_false_eq_true,List.nodup_nil,and_true]at hnd;obtain⟨⟨n12,n13,n14⟩,⟨n23,n24⟩,n34⟩:=hnd;have e0:∀ l x1 x2 x3 x4,Avs P pre l d1 d2 d3 d4 x1 x2 x3 x4 (.code (.region id ops true)::kk,s)=(.reg id ops true l::kk,s'.put4 d1 d2 d3 d4 x1 x2 x3 x4):=fun l x1 x2 x3 x4=>by unfold Avs;simp only[hs']
  simp only[e0]at H1 H2 H3 H4 k;refine Sym.reg_tree Ba.mx h1 (Ob.autos hs' ?_);rw[Awx s' d1 d2 d3 d4];generalize s'.tm d1=x1;generalize s'.tm d2=x2;generalize s'.tm d3=x3;generalize s'.tm d4=x4;have lay1:∀ {Fin x1 x2 x3 x4 u m},(∀ g m',(L1.arr g).At m m'->Fin (s'.put4 d1 d2 d3 d4 (.v (L1.v g)) x2 x3 x4) u m')->Ob P id ops true Fin [q1] (s'.put4 d1 d2 d3 d4 x1 x2 x3 x4) u m:=fun {Fin x1 x2 x3 x4 u m} hk =>
   Ob.layM L1.e L1.sz L1.bt L1.z L1.es (H1 x1 x2 x3 x4) e1 o1.ho o1.hzs o1.hsz o1.hn0 o1.hb fun g m' hA=>by rw[Azt hne];exact hk g m' hA
  have lay2:∀ {Fin g1 x2 x3 x4 u m},(∀ g m',((L2 g1).arr g).At m m'->Fin (s'.put4 d1 d2 d3 d4 (.v (L1.v g1)) (.v ((L2 g1).v g)) x3 x4) u m')->Ob P id ops true Fin [q2] (s'.put4 d1 d2 d3 d4 (.v (L1.v g1)) x2 x3 x4) u m:=fun {Fin g1 x2 x3 x4 u m} hk =>
   Ob.layM (L2 g1).e (L2 g1).sz (L2 g1).bt (L2 g1).z (L2 g1).es (H2 g1 x2 x3 x4) e2 (o2 g1).ho (o2 g1).hzs (o2 g1).hsz (o2 g1).hn0 (o2 g1).hb fun g m' hA=>by rw[Azs hne];exact hk g m' hA
  have cal:∀ {Fin x1 x2 x3 x4 m} (u1:PH),PH.le u u1->(∀ u',PH.le u1 u'->Fin (s'.put4 d1 d2 d3 d4 x1 x2 (.v w0) x4) u' m)->Ob P id ops true Fin [r1] (s'.put4 d1 d2 d3 d4 x1 x2 x3 x4) u1 m:=fun {Fin x1 x2 x3 x4 m} u1 hle hk =>
   Ob.callV f args (H3 x1 x2 x3 x4) e3 hc (c u1 hle) fun v u' hl hv=>by rw[Azu hne,hv];exact hk u' hl
  have lay4:∀ {Fin x1 x2 x4 u m},(∀ g m',(L4.arr g).At m m'->Fin (s'.put4 d1 d2 d3 d4 x1 x2 (.v w0) (.v (L4.v g))) u m')->Ob P id ops true Fin [r2] (s'.put4 d1 d2 d3 d4 x1 x2 (.v w0) x4) u m:=fun {Fin x1 x2 x4 u m} hk =>
   Ob.layM L4.e L4.sz L4.bt L4.z L4.es (H4 x1 x2 x4) e4 o4.ho o4.hzs o4.hsz o4.hn0 o4.hb fun g m' hA=>by rw[Azk hne];exact hk g m' hA
  have leaf:∀ {g1 g2 g4 u' m'},PH.le u u'->Bag m' [L4.arr g4,(L2 g1).arr g2,L1.arr g1]->Ar4 P id ops post (Oq P fn Post kk) 0 [] (s'.put4 d1 d2 d3 d4 (.v (L1.v g1)) (.v ((L2 g1).v g2)) (.v w0) (.v (L4.v g4))) u' m':=fun hl hb=>(k _ _ _ _ _ hl hb).out;have nR2:∀ {g1 g2 x4 u' m'},PH.le u u'->Bag m' [(L2 g1).arr g2,L1.arr g1]->Ar4 P id ops post (Oq P fn Post kk) 1 [r2] (s'.put4 d1 d2 d3 d4 (.v (L1.v g1)) (.v ((L2 g1).v g2)) (.v w0) x4) u' m':=fun {g1 g2 x4 u' m'} hl hb a ha _=>by
   simp only[A02,A14,or_false]at ha;subst ha;rw[A2v];exact lay4 fun g m'' hA=>leaf hl ⟨m',hA,hb⟩
  have nQ2:∀ {g1 g4 x2 u' m'},PH.le u u'->Bag m' [L4.arr g4,L1.arr g1]->Ar4 P id ops post (Oq P fn Post kk) 1 [q2] (s'.put4 d1 d2 d3 d4 (.v (L1.v g1)) x2 (.v w0) (.v (L4.v g4))) u' m':=fun {g1 g4 x2 u' m'} hl hb a ha _=>by
   simp only[A02,A14,or_false]at ha;subst ha;rw[A2v];exact lay2 fun g m'' hA=>leaf hl (Bag.perm (A4s _ _ _) (show Bag m'' [(L2 g1).arr g,L4.arr g4,L1.arr g1] from⟨m',hA,hb⟩))
  have nQ2R2:∀ {g1 x2 x4 u' m'},PH.le u u'->Bag m' [L1.arr g1]->Ar4 P id ops post (Oq P fn Post kk) 2 [q2,r2] (s'.put4 d1 d2 d3 d4 (.v (L1.v g1)) x2 (.v w0) x4) u' m':=fun {g1 x2 x4 u' m'} hl hb a ha _=>by
   simp only[A02,A14,or_false]at ha;rcases ha with rfl|rfl
   ·rw[A2v];exact lay2 fun g m'' hA=>nR2 hl ⟨m',hA,hb⟩
   ·rw[A49 (by simpa using n24),A2v];exact lay4 fun g m'' hA=>nQ2 hl ⟨m',hA,hb⟩
  have nR1R2:∀ {g1 g2 x3 x4 u' m'},PH.le u u'->Bag m' [(L2 g1).arr g2,L1.arr g1]->Ar4 P id ops post (Oq P fn Post kk) 2 [r1,r2] (s'.put4 d1 d2 d3 d4 (.v (L1.v g1)) (.v ((L2 g1).v g2)) x3 x4) u' m':=fun {g1 g2 x3 x4 u' m'} hl hb a ha hcd=>by
   simp only[A02,A14,or_false]at ha;rcases ha with rfl|rfl
   ·rw[A2v];exact cal _ hl fun u'' hl'=>nR2 (hl.trans hl') hb
   ·have:=hcd r1 mV n34;rw[hr]at this;cases this
  have nQ1Q2:∀ {g4 x1 x2 u' m'},PH.le u u'->Bag m' [L4.arr g4]->Ar4 P id ops post (Oq P fn Post kk) 2 [q1,q2] (s'.put4 d1 d2 d3 d4 x1 x2 (.v w0) (.v (L4.v g4))) u' m':=fun {g4 x1 x2 u' m'} hl hb a ha hcd=>by
   simp only[A02,A14,or_false]at ha;rcases ha with rfl|rfl
   ·rw[A2v];exact lay1 fun g m'' hA=>nQ2 hl (Bag.perm (A4s _ _ _) (show Bag m'' [L1.arr g,L4.arr g4] from⟨m',hA,hb⟩))
   ·have:=hcd q1 mV n12;rw[hq]at this;cases this
  have nQ2R:∀ {g1 x2 x3 x4 u' m'},PH.le u u'->Bag m' [L1.arr g1]->Ar4 P id ops post (Oq P fn Post kk) 3 [q2,r1,r2] (s'.put4 d1 d2 d3 d4 (.v (L1.v g1)) x2 x3 x4) u' m':=fun {g1 x2 x3 x4 u' m'} hl hb a ha hcd=>by
   simp only[A02,A14,or_false]at ha;rcases ha with rfl|rfl|rfl
   ·rw[A2v];exact lay2 fun g m'' hA=>nR1R2 hl ⟨m',hA,hb⟩
   ·rw[A49 (by simpa using n23),A2v];exact cal _ hl fun u'' hl'=>nQ2R2 (hl.trans hl') hb
   ·have:=hcd r1 mV n34;rw[hr]at this;cases this
  have nQR2:∀ {x1 x2 x4 u' m'},PH.le u u'->Ar4 P id ops post (Oq P fn Post kk) 3 [q1,q2,r2] (s'.put4 d1 d2 d3 d4 x1 x2 (.v w0) x4) u' m':=fun {x1 x2 x4 u' m'} hl a ha hcd=>by
   simp only[A02,A14,or_false]at ha;rcases ha with rfl|rfl|rfl
   ·rw[A2v];exact lay1 fun g m'' hA=>nQ2R2 hl ⟨m',hA,trivial⟩
   ·have:=hcd q1 mV n12;rw[hq]at this;cases this
   ·rw[A49 (by simpa using n14),A49 (by simpa using n24),A2v];exact lay4 fun g m'' hA=>nQ1Q2 hl ⟨m',hA,trivial⟩
  show Ar4 P id ops post (Oq P fn Post kk) 4 [q1,q2,r1,r2] _ u m;intro a ha hcd;simp only[A02,A14,or_false]at ha;rcases ha with rfl|rfl|rfl|rfl
  ·rw[A2v];exact lay1 fun g m'' hA=>nQ2R (PH.le_refl _) ⟨m,hA,trivial⟩
  ·have:=hcd q1 mV n12;rw[hq]at this;cases this
  ·rw[A49 (by simpa using n13),A49 (by simpa using n23),A2v];exact cal _ (PH.le_refl _) fun u'' hl'=>nQR2 hl'
  ·have:=hcd r1 mV n34;rw[hr]at this;cases this
 ·cases h
end rules
end
section
structure Arn (u:PH)(v cv:Value)(T:List (List UInt8×Nat))(R:List Bk)(F:List Ao)(lab:Int)(C:CF)(K k:Nat):Prop where
 sch:F1 u v T R F lab
 ok:Bn u T R F lab
 cof:H7 u cv C K
 sC:CFS C
 vC:CFV C
 K:K<=10000
 bel:∀ p,C.s p≠0->Aar F lab p
 mom:Iq C k
 p24:∀ P,R1 F C P->P.length<=24
 lab0:0<=lab
section
variable {u:PH} {v cv:Value} {T:List (List UInt8×Nat)} {R:List Bk} {F:List Ao} {lab:Int} {C:CF} {K k:Nat} {P:List Par}
theorem Arn.mono {u':PH}(h:Arn u v cv T R F lab C K k)(hl:PH.le u u'):Arn u' v cv T R F lab C K k :=
 ⟨h.sch.mono hl,h.ok.mono hl,h.cof.mono hl,h.sC,h.vC,h.K,h.bel,h.mom,h.p24,h.lab0⟩
def Atd (C:CF)(P:List Par)(i:Nat):List (List Rat):=((Ak P).take (i+1)).map (As C none)::(P.take i).map fun p=>(Ak P).map (As C (some p))
theorem Awy:Atd C P P.length=M8 C P:=by
 unfold Atd M8;rw[show (Ak P).take (P.length+1)=Ak P by rw[A03 (by rw[Bo];omega)],A1k]
 conv=>rhs;rw[show Ak P=none::P.map some from rfl]
 rw[A1y,A9e];rfl
theorem Avp (h:Arn u v cv T R F lab C K k) :
 Ai prog 210 [v,cv] u PH.mt fun r u' m'=>∃ (P:List Par) (pa:Option Addr) (pc:Nat) (xa:Option Addr) (xc:Nat) (ra:Option Addr) (rc:Nat) (rows:List (Value×List Value)),R1 F C P /\
  r=.tuple #[.agg #[.slice pa P.length pc,.slice xa (P.length+1) xc,.slice ra (P.length+1) rc],.int .i64 0]/\Ab u' (.slice pa P.length pc) 2 (P.map An)/\rows.map (·.2)=(M8 C P).map txV /\
  Bag m' (E8 (.slice ra (P.length+1) rc,txV ((Ak P).map (Ay C)))::oT (.slice xa (P.length+1) xc) rows::rows.map E8):=by
 have hprm:=Aba h.sch h.ok h.cof h.sC h.vC (A0q h.K oV) h.bel;have h24:=h.p24;have hK:=h.K;have hlab:=h.lab0;have hS:=fun (u':PH) (l:PH.le u u') (p:Par)=>A0g p (h.cof.mono l) oV;have hQ:=fun (u':PH) (l:PH.le u u') (p q:Par)=>Aw9 p q (h.cof.mono l) oV;obtain⟨xa,xc,xb,xd,xe,xf,rfl,_⟩:=id h.sch;obtain⟨a1,n1,c1,a2,n2,c2,rfl⟩:=id h.cof.opn;refine Ai.o func210 ?_;refine G.c call114 hprm ?_;intro v1 u1 l1 hp;obtain⟨ps,P,rfl,hL,_,hPL⟩:=hp.resolve_left fun⟨_,L,h1,hPL⟩=>by have:=h24 L hPL;omega
 have hP24:=h24 P hPL;have hEl:=Bo P;obtain⟨pa,pc,rfl⟩:=hL.opn;rw[A0p]at hL⊢;refine G.nF 0 0 ?_;refine G.lF lab 0 ?_;refine G.fan [0,1,2,5,6,10] 3 4 7 8 [9,11] 33 34 37 38 ⟨33,1,16,.string (mkS []),[.string (mkS (Af C.c))]⟩ (fun g=>⟨84,1,24,.slice none 0 0,[.slice (some ⟨g,0,none⟩) 1 1]⟩) ⟨33,1,16,.string (mkS []),[.string (mkS (Af (C.s Aq)))]⟩ (.string (mkS (Af (C.s Aq)))) _ _ kV
  (fun _ _ _ _=>kV) ⟨Jp _,rfl,A6e,A6e,mV⟩ (fun _ _ _ _=>kV) (fun _=>⟨Gt _ _ _,rfl,A6e,A6e,mV⟩) (fun _ _ _ _=>kV) call258 (fun u' l=>hS u' (l1.trans l) Aq) (fun _ _ _=>kV) ⟨Jp _,rfl,A6e,A6e,mV⟩ ?_
 intro g3 g4 g5 u2 m5 l2 hb5;refine G.l (ι:=Nat×(Option Addr×Nat)×(Option Addr×Nat)×List (Value×List Value)) (fun i=>[(3,.p 1 0),(4,.p 2 0),(6,sV pa P.length pc),(8,.p 6001 0),(9,.p 7010 0),(40,sV pa P.length pc),(41,iV P.length),(42,iV i.1)])
  (fun i=>[(1,⟨37,[tV (Af C.c),sV a1 n1 c1,sV a2 n2 c2]⟩),(2,⟨103,[sV none 0 0,sV none 0 0,sV none 0 0]⟩),(6001,⟨79,[iV (-1),tV []]⟩),
   (7010,⟨103,[.v (.slice pa P.length pc),.v (.slice i.2.1.1 (i.1+1) i.2.1.2),.v (.slice i.2.2.1.1 (i.1+1) i.2.2.1.2)]⟩)])
  (fun i u' m'=>i.1<=P.length/\i.2.2.2.map (·.2)=(Atd C P i.1).map txV/\Bag m' (E8 (.slice i.2.2.1.1 (i.1+1) i.2.2.1.2,txV (((Ak P).take (i.1+1)).map (Ay C)))::oT (.slice i.2.1.1 (i.1+1) i.2.1.2) i.2.2.2::i.2.2.2.map E8)) (fun i=>P.length-i.1)
  (0,(some ⟨g4,0,none⟩,1),(some ⟨g5,0,none⟩,1),[(.slice (some ⟨g3,0,none⟩) 1 1,txV [C.c])])
  ⟨oV,by unfold Atd Ak;rfl,hb5⟩ ?_
 clear hb5;rintro J ⟨i,⟨ya,yc⟩,⟨ra,rc⟩,rows⟩ hJ u5 m5 l5 ⟨hi,hrows,hbag⟩;simp only at hi hrows hbag hJ;have le5:=(l1.trans l2).trans l5;have hrl:rows.length=i+1:=by have:=congrArg A35 hrows;rw[A0p,A0p]at this;rw[this];simp[Atd];omega
 by_cases hlt:i<P.length
 ·refine G.lT (i:Int) (P.length:Int) ?_;obtain⟨p,hpi⟩:∃ p,P[i]?=some p:=⟨_,A0n hlt⟩;have htk:(Ak P).take (i+1+1)=(Ak P).take (i+1)++[some p]:=by rw[Hg,Hg,A1c,hpi];simp
  obtain⟨bp,op,e0,ep⟩:=Ab.at' (hL.mono (l2.trans l5)) (j:=i) (e:=An p) (by simp[hpi]);subst e0;refine G.a bp op P.length pc i 2 hlt ?_;refine G.lU (some 2) bp (op+i*2) (.agg #[.int .i64 p.1,.string (mkS p.2)]) ep ?_;obtain⟨go,co,eo⟩:=hbag.ptr 1 rfl (fun e=>by
   have:(rows.map (·.1)).length=0:=by rw[show rows.map (·.1) = [] from e];rfl
   rw[A0p]at this;omega)
  have eo2:(A06 ya (i+1) yc)=.slice (some ⟨go,0,none⟩) (i+1) co:=by
   have e1:(oT (.slice ya (i+1) yc) rows).v=A06 ya (i+1) yc:=rfl;rw[e1]at eo;rw[eo];have:(oT (.slice ya (i+1) yc) rows).es.length=i+1:=by show (rows.map (·.1)).length=_;rw[A0p,hrl]
   rw[this]
  cases eo2;obtain⟨⟨v0,e0⟩,hr0⟩:∃ x,rows[0]?=some x:=⟨_,A0n oV⟩;have he0:e0=txV (((Ak P).take (i+1)).map (As C none)):=by
   have h1:=congrArg (fun l=>l[0]?) hrows;simp only[A0v,hr0]at h1;simpa[Atd] using h1
  subst he0;have hl0:(txV (((Ak P).take (i+1)).map (As C none))).length=i+1:=by rw[Fu,A0p,A00];omega
  obtain⟨z0,zc0,ez⟩:=hbag.shape 2 (x:=E8 (v0,txV (((Ak P).take (i+1)).map (As C none)))) (by simp[hr0]);simp only[E8]at ez;rw[hl0]at ez;subst ez;have ho0:ElP m5 go (0+0*1) (.slice z0 (i+1) zc0):=hbag.el 1 (x:=oT (.slice (some ⟨go,0,none⟩) (i+1) yc) rows) rfl rfl (by show (rows.map (·.1))[0]?=_;rw[A0v,hr0];rfl);refine G.a go 0 (i+1) yc 0 1 oV ?_;refine G.lM none go (0+0*1) (.slice z0 (i+1) zc0) ho0 ?_;refine G.c call258 (hS u5 le5 p) ?_;rintro v6 u6 l6 rfl;refine G.B 33 1 16 (.string (mkS [])) [.string (mkS (Af (C.s p)))] (Jp _) ?_;intro g7 u7 l7 e7;obtain⟨m0,hx0,hput⟩:=hbag.focus 2 (x:=E8 (.slice z0 (i+1) zc0,txV (((Ak P).take (i+1)).map (As C none)))) (by simp[hr0]);rw[Mb]at hx0;refine G.append 33 1 16 (.string (mkS [])) m0 (txV (((Ak P).take (i+1)).map (As C none))) [.string (mkS (Af (C.s p)))] (.slice z0 (i+1) zc0) g7 0 1 1 kV rfl rfl oV hx0 e7 (Jp _) rfl oV (by rw[hl0];omega) (by rw[hl0];omega) ?_;intro v8 m8 hA8;have e8:txV (((Ak P).take (i+1)).map (As C none))++[.string (mkS (Af (C.s p)))]=txV (((Ak P).take (i+1+1)).map (As C none)):=by rw[htk,A07,Sl];rfl
  rw[e8]at hA8;have hl2:(txV (((Ak P).take (i+1+1)).map (As C none))).length=i+1+1:=by rw[Fu,A0p,A00];omega
  obtain⟨a8,c8,rfl⟩:=hA8.shape;rw[hl2]at hA8⊢;have hb8:=hput (E8 (.slice a8 (i+1+1) c8,txV (((Ak P).take (i+1+1)).map (As C none)))) m8 hA8;obtain⟨m1,hx1,hput1⟩:=hb8.focus 1 rfl;rw[Amu]at hx1;refine G.a go 0 (i+1) yc 0 1 oV ?_;refine G.storeA 1 m1 _ go (i+1) yc 0 (.slice a8 (i+1+1) c8) kV hx1 gV rfl rfl ?_;intro m9 hA9;have hb9:=hput1 (oT (.slice (some ⟨go,0,none⟩) (i+1) yc) (rows.set 0 (.slice a8 (i+1+1) c8,txV (((Ak P).take (i+1+1)).map (As C none))))) m9 (by rw[Amu,A27];exact hA9);obtain⟨rows9,hrows9⟩:∃ r,r=rows.set 0 (.slice a8 (i+1+1) c8,txV (((Ak P).take (i+1+1)).map (As C none))):=⟨_,rfl⟩;have hb9':Bag m9 (E8 (.slice ra (i+1) rc,txV (((Ak P).take (i+1)).map (Ay C)))::oT (.slice (some ⟨go,0,none⟩) (i+1) yc) rows9::rows9.map E8):=by
   rw[hrows9,A27];simpa using hb9
  have hr9:rows9.map (·.2)=(((Ak P).take (i+1+1)).map (As C none)::(P.take i).map fun p=>(Ak P).map (As C (some p))).map txV:=by
   rw[hrows9,A27,hrows];rfl
  have hrl9:rows9.length=i+1:=by rw[hrows9,A3u];exact hrl
  clear hb9 hb8 hput hput1 hx0 hx1 hbag hrows hr0 ho0;have le7:=(le5.trans l6).trans l7;refine G.c call258 (hS u7 le7 p) ?_;rintro v10 u10 l10 rfl;refine G.buildM 33 1 16 (.string (mkS [])) [.string (mkS (Af (C.s p)))] kV (Jp _) rfl oV mV mV ?_;intro g11 m11 hA11;have le10:=le7.trans l10;have hL10:=hL.mono ((((l2.trans l5).trans l6).trans l7).trans l10);refine G.l (ι:=Nat×(Option Addr×Nat)) (fun j=>[(3,.p 1 0),(4,.p 2 0),(6,sV (some ⟨bp,op,none⟩) P.length pc),(8,.p 6001 0),(9,.p 7010 0),(11,.p 10002 0),(12,sV j.2.1 (j.1+1) j.2.2),(40,sV (some ⟨bp,op,none⟩) P.length pc),(41,iV P.length),(42,iV i),(62,sV (some ⟨bp,op,none⟩) P.length pc),(63,iV P.length),(64,iV j.1)])
   (fun j=>[(1,⟨37,[tV (Af C.c),sV a1 n1 c1,sV a2 n2 c2]⟩),(2,⟨103,[sV none 0 0,sV none 0 0,sV none 0 0]⟩),(6001,⟨79,[iV (-1),tV []]⟩),
    (7010,⟨103,[.v (.slice (some ⟨bp,op,none⟩) P.length pc),.v (.slice (some ⟨go,0,none⟩) (i+1) yc),.v (.slice ra (i+1) rc)]⟩),(10002,⟨79,[.v (.int .i64 p.1),.v (.string (mkS p.2))]⟩)])
   (fun j u' m'=>j.1<=P.length/\Bag m' (E8 (.slice j.2.1 (j.1+1) j.2.2,txV (((Ak P).take (j.1+1)).map (As C (some p))))::E8 (.slice ra (i+1) rc,txV (((Ak P).take (i+1)).map (Ay C)))::oT (.slice (some ⟨go,0,none⟩) (i+1) yc) rows9::rows9.map E8)) (fun j=>P.length-j.1)
   (0,some ⟨g11,0,none⟩,1) ⟨oV,m9,hA11,hb9'⟩ ?_
  clear hb9' hA11;rintro J2 ⟨j,la,lc⟩ hJ2 u12 m12 l12 ⟨hj,hbj⟩;simp only at hj hbj hJ2;have le12:=le10.trans l12;by_cases hjl:j<P.length
  ·refine G.lT (j:Int) (P.length:Int) ?_;obtain⟨q,hqj⟩:∃ q,P[j]?=some q:=⟨_,A0n hjl⟩;have htj:(Ak P).take (j+1+1)=(Ak P).take (j+1)++[some q]:=by rw[Hg,Hg,A1c,hqj];simp
   obtain⟨bq,oq,e0,eq⟩:=Ab.at' (hL10.mono l12) (j:=j) (e:=An q) (by simp[hqj]);cases e0;refine G.a bp op P.length pc j 2 hjl ?_;refine G.lU (some 2) bp (op+j*2) (.agg #[.int .i64 q.1,.string (mkS q.2)]) eq ?_;refine G.c call259 (hQ u12 le12 p q) ?_;rintro v13 u13 l13 rfl;refine G.B 33 1 16 (.string (mkS [])) [.string (mkS (Af (C.t (Ap p q))))] (Jp _) ?_;intro g14 u14 l14 e14;obtain⟨m0,hx0,hput⟩:=hbj.focus 0 rfl;rw[Mb]at hx0;have hl1:(txV (((Ak P).take (j+1)).map (As C (some p)))).length=j+1:=by rw[Fu,A0p,A00];omega
   refine G.append 33 1 16 (.string (mkS [])) m0 (txV (((Ak P).take (j+1)).map (As C (some p)))) [.string (mkS (Af (C.t (Ap p q))))] (.slice la (j+1) lc) g14 0 1 1 kV rfl rfl oV hx0 e14 (Jp _) rfl oV (by rw[hl1];omega) (by rw[hl1];omega) ?_;intro v15 m15 hA15;have e15:txV (((Ak P).take (j+1)).map (As C (some p)))++[.string (mkS (Af (C.t (Ap p q))))]=txV (((Ak P).take (j+1+1)).map (As C (some p))):=by rw[htj,A07,Sl];rfl
   rw[e15]at hA15;have hl3:(txV (((Ak P).take (j+1+1)).map (As C (some p)))).length=j+1+1:=by rw[Fu,A0p,A00];omega
   obtain⟨a15,c15,rfl⟩:=hA15.shape;rw[hl3]at hA15⊢;have hb15:=hput (E8 (.slice a15 (j+1+1) c15,txV (((Ak P).take (j+1+1)).map (As C (some p))))) m15 hA15;refine G.i j ?_;exact G.b (hJ2 (j+1,a15,c15) _ _ _ cV ((l12.trans l13).trans l14) ⟨dV,hb15⟩ dV)
  obtain rfl:j=P.length:=oV
  refine G.lF (P.length:Int) (P.length:Int) ?_;clear hJ2;rw[show (Ak P).take (P.length+1)=Ak P by rw[A03 oV]]at hbj;refine G.B 84 1 24 (.slice none 0 0) [.slice la (P.length+1) lc] (Gt _ _ _) ?_;intro g16 u16 l16 e16;obtain⟨m0,hx0,hput⟩:=hbj.focus 2 rfl;rw[Amu]at hx0;refine G.k 84 1 24 (.slice none 0 0) m0 (rows9.map (·.1)) [.slice la (P.length+1) lc] (.slice (some ⟨go,0,none⟩) (i+1) yc) g16 0 1 1 hx0 e16 (Gt _ _ _) ?_;intro v17 m17 hA17;have em:rows9.map (·.1)++[A06 la (P.length+1) lc]=(rows9++[(A06 la (P.length+1) lc,txV ((Ak P).map (As C (some p))))]).map (·.1):=mV
  rw[em]at hA17;obtain⟨a17,c17,rfl⟩:=hA17.shape;have el:((rows9++[(A06 la (P.length+1) lc,txV ((Ak P).map (As C (some p))))]).map (·.1)).length=i+1+1:=by simp[hrl9]
  rw[el]at hA17⊢;have hb17:=hput (oT (.slice a17 (i+1+1) c17) (rows9++[(A06 la (P.length+1) lc,txV ((Ak P).map (As C (some p))))])) m17 hA17;have hb18:=Bag.perm Afg hb17;have le16:=le12.trans l16;refine G.c call259 (hQ u16 le16 Aq p) ?_;rintro v19 u19 l19 rfl;refine G.B 33 1 16 (.string (mkS [])) [.string (mkS (Af (C.t (Ap Aq p))))] (Jp _) ?_;intro g20 u20 l20 e20;have hb19:Bag m17 (E8 (.slice ra (i+1) rc,txV (((Ak P).take (i+1)).map (Ay C)))::oT (.slice a17 (i+1+1) c17) (rows9++[(A06 la (P.length+1) lc,txV ((Ak P).map (As C (some p))))])::(rows9++[(A06 la (P.length+1) lc,txV ((Ak P).map (As C (some p))))]).map E8):=by simpa using hb18
  obtain⟨m2,hx2,hput2⟩:=hb19.focus 0 rfl;rw[Mb]at hx2;have hl4:(txV (((Ak P).take (i+1)).map (Ay C))).length=i+1:=by rw[Fu,A0p,A00];omega
  refine G.append 33 1 16 (.string (mkS [])) m2 (txV (((Ak P).take (i+1)).map (Ay C))) [.string (mkS (Af (C.t (Ap Aq p))))] (.slice ra (i+1) rc) g20 0 1 1 kV rfl rfl oV hx2 e20 (Jp _) rfl oV (by rw[hl4];omega) (by rw[hl4];omega) ?_;intro v21 m21 hA21;have e21:txV (((Ak P).take (i+1)).map (Ay C))++[.string (mkS (Af (C.t (Ap Aq p))))]=txV (((Ak P).take (i+1+1)).map (Ay C)):=by rw[htk,A07,Sl];rfl
  rw[e21]at hA21;have hl5:(txV (((Ak P).take (i+1+1)).map (Ay C))).length=i+1+1:=by rw[Fu,A0p,A00];omega
  obtain⟨a21,c21,rfl⟩:=hA21.shape;rw[hl5]at hA21⊢;have hb21:=hput2 (E8 (.slice a21 (i+1+1) c21,txV (((Ak P).take (i+1+1)).map (Ay C)))) m21 hA21;refine G.i i ?_;refine G.b (hJ (i+1,(a17,c17),(a21,c21),rows9++[(A06 la (P.length+1) lc,txV ((Ak P).map (As C (some p))))]) _ _ _ cV (((((((l5.trans l6).trans l7).trans l10).trans l12).trans l16).trans l19).trans l20) ⟨dV,?_,hb21⟩ dV);dsimp only;rw[A07,hr9];unfold Atd;rw[show P.take (i+1)=P.take i++[p] by rw[A1c,hpi];rfl];simp
 obtain rfl:i=P.length:=oV
 refine G.lF (P.length:Int) (P.length:Int) ?_;rw[Awy]at hrows;rw[show (Ak P).take (P.length+1)=Ak P by rw[A03 oV]]at hbag;exact G.r (.tuple #[.agg #[.slice pa P.length pc,.slice ya (P.length+1) yc,.slice ra (P.length+1) rc],.int .i64 0]) ⟨P,pa,pc,ya,yc,ra,rc,rows,hPL,rfl,hL.mono (l2.trans l5),hrows,hbag⟩
end
end
section
section
variable {P:List Par} {C:CF} {q:Rat} {N k:Nat} {b:Option Par->Rat}
end
end
section
end
section
section
variable {u:PH} {v cv mv:Value} {T:List (List UInt8×Nat)} {R:List Bk} {F:List Ao} {lab:Int} {C:CF} {K k:Nat} {P:List Par} {m0:Rat} {M:List (Par×Rat)}
end
end
section
section
variable {u:PH} {v cv av bv:Value} {T:List (List UInt8×Nat)} {R:List Bk} {F:List Ao} {lab:Int} {C:CF} {K k:Nat} {P:List Par} {a0 b0:Rat} {A B:List (Par×Rat)}
end
end
section
section
variable {P:List Par} {C:CF} {k:Rat} {m0:Rat} {M:List (Par×Rat)}
end
end
section
section
variable {u:PH} {v cv av bv:Value} {T:List (List UInt8×Nat)} {R:List Bk} {F:List Ao} {lab:Int} {C:CF} {K k:Nat} {P:List Par} {a0 b0:Rat} {A B:List (Par×Rat)}
end
end
section
theorem Xi {u:PH}{T:List (List UInt8×Nat)}{R:List Bk}{F:List Ao}{lab:Int}(ok:Bn u T R F lab):∀ l:Nat,lab=(l:Int)->l<T.length:=fun l hl=>by
 obtain⟨n,hn⟩:=ok.l2 l hl;exact (A0s.1 hn).1
end
section
theorem Am7 (t:List UInt8)(v:Rat)(h:∀ n:Fin 19,∀ d:Fin 13,d.val≠0->Af (A2m ((n.val:Int)-9) (d.val:Int))=t->A2m ((n.val:Int)-9) (d.val:Int)=v){q:Rat}(hq:SmR q)(e:Af q=t):q=v:=by
 have h1:=hq.num;have h2:=hq.le;have h3:=q.den_pos;have h4:=h ⟨(q.num+9).toNat,oV⟩ ⟨q.den,oV⟩ (by simpa using by omega);simp only at h4;rw[show (((q.num+9).toNat:Nat):Int)-9=q.num by omega,Rat.num_divInt_den]at h4;exact h4 e
theorem Alj:SmR 2:=⟨jV,jV⟩
end
section
end
section
section
variable {u:PH} {v cv mv:Value} {T:List (List UInt8×Nat)} {R:List Bk} {F:List Ao} {lab:Int} {C:CF} {K k:Nat} {P:List Par} {m0:Rat} {M:List (Par×Rat)}
end
theorem Bdw {x:Rat}(h:0<=x):0<=sg x:=by
 rcases Ai6 x with ⟨h1,_⟩|⟨_,e⟩|⟨_,e⟩
 ·exact absurd h1 (by grind)
 ·rw[e];decide
 ·rw[e];decide
end
section
section
variable [Cc] {P:Program} [Ba P] {fn:Func} {Post:B0} {st:List KI×S} {u m:PH}
end
end
section
theorem Aug {q:Rat}(h:0<q):0<q.num:=by
 have h1:0<=q.num:=Rat.num_nonneg.2 (Rat.le_of_lt h);have h2:q.num≠0:=fun e=>by
  rw[Rat.num_eq_zero]at e;rw[e]at h;exact absurd h jV
 omega
theorem Ayq {u:PH}{p q:Rat}(ht:Lb u)(hp:Tx p)(hq:Tx q)(hs:Tx (p+q)):Fn0 prog 145 [.string (mkS (Af p)),.string (mkS (Af q))] u fun v _=>v=.tuple #[.string (mkS (Af (p+q))),.int .i64 0]:=by
 have hap:Fn0 prog 211 [.string (mkS (Af p)),.string (mkS (Af q)),.func (.func 76) #[] #[]] u fun v _=>v=.tuple #[.string (mkS (Af (p+q))),.int .i64 0]:=by
  refine Fn0.o func211 ?_;refine G.B 33 1 16 (.string (mkS [])) [.string (mkS (Af p)),.string (mkS (Af q))] (Cu [Af p,Af q]) ?_;intro g u1 l1 e1;have hS:Fe u1 (.slice (some ⟨g,0,none⟩) 2 2) ([p,q].map Af):=⟨_,2,rfl,A0w _,fun j e hj=>⟨g,0,rfl,e1 j e hj⟩⟩;refine G.c call260 (Avk hS (by intro x hx;simp at hx;rcases hx with rfl|rfl;exact hp;exact hq) mV) ?_;rintro v2 u2 l2 rfl;refine G.c call77 (Iy hp) ?_;intro v3 u3 l3 k3;obtain⟨b3,a3,n3,c3,b3',a3',n3',c3',rfl⟩:=k3.opn;refine G.c call77 (Iy hq) ?_;intro v4 u4 l4 k4;obtain⟨b4,a4,n4,c4,b4',a4',n4',c4',rfl⟩:=k4.opn;refine G.c call76 (O2 (k3.mono l4) k4 (hp.sz.mono oV) (hq.sz.mono oV)) ?_;intro v5 u5 l5 k5;obtain⟨b5,a5,n5,c5,b5',a5',n5',c5',rfl⟩:=k5.opn;refine G.c call55 (Jj (ht.mono ((((l1.trans l2).trans l3).trans l4).trans l5)) k5 hs) ?_;rintro v6 u6 l6 rfl;exact G.r _ ⟨rfl,rfl⟩
 refine Fn0.o func145 ?_;refine G.c call211 hap ?_;rintro v1 u1 l1 rfl;exact G.r _ ⟨rfl,rfl⟩
structure Avj (q:Rat):Prop where
 tx:Tx q
 pos:0<q
 de:De 3 2 q
theorem Kl.w {q:Rat}(h:Kl q):Avj q:=⟨h.tx,h.pos,h.de.mono oV oV⟩
section
variable {u:PH} {v cv:Value} {T:List (List UInt8×Nat)} {R:List Bk} {F:List Ao} {lab:Int} {C:CF} {K k:Nat} {q:Rat}
theorem Atm (h:Arn u v cv T R F lab C K k)(hq:Avj q) :
 Ai prog 144 [v,cv,.string (mkS (Af q))] u PH.mt fun r u' m'=>∃ (P:List Par) (pa:Option Addr) (pc:Nat) (xa:Option Addr) (xc:Nat) (ra:Option Addr) (rc:Nat) (rows:List (Value×List Value)),R1 F C P /\
  r=.tuple #[.agg #[.slice pa P.length pc,.slice xa (P.length+1) xc,.slice ra (P.length+1) rc],.int .i64 (if k=0 then 12 else 0)]/\Ab u' (.slice pa P.length pc) 2 (P.map An)/\rows.map (·.2)=(M8 C P).map txV /\
  Bag m' (E8 (.slice ra (P.length+1) rc,txV ((Ak P).map (Ay C)))::oT (.slice xa (P.length+1) xc) rows::rows.map E8):=by
 have hmx:=Avp h;have hS:=h.mom;obtain⟨xa,xc,xb,xd,xe,xf,rfl,_⟩:=id h.sch;obtain⟨a1,n1,c1,a2,n2,c2,rfl⟩:=id h.cof.opn;refine Ai.o func144 ?_;refine G.callO _ _ kV call210 hmx ?_;rintro v1 u1 m1 l1 ⟨P,pa,pc,ya,yc,ra,rc,rows,hPL,rfl,hP,hrows,hbag⟩ _;rw[C2];refine G.nF 0 0 ?_;refine G.c call154 (Aqm hq.tx) ?_;rintro v2 u2 l2 rfl;refine G.c call115 (Zw hq.tx) ?_;rintro v3 u3 l3 rfl;have hqn:sgn q.num=1:=B9 (Aug hq.pos);refine G.kF (sgn q.num) 0 ?_;refine G.c call115 (Zw hS.tx) ?_;rintro v4 u4 l4 rfl;by_cases h0:k=0
 ·rw[if_pos h0];have hz:sgn C.c.num=0:=Aqc.2 (by rw[hS.c,h0];rfl);refine G.kT (sgn C.c.num) 0 ?_;exact G.r (.tuple #[.agg #[.slice pa P.length pc,.slice ya (P.length+1) yc,.slice ra (P.length+1) rc],.int .i64 12]) ⟨P,pa,pc,ya,yc,ra,rc,rows,hPL,rfl,hP.mono ((l2.trans l3).trans l4),hrows,hbag⟩
 ·rw[if_neg h0];have hz:sgn C.c.num=1:=B9 (Aug (hS.cpos h0));refine G.kF (sgn C.c.num) 0 ?_;exact G.r (.tuple #[.agg #[.slice pa P.length pc,.slice ya (P.length+1) yc,.slice ra (P.length+1) rc],.int .i64 0]) ⟨P,pa,pc,ya,yc,ra,rc,rows,hPL,rfl,hP.mono ((l2.trans l3).trans l4),hrows,hbag⟩
end
end
section
def Arh (m:PH)(gn:Nat)(e:Int):PH:=if e=0 then m else m.upd gn (.cells #[.slice none 0 0,.slice none 0 0,.slice none 0 0] 103 (0,0))
theorem Axj {P:Program}{T:TypeId}{z:Value}{u m:PH}{w:World}{gn:Nat}{s1 s2 s3 t1 t2 t3:Value}(hgd:Bx u m w)(hn:m gn=some (.cells #[s1,s2,s3] T (0,0)))(h1:Be t1=true)(h2:Be t2=true)(h3:Be t3=true)(hz:∀ env,pv P env (.build T #[])=some (.agg #[t1,t2,t3]))(hs:szB P T=some 3)
 {Q:Exit->Act->World->Prop} {o0 o1:Oper} (p0:o0.op=.build T #[]) (d0:o0.dst=some 4) (g0:o0.guard=none) (p1:o1.op=.store T (.tmp 1) (.tmp 4)) (d1:o1.dst=none) (g1:o1.guard=none) {id:Nat} {a:Act} (ha:a.eval (.tmp 1)=.pointer (some ⟨gn,0,none⟩)) (hl:4<a.tmps.size)
 (hk:∀ a' w',a'.defers=a.defers->Bx u (m.upd gn (.cells #[t1,t2,t3] T (0,0))) w'->Bz u m w u (m.upd gn (.cells #[t1,t2,t3] T (0,0))) w'->Q .normal a' w'):(Code.region id #[o0,o1] false).wp P Q a w:=by
 obtain⟨dst,opp,type,pos,after,guard⟩:=o0;obtain⟨dst1,opp1,type1,pos1,after1,guard1⟩:=o1;simp only at p0 d0 g0 p1 d1 g1;subst p0 d0 g0 p1 d1 g1;have e0:(execOp a.eval ⟨some 4,.build T #[],type,pos,after,none⟩).run P w=.ok (.value (.agg #[t1,t2,t3])) w:=Aju (hz _) w;have hv1:(a.put (some 4) (.agg #[t1,t2,t3])).eval (.tmp 1)=.pointer (some ⟨gn,0,none⟩):=by
  rw[<-ha];simp[Act.eval,Act.put]
 have hv4:(a.put (some 4) (.agg #[t1,t2,t3])).eval (.tmp 4)=.agg #[t1,t2,t3]:=by
  simp[Act.eval,Act.put,hl]
 have hcell:∀ x∈(#[t1,t2,t3]:Array Value).toList,Be x=true:=fun x hx=>by
  simp at hx;rcases hx with rfl|rfl|rfl<;>assumption
 obtain⟨k1,k2⟩:=hgd.setM hn hcell;have e1:(execOp (a.put (some 4) (.agg #[t1,t2,t3])).eval ⟨none,.store T (.tmp 1) (.tmp 4),type1,pos1,after1,none⟩).run P w=.ok .skip (w.setRow gn #[t1,t2,t3]):=by
  have hst:=run_storeCells_at P gn 0 T [t1,t2,t3] 0 #[s1,s2,s3] w (hgd.pm gn _ hn) mV (fun x hx=>Aqt (hcell x (by simpa using hx)));simp only[execOp,hv1,hv4];simp[A7p,A3x,storeVar,Bf hs,A1e]at hst⊢;rw[hst];rfl
 refine wp_region ?_;refine .inl ?_;show Oper.upon P ⟨some 4,.build T #[],type,pos,after,none⟩ a _ _ ((execOp a.eval ⟨some 4,.build T #[],type,pos,after,none⟩).run P w);rw[e0,Oper.upon_value];show wpOps P _ _ [1] (a.put (some 4) (.agg #[t1,t2,t3])) w;refine .inl ?_;show Oper.upon P ⟨none,.store T (.tmp 1) (.tmp 4),type1,pos1,after1,none⟩ (a.put (some 4) (.agg #[t1,t2,t3])) _ _ ((execOp (a.put (some 4) (.agg #[t1,t2,t3])).eval ⟨none,.store T (.tmp 1) (.tmp 4),type1,pos1,after1,none⟩).run P w);rw[e1,Oper.upon_skip];exact hk _ _ rfl k1 k2
theorem Au8 {u m:PH}{ge gn:Nat}{e:Int}{s1 s2 s3:Value}(he:m ge=some (.cells #[.int .i64 e] 43 (0,0)))(hn:m gn=some (.cells #[s1,s2,s3] 103 (0,0)))(h1:Be s1=true)(h2:Be s2=true)(h3:Be s3=true) :
 Avc prog 143 [.pointer (some ⟨ge,0,none⟩),.pointer (some ⟨gn,0,none⟩)] u m (fun u' m'=>u'=u/\m'=Arh m gn e):=by
 intro w hgd;refine (callsDIn_of_wp (R:=fun e' w'=>∃ v u' m',e'=.returned v/\Bx u' m' w'/\Bz u m w u' m' w'/\u'=u/\m'=Arh m gn e) func143 rfl trivial (wpIn_wide.2 ?_) rfl).mono (fun e' md w' h=>h);have hl:∀ ev:Operand->Value,∀ o:Oper,o.op=.load 43 (.tmp 0)->ev (.tmp 0)=.pointer (some ⟨ge,0,none⟩)->(execOp ev o).run prog w=.ok (.value (.int .i64 e)) w:=fun ev o ho hv=>by
  obtain⟨dst,opp,type,pos,after,guard⟩:=o;simp only at ho;subst ho;have hel:ElP m ge 0 (.int .i64 e):=fun i x hi=>by
   match i,hi with
   |0,hi=>exact⟨_,_,_,he,by simpa[A1e] using hi⟩
  have hr:=Tt (P:=prog) (t:=43) (k:=none) kV rfl hel hgd.pm;simp[execOp,A74,A3x,hv];rw[hr];rfl
 have hb:∀ ev:Operand->Value,∀ o:Oper,o.op=.binOp .neq 43 (.tmp 2) (.const (.int .i64 0)) 43->ev (.tmp 2)=.int .i64 e->ev (.const (.int .i64 0))=.int .i64 0->(execOp ev o).run prog w=.ok (.value (.bool (decide (e≠0)))) w:=fun ev o ho hv hv2=>by
  obtain⟨dst,opp,type,pos,after,guard⟩:=o;simp only at ho;subst ho;have hg:∀ t X Y,(eqGuard .neq t X Y (.int .i64 e) (.int .i64 0)).run prog w=.ok () w:=fun t X Y=>Cy t X Y w;have hr:∀ t,(binOp .neq t (.int .i64 e) (.int .i64 0)).run prog w=.ok (.bool (decide (e≠0))) w:=fun t=>by
   simp[binOp,Op.intCmp]
   try (rw[Bool.eq_iff_iff];simp)
  simp[execOp,hv,hv2,hg,hr]
 refine wp_seq (wp_region ?_);refine .inl ?_;show Oper.upon _ _ _ _ _ ((execOp _ _).run _ _);rw[hl _ _ rfl rfl,Oper.upon_value];refine .inl ?_;show Oper.upon _ _ _ _ _ ((execOp _ _).run _ _);rw[hb _ _ rfl rfl rfl,Oper.upon_value];by_cases h0:e=0
 ·rw[show decide (e≠0)=false by simp[h0]];refine wp_cond_false rfl (wp_skip ?_);refine bodyPost_end (results_none rfl _ _ _) rfl ?_;exact⟨_,_,_,rfl,hgd,Bz.refl _ _ _,rfl,by unfold Arh;rw[if_pos h0]⟩
 ·rw[show decide (e≠0)=true by simp[h0]];refine wp_cond_true rfl ?_;refine Axj (z:=undef) hgd hn (t1:=.slice none 0 0) (t2:=.slice none 0 0) (t3:=.slice none 0 0) rfl rfl rfl (fun env=>kV) kV rfl rfl rfl rfl rfl rfl rfl (Nat.lt_of_lt_of_eq (by decide:4<5) rfl) ?_;intro a' w' hd k1 k2;refine bodyPost_end (results_none rfl _ _ _) hd ?_;exact⟨_,_,_,rfl,k1,k2,rfl,by unfold Arh;rw[if_neg h0]⟩
end
section
variable [Cc] [Dy]
section
variable {P:Program} [Ba P] {id:Nat} {ops:Array Oper} {Fin:S->PH->PH->Prop} {a d:Nat} {kk:List KI} {s:S} {u m:PH}
theorem Ob.loadO (kd:Option Nat)(b off:Nat)(e:Value)(h:Al P (.reg id ops true [a]::kk,s)=.load (some kd) (.pointer (some ⟨b,off,none⟩)))(hd:(ops[a]?).bind (·.dst)=some d)(hs:Aby kd e=true)(he:ElP m b off e)(k:Fin (s.put (some d) (.v e)) u m):Ob P id ops true Fin [a] s u m:=by
 obtain⟨id',ops',dr',i',l',kk',s'',o,e1,ho',hg,hdo,hv,hns,hview,hnx⟩:=Ho h mV;simp only[A1r,A18,KI.reg.injEq]at e1;obtain⟨⟨⟨rfl,rfl,rfl,rfl,rfl⟩,rfl⟩,rfl⟩:=e1;have hdst:o.dst=some d:=by rw[ho']at hd;simpa using hd
 refine Ob.ask (v:=e) ho' hg hdo hv hns (Adw hview mV) (fun w hp=>?_) ?_
 ·obtain⟨t,X,e1,e2,e3⟩:=Ul hview;obtain⟨dst,opp,type,pos,after,guard⟩:=o;simp only at e1;subst e1;simp[execOp,A74,A3x,e2,Tt e3 hs he (hp rfl).2]
 ·rw[hdst];exact .nil k
theorem Ob.storeO (sz b off:Nat)(t:TypeId)(cs:List Value)(e:Value)(h:Al P (.reg id ops true [a]::kk,s)=.store (some sz) (.pointer (some ⟨b,off,none⟩)) e)(hd:(ops[a]?).bind (·.dst)=none)(hw:Oo ops a ((ops[a]?.getD default).op)=true)(hb:m b=some (.cells cs.toArray t (0,0)))(ho:∀ x∈cs,Be x=true)(hl:off+sz<=cs.length)(he:e.cells.size=sz)(hc:e.cells.toList.all Be=true)
 (k:Fin s u (m.upd b (.cells (cs.take off++e.cells.toList++cs.drop (off+sz)).toArray t (0,0)))):Ob P id ops true Fin [a] s u m:=by
 obtain⟨id',ops',dr',i',l',kk',s'',o,e1,ho',hg,hdo,hv,hns,hview,hnx⟩:=Ho h mV;simp only[A1r,A18,KI.reg.injEq]at e1;obtain⟨⟨⟨rfl,rfl,rfl,rfl,rfl⟩,rfl⟩,rfl⟩:=e1;have hdst:o.dst=none:=by rw[ho']at hd;simpa using hd
 have hop:(ops[a]?.getD default).op=o.op:=by rw[ho'];rfl
 rw[hop]at hw;refine Ob.big (K:=fun v' u' m'=>u'=u/\m'=m.upd b (.cells (cs.take off++e.cells.toList++cs.drop (off+sz)).toArray t (0,0))) ho' hg hdo hv hns (by
  obtain⟨t',X,Y,e2,_⟩:=Gc hview;rw[e2];rfl) (fun v u' m' hK=>.inr (.inr (.inl hw))) (fun w hgd=>?_) (fun v u' m' hle hK=>?_)
 ·obtain⟨t',X,Y,e1,e2,e3,ht⟩:=Gc hview;obtain⟨dst,opp,type,pos,after,guard⟩:=o;simp only at e1;subst e1;rw[A08]at hc;have hgw:=hgd.pm b _ hb;have hst:=run_storeCells_at P b off t e.cells.toList 0 cs.toArray w hgw (by simp[he];omega) (fun x hx=>Aqt (hc x hx));simp only[Nat.add_zero,A29,he,A2z]at hst;have hcell:∀ x∈(cs.take off++e.cells.toList++cs.drop (off+sz)).toArray.toList,Be x=true:=by
   intro x hx;simp only[A2z,A01]at hx;rcases hx with (hx|hx)|hx
   ·exact ho x (A2r hx)
   ·exact hc x hx
   ·exact ho x (List.mem_of_mem_drop hx)
  obtain⟨g1,g2⟩:=hgd.setM hb hcell;unfold D3;have hex:(execOp (Kg s) ⟨dst,.store t' X Y,type,pos,after,guard⟩).run P w=.ok .skip (w.setRow b (cs.take off++e.cells.toList++cs.drop (off+sz)).toArray):=by
   simp only[execOp,e2,e3];simp only[A1j]at hst⊢;simp[A7p,A3x,storeVar,Bf ht,he,hst]
  rw[hex];exact⟨u,_,g1,g2,rfl,rfl⟩
 ·obtain⟨rfl,rfl⟩:=hK;rw[hdst];exact .nil k
end
theorem Azi {m:PH}{g:Nat}{o:Obj}(h:m g=some o):m.upd g o=m:=by
 funext k
 by_cases e:k=g
 ·subst e;rw[Ac,h]
 ·rw[Ad _ _ e]
def Axk (st:List KI×S)(d0 d1:Nat):Bool:=match st with
 |(.code (.region _ ops true)::_,s)=>Av0 ops s [] [0,1,2,3] []&&bef ops ops.size 2 0&&bef ops ops.size 3 0&&bef ops ops.size 3 1&&bef ops ops.size 3 2&&decide ((ops[0]?).bind (·.dst)=some d0/\(ops[1]?).bind (·.dst)=some d1/\(ops[2]?).bind (·.dst)=none/\(ops[3]?).bind (·.dst)=none)&&decide (d0≠d1) &&
  Oo ops 2 ((ops[2]?.getD default).op)&&Oo ops 3 ((ops[3]?.getD default).op)
 |_=>false
def atS (l:List Nat)(st:List KI×S)(f:S->S):List KI×S:=match st with
 |(.code (.region id ops true)::k,s)=>(.reg id ops true l::k,f s)
 |_=>st
section rules
variable {P:Program} [Ba P] {fn:Func} {Post:B0} {st:List KI×S} {u m:PH}
theorem G.back2 (d0 d1:Nat)(k0 k1:Option Nat)(b0 b1:Nat)(t0 t1:TypeId)(e0 e1:Value)(n0 n1:Nat)(h:Axk (adv P st) d0 d1=true)
 (H0:∀ x,Al P (atS [0] (adv P st) (fun s=>s.put (some d1) x))=.load (some k0) (.pointer (some ⟨b0,0,none⟩))) (H1:∀ x,Al P (atS [1] (adv P st) (fun s=>s.put (some d0) x))=.load (some k1) (.pointer (some ⟨b1,0,none⟩)))
 (H2:∀ x,Al P (atS [2] (adv P st) (fun s=>(s.put (some d0) (.v e0)).put (some d1) x))=.store (some n0) (.pointer (some ⟨b0,0,none⟩)) e0) (H3:Al P (atS [3] (adv P st) (fun s=>(s.put (some d0) (.v e0)).put (some d1) (.v e1)))=.store (some n1) (.pointer (some ⟨b1,0,none⟩)) e1)
 (ok0:Aby k0 e0=true) (ok1:Aby k1 e1=true) (hm0:m b0=some (.cells e0.cells t0 (0,0))) (hm1:m b1=some (.cells e1.cells t1 (0,0))) (hz0:e0.cells.size=n0) (hz1:e1.cells.size=n1) (hc0:e0.cells.toList.all Be=true) (hc1:e1.cells.toList.all Be=true)
 (k:G P fn Post (atS [] (adv P st) (fun s=>(s.put (some d0) (.v e0)).put (some d1) (.v e1))) u m):G P fn Post st u m:=by
 refine G.stp ⟨?_⟩;generalize adv P st=st' at h H0 H1 H2 H3 k;unfold Axk at h;split at h
 ·rename_i id ops kk s;simp only[A05]at h;obtain⟨⟨⟨⟨⟨⟨⟨⟨h1,b20⟩,b30⟩,b31⟩,b32⟩,hd⟩,hne⟩,w2⟩,w3⟩:=h;obtain⟨e0',e1',e2',e3'⟩:=of_decide_eq_true hd;have hne:=of_decide_eq_true hne;simp only[atS]at H0 H1 H2 H3 k;have hel:∀ (b:Nat) (t:TypeId) (e:Value),m b=some (.cells e.cells t (0,0))->ElP m b 0 e:=fun b t e hb i x hi=>⟨_,_,_,hb,by simpa using hi⟩;have hall:∀ e:Value,e.cells.toList.all Be=true->∀ x∈e.cells.toList,Be x=true:=fun e h=>by rwa[A08]at h
  have hupd:∀ (b:Nat) (t:TypeId) (e:Value) (n:Nat),e.cells.size=n->m b=some (.cells e.cells t (0,0))->m.upd b (.cells (e.cells.toList.take 0++e.cells.toList++e.cells.toList.drop (0+n)).toArray t (0,0))=m:=fun b t e n hn hb=>by
   rw[A1u (by rw[A29,hn];omega)];simp only[A3y,A2t,A1i,Array.toArray_toList];exact Azi hb
  have ps0:∀ s:S,s=s.put (some d1) (s.tm d1):=fun s=>S.ext' rfl (funext fun t=>by
   by_cases e:t=d1
   ·subst e;rw[B5]
   ·rw[Px _ _ _ e]) rfl
  have ps1:∀ s:S,s=s.put (some d0) (s.tm d0):=fun s=>S.ext' rfl (funext fun t=>by
   by_cases e:t=d0
   ·subst e;rw[B5]
   ·rw[Px _ _ _ e]) rfl
  have pc:∀ (s:S) (x y:SV),(s.put (some d1) y).put (some d0) x=(s.put (some d0) x).put (some d1) y:=fun s x y=>Aid s y x (fun j hj=>by cases hj;intro e;cases e;exact hne rfl);have pp:∀ (s:S) (x y:SV),(s.put (some d1) x).put (some d1) y=s.put (some d1) y:=fun s x y=>S.ext' rfl (funext fun t=>by
   by_cases e:t=d1
   ·subst e;rw[B5,B5]
   ·rw[Px _ _ _ e,Px _ _ _ e,Px _ _ _ e]) rfl
  have pp0:∀ (s:S) (x y:SV),(s.put (some d0) x).put (some d0) y=s.put (some d0) y:=fun s x y=>S.ext' rfl (funext fun t=>by
   by_cases e:t=d0
   ·subst e;rw[B5,B5]
   ·rw[Px _ _ _ e,Px _ _ _ e,Px _ _ _ e]) rfl
  have s2:∀ {Fin:S->PH->PH->Prop} (x:SV),Fin ((s.put (some d0) (.v e0)).put (some d1) x) u m->Ob P id ops true Fin [2] ((s.put (some d0) (.v e0)).put (some d1) x) u m:=fun {Fin} x hk =>
   Ob.storeO n0 b0 0 t0 e0.cells.toList e0 (H2 x) e2' w2 (by simpa using hm0) (hall e0 hc0) (by rw[A29];omega) hz0 hc0 (by rw[hupd b0 t0 e0 n0 hz0 hm0];exact hk)
  have n3:Ar4 P id ops [] (Oq P fn Post kk) 1 [3] ((s.put (some d0) (.v e0)).put (some d1) (.v e1)) u m:=fun a ha _=>by
   simp only[A02,A14,or_false]at ha;subst ha;rw[A2v];refine Ob.storeO n1 b1 0 t1 e1.cells.toList e1 H3 e3' w3 (by simpa using hm1) (hall e1 hc1) (by rw[A29];omega) hz1 hc1 ?_;rw[hupd b1 t1 e1 n1 hz1 hm1];exact k.out
  have n23:Ar4 P id ops [] (Oq P fn Post kk) 2 [2,3] ((s.put (some d0) (.v e0)).put (some d1) (.v e1)) u m:=fun a ha hcd=>by
   simp only[A02,A14,or_false]at ha;rcases ha with rfl|rfl
   ·rw[A2v];exact s2 _ n3
   ·have:=hcd 2 mV fV;rw[b32]at this;cases this
  have n13:Ar4 P id ops [] (Oq P fn Post kk) 2 [1,3] (s.put (some d0) (.v e0)) u m:=fun a ha hcd=>by
   simp only[A02,A14,or_false]at ha;rcases ha with rfl|rfl
   ·rw[A2v];exact Ob.loadO k1 b1 0 e1 (H1 _) e1' ok1 (hel b1 t1 e1 hm1) n3
   ·have:=hcd 1 mV fV;rw[b31]at this;cases this
  refine Sym.reg_tree Ba.mx h1 (.nil ?_);show Ar4 P id ops [] (Oq P fn Post kk) 4 [0,1,2,3] s u m;intro a ha hcd;simp only[A02,A14,or_false]at ha;rcases ha with rfl|rfl|rfl|rfl
  ·rw[show [0,1,2,3].erase 0 = [1,2,3] from rfl,ps0 s];refine Ob.loadO k0 b0 0 e0 (H0 _) e0' ok0 (hel b0 t0 e0 hm0) ?_;rw[<-ps0 s];intro a ha hcd;simp only[A02,A14,or_false]at ha;rcases ha with rfl|rfl|rfl
   ·rw[show [1,2,3].erase 1 = [2,3] from rfl];exact Ob.loadO k1 b1 0 e1 (H1 _) e1' ok1 (hel b1 t1 e1 hm1) n23
   ·rw[show [1,2,3].erase 2 = [1,3] from rfl,ps0 (s.put (some d0) (.v e0))];refine s2 _ ?_;rw[<-ps0 (s.put (some d0) (.v e0))];exact n13
   ·have:=hcd 2 mV fV;rw[b32]at this;cases this
  ·rw[show [0,1,2,3].erase 1 = [0,2,3] from rfl,ps1 s];refine Ob.loadO k1 b1 0 e1 (H1 _) e1' ok1 (hel b1 t1 e1 hm1) ?_;rw[<-ps1 s];intro a ha hcd;simp only[A02,A14,or_false]at ha;rcases ha with rfl|rfl|rfl
   ·rw[show [0,2,3].erase 0 = [2,3] from rfl];refine Ob.loadO k0 b0 0 e0 (H0 _) e0' ok0 (hel b0 t0 e0 hm0) ?_;rw[pc];exact n23
   ·have:=hcd 0 mV fV;rw[b20]at this;cases this
   ·have:=hcd 2 mV fV;rw[b32]at this;cases this
  ·have:=hcd 0 mV fV;rw[b20]at this;cases this
  ·have:=hcd 2 mV fV;rw[b32]at this;cases this
 ·cases h
end rules
end
section
variable {es:List Value}{g i:Nat}{l:List Arr}{t:TypeId}
def Asc (g:Nat)(t:TypeId)(es:List Value):Arr:=⟨.slice (some ⟨g,0,none⟩) es.length es.length,t,1,es⟩
def Asu (es:List Value):Prop:=∀ x∈es,Be x=true/\x.cells = #[x]
theorem At8 {m:PH}(hg:m g=none)(ho:Asu es):(Asc g t es).At m (m.upd g (.cells es.toArray t (0,0))):=by
 refine⟨Axp ho,.inr ⟨g,es.length,[],hg,?_,rfl,A0w _,?_,mV⟩⟩
 ·show _=m.upd g (.cells (Az es++[]).toArray t (0,0));rw[Ark fun x hx=>(ho x hx).2,A1i]
 ·show (Az es++[]).length=es.length*1;rw[Ark fun x hx=>(ho x hx).2,A1i,Nat.mul_one]
theorem Awk {m0 m:PH}(h:(Asc g t es).At m0 m)(ho:Asu es)(hn:es≠[]):m0 g=none/\m=m0.upd g (.cells es.toArray t (0,0)):=by
 rcases h.2 with ⟨h,_,_⟩|⟨g',cap,rest,e1,e2,e3,e4,e5,_⟩
 ·cases h
 ·simp only[Asc,A09,Option.some.injEq,Addr.mk.injEq]at e3;obtain⟨⟨rfl,_,_⟩,_,rfl⟩:=e3;simp only[Asc]at e2 e5;rw[Ark fun x hx=>(ho x hx).2]at e2 e5;have:rest = []:=by
   refine A13 ?_;rw[A0z]at e5;omega
  subst this;rw[A1i]at e2;exact⟨e1,e2⟩
theorem Ars {m:PH}(h:Bag m l)(hi:l[i]?=some (Asc g t es))(ho:Asu es)(hn:es≠[]):m g=some (.cells es.toArray t (0,0)):=by
 obtain⟨m0,h1,_⟩:=h.focus i hi;rw[(Awk h1 ho hn).2,Ac]
theorem Ari {m:PH}{i g j:Nat}{x:Value}(h:Bag m l)(hi:l[i]?=some (Asc g t es))(hj:es[j]?=some x):ElP m g (0+j*1) x:=h.el i hi rfl hj
theorem At9 {m:PH}(h:Bag m l)(hi:l[i]?=some (Asc g t es))(ho:Asu es)(hn:es≠[]):ElP m g 0 (.agg es.toArray):=fun j x hj=>by
 refine⟨_,_,_,Ars h hi ho hn,?_⟩;simpa[A1e] using hj
section
variable [Cc] [Dy] {P:Program} [Ba P] {fn:Func} {Post:B0} {st:List KI×S} {u m:PH}
theorem G.storeOne {l:List Arr}(i g:Nat)(t:TypeId)(n:Nat)(es:List Value)(e:Value)(h:Al P (adv P st)=.store (some n) (.pointer (some ⟨g,0,none⟩)) e)(hb:Bag m l)(hi:l[i]?=some (Asc g t es))(ho:Asu es)(hn:es≠[])(hl:es.length=n)(he:e.cells.size=n)(hc:Asu e.cells.toList)
 (k:∀ m',Bag m' (l.set i (Asc g t e.cells.toList))->G P fn Post (nx (adv P st) undef) u m'):G P fn Post st u m:=by
 obtain⟨m0,h1,hput⟩:=hb.focus i hi;obtain⟨e1,e2⟩:=Awk h1 ho hn;refine G.storeM n g 0 t es e h (by rw[e2,Ac]) (fun x hx=>(ho x hx).1) oV he (A08.2 fun x hx=>(hc x hx).1) ?_;have e3:m.upd g (.cells (es.take 0++e.cells.toList++es.drop (0+n)).toArray t (0,0))=m0.upd g (.cells e.cells.toList.toArray t (0,0)):=by
  rw[e2,Dh,A1u oV];simp
 rw[e3];exact k _ (hput _ _ (At8 e1 hc))
end
def Aw6:Value:=.agg #[.slice none 0 0,.slice none 0 0,.slice none 0 0]
def Ay9 (F:List Ao)(C:CF)(k:Nat)(q:Rat)(r:Value)(u m:PH):Prop :=
 (∃ e:Int,r=.tuple #[Aw6,.int .i64 e]/\(e=12/\k=0\/e=3/\k≠0/\∃ P,R1 F C P/\11<P.length)) \/
 (k≠0/\∃ (P:List Par) (pa:Option Addr) (pc:Nat) (xa:Option Addr) (xc:Nat) (ra:Option Addr) (rc:Nat) (rows:List (Value×List Value)),R1 F C P/\P.length<=11 /\
  r=.tuple #[.agg #[.slice pa P.length pc,.slice xa (P.length+1) xc,.slice ra (P.length+1) rc],.int .i64 0]/\Ab u (.slice pa P.length pc) 2 (P.map An)/\rows.map (·.2)=(Gl q (M8 C P) (P.length+1)).map txV /\
  Bag m (E8 (.slice ra (P.length+1) rc,txV ((Ak P).map (Ay C)))::oT (.slice xa (P.length+1) xc) rows::rows.map E8))
theorem Aqw {a b c:Option Addr}{n1 c1 n2 c2 n3 c3:Nat}:Asu [.slice a n1 c1,.slice b n2 c2,.slice c n3 c3]:=fun x hx=>by
 simp only[A02,A14,or_false]at hx;rcases hx with rfl|rfl|rfl<;>exact⟨rfl,rfl⟩
theorem Aqs {z:Int}:Asu [.int .i64 z]:=fun x hx=>by
 simp only[A02,A14,or_false]at hx;subst hx;exact⟨rfl,rfl⟩
theorem Avx {m:PH}{gn ge:Nat}{e:Int}(hne:ge≠gn)(he:e≠0)(hm:m ge=some (.cells #[.int .i64 e] 43 (0,0))):ElP (Arh m gn e) gn 0 Aw6/\ElP (Arh m gn e) ge 0 (.int .i64 e):=by
 unfold Arh;rw[if_neg he];refine⟨fun i x hi=>⟨_,_,_,Ac _ _ _,by simpa[Aw6,A1e] using hi⟩,fun i x hi=>⟨#[.int .i64 e],_,_,by rw[Ad _ _ hne,hm],by simpa[A1e] using hi⟩⟩
section
variable {u:PH} {v cv:Value} {T:List (List UInt8×Nat)} {R:List Bk} {F:List Ao} {lab:Int} {C:CF} {K k:Nat} {q:Rat}
theorem Arn.cellDe (h:Arn u v cv T R F lab C K k)(e f:Option Par):De 39 18 (As C e f):=by
 cases e<;>cases f
 ·show De 39 18 C.c;rw[h.mom.c];exact (De.nat (a:=2) (by have:=h.mom.lt;omega)).mono oV oV
 ·exact h.mom.s _
 ·exact h.mom.s _
 ·exact h.mom.t _
theorem Au4 (ht:Lb u)(h:Arn u v cv T R F lab C K k)(hq:Avj q) :
 Ai prog 68 [v,cv,.string (mkS (Af q))] u PH.mt fun r u' m'=>Ay9 F C k q r u' m':=by
 have hbg:=Atm h hq;have hcd:=h.cellDe;obtain⟨xa,xc,xb,xd,xe,xf,rfl,_⟩:=id h.sch;obtain⟨a1,n1,c1,a2,n2,c2,rfl⟩:=id h.cof.opn;have h24:=h.p24;refine Ai.o func68 ?_;refine G.go 7 ?_;refine G.pub 2 103 [.slice none 0 0,.slice none 0 0,.slice none 0 0] kV kV ?_;intro gn hgu hgm;refine G.pub 3 43 [.int .i64 0] kV kV ?_;intro ge hgeu hgem;have hb1:Bag ((PH.mt.upd gn (.cells #[.slice none 0 0,.slice none 0 0,.slice none 0 0] 103 (0,0))).upd ge (.cells #[.int .i64 0] 43 (0,0))) [Asc ge 43 [.int .i64 0],Asc gn 103 [.slice none 0 0,.slice none 0 0,.slice none 0 0]] :=
  ⟨_,At8 hgem Aqs,PH.mt,At8 hgm Aqw,trivial⟩
 have hne:ge≠gn:=fun e=>by rw[e,Ac]at hgem;cases hgem
 refine G.go 1 ?_;refine G.off (d:=9) (fn:=.func 143) (vs:=[.pointer (some ⟨ge,0,none⟩),.pointer (some ⟨gn,0,none⟩)]) kV kV kV ?_;obtain⟨B,hB⟩:∃ B:Dy,B=⟨[Ath (.func 143) [.pointer (some ⟨ge,0,none⟩),.pointer (some ⟨gn,0,none⟩)]]⟩:=⟨_,rfl⟩;rw[<-hB];have hdl:B.dl = [Ath (.func 143) [.pointer (some ⟨ge,0,none⟩),.pointer (some ⟨gn,0,none⟩)]]:=by subst hB;rfl
 clear hB;have hinv:∀ w,(invoke (Ath (.func 143) [.pointer (some ⟨ge,0,none⟩),.pointer (some ⟨gn,0,none⟩)]).target (Ath (.func 143) [.pointer (some ⟨ge,0,none⟩),.pointer (some ⟨gn,0,none⟩)]).args).run prog w=.ok (.enter 143 [Value.pointer (some ⟨ge,0,none⟩),.pointer (some ⟨gn,0,none⟩)].toArray) w:=fun w=>by
  simp[invoke,Ath]
 refine G.callO _ _ kV call144 hbg ?_;rintro v1 u1 mc l1 ⟨P,pa,pc,ya,yc,ra,rc,rows,hPL,rfl,hL,hrows,hbag⟩ hdis;have hP24:=h24 P hPL;have hb2:=Bag.perm (List.perm_append_comm) (Bag.or hb1 hbag hdis);rw[A39,A39,A2t]at hb2;clear hb1 hbag hdis;refine G.storeOne 1 gn 103 3 [.slice none 0 0,.slice none 0 0,.slice none 0 0] (.agg #[.slice pa P.length pc,.slice ya (P.length+1) yc,.slice ra (P.length+1) rc]) kV hb2 rfl Aqw mV rfl rfl Aqw ?_;intro m3 hb3;refine G.storeOne 0 ge 43 1 [.int .i64 0] (.int .i64 (if k=0 then 12 else 0)) kV hb3 rfl Aqs mV rfl rfl Aqs ?_;intro m4 hb4;clear hb2 hb3;simp only[A2c,A2k,A1e]at hb4;refine G.loadM none ge 0 (.int .i64 (if k=0 then 12 else 0)) kV rfl (Ari (j:=0) hb4 (i:=0) rfl rfl) ?_;by_cases h0:k=0
 ·rw[if_pos h0]at hb4⊢;refine G.nT 12 0 ?_;have hmn:=Ars hb4 (i:=1) rfl Aqw mV;have hme:=Ars hb4 (i:=0) rfl Aqs mV;refine G.back2 19 20 (some 3) none gn ge 103 43 (.agg #[.slice pa P.length pc,.slice ya (P.length+1) yc,.slice ra (P.length+1) rc]) (.int .i64 12) 3 1 kV (fun _=>kV) (fun _=>kV) (fun _=>kV) kV rfl rfl hmn hme rfl rfl rfl rfl ?_;refine G.retD hdl (K:=fun u' m'=>u'=u1/\m'=Arh m4 gn 12) rfl hinv kV (Au8 hme hmn rfl rfl rfl) ?_;rintro u' m' _ ⟨rfl,rfl⟩;obtain⟨q1,q2⟩:=Avx (e:=12) hne fV hme;exact⟨[Aw6,.int .i64 12],PH.mt,⟨.inr ⟨6,103,gn,0,some 3,rfl,kV,kV,rfl,q1⟩,.inr ⟨7,43,ge,0,none,rfl,kV,kV,rfl,q2⟩,trivial⟩,PH.mt_le _,.inl ⟨12,rfl,.inl ⟨rfl,h0⟩⟩⟩
 rw[if_neg h0]at hb4⊢;refine G.nF 0 0 ?_;refine G.f 103 gn 0 1 1 ?_;refine G.loadM none gn (0+1) (.slice ya (P.length+1) yc) kV rfl (Ari (j:=1) hb4 (i:=1) rfl rfl) ?_;by_cases h12:P.length+1>12
 ·refine G.gT ((P.length+1:Nat):Int) 12 ?_;refine G.loadM (some 3) gn 0 (.agg #[.slice pa P.length pc,.slice ya (P.length+1) yc,.slice ra (P.length+1) rc]) kV rfl (At9 hb4 (i:=1) rfl Aqw mV) ?_;refine G.storeOne 1 gn 103 3 _ (.agg #[.slice pa P.length pc,.slice ya (P.length+1) yc,.slice ra (P.length+1) rc]) kV hb4 rfl Aqw mV rfl rfl Aqw ?_;intro m5 hb5;refine G.storeOne 0 ge 43 1 [.int .i64 0] (.int .i64 3) kV hb5 rfl Aqs mV rfl rfl Aqs ?_;intro m6 hb6;simp only[A2c,A2k,A1e]at hb6;have hmn:=Ars hb6 (i:=1) rfl Aqw mV;have hme:=Ars hb6 (i:=0) rfl Aqs mV;refine G.retD hdl (K:=fun u' m'=>u'=u1/\m'=Arh m6 gn 3) rfl hinv kV (Au8 hme hmn rfl rfl rfl) ?_;rintro u' m' _ ⟨rfl,rfl⟩;obtain⟨q1,q2⟩:=Avx (e:=3) hne fV hme;exact⟨[Aw6,.int .i64 3],PH.mt,⟨.inr ⟨6,103,gn,0,some 3,rfl,kV,kV,rfl,q1⟩,.inr ⟨7,43,ge,0,none,rfl,kV,kV,rfl,q2⟩,trivial⟩,PH.mt_le _,.inl ⟨3,rfl,.inr ⟨rfl,h0,P,hPL,oV⟩⟩⟩
 refine G.gF ((P.length+1:Nat):Int) 12 ?_;refine G.f 103 gn 0 0 0 ?_;refine G.loadM none gn (0+0) (.slice pa P.length pc) kV rfl (Ari (j:=0) hb4 (i:=1) rfl rfl) ?_;have hX:=Rt C P;generalize hXe:M8 C P=X at hrows hX;have hXc:∀ i j,i<P.length+1->j<P.length+1->De 39 18 (en X i j):=fun i j hi hj=>by rw[<-hXe,Adr C P hi hj];exact hcd _ _
 refine G.l (ι:=Nat×List (Value×List Value)) (fun i=>[(2,tV (Af q)),(6,.v (.pointer (some ⟨gn,0,none⟩))),(7,.v (.pointer (some ⟨ge,0,none⟩))),(28,iV P.length),(29,iV i.1)]) (fun _=>[])
  (fun i u' m'=>i.1<=P.length/\i.2.map (·.2)=(Gl q X (i.1+1)).map txV/\Bag m' (Asc ge 43 [.int .i64 0]::Asc gn 103 [.slice pa P.length pc,.slice ya (P.length+1) yc,.slice ra (P.length+1) rc]::E8 (.slice ra (P.length+1) rc,txV ((Ak P).map (Ay C)))::oT (.slice ya (P.length+1) yc) i.2::i.2.map E8)) (fun i=>P.length-i.1)
  (0,rows) ⟨A1m _,hrows,hb4⟩ ?_
 clear hb4 hrows;rintro J ⟨i,rows⟩ hJ u5 m5 l5 ⟨hi,hrows,hbag⟩;simp only at hi hrows hbag hJ;obtain⟨mE,hE,mN,hN,hR⟩:=id hbag;have hle:PH.le mN m5:=(Apn hN).trans (Apn hE);have hXi:=Asg (q:=q) hX (i+1) oV;by_cases hlt:i<P.length
 ·refine G.lT (i:Int) (P.length:Int) ?_;have hrl:rows.length=P.length+1:=by have:=congrArg A35 hrows;rw[A0p,A0p,hXi.1]at this;exact this
  obtain⟨go,co,eo⟩:=hR.ptr 1 rfl (fun e=>by
   have:(rows.map (·.1)).length=0:=by rw[show rows.map (·.1) = [] from e];rfl
   rw[A0p]at this;omega)
  have eo2:(A06 ya (P.length+1) yc)=.slice (some ⟨go,0,none⟩) (P.length+1) co:=by
   have e1:(oT (.slice ya (P.length+1) yc) rows).v=A06 ya (P.length+1) yc:=rfl;rw[e1]at eo;rw[eo];have:(oT (.slice ya (P.length+1) yc) rows).es.length=P.length+1:=by show (rows.map (·.1)).length=_;rw[A0p,hrl]
   rw[this]
  cases eo2;obtain⟨gi,ci,hri,e1,e2⟩:=Ap3 hR hrows hXi (show i+1<P.length+1 by omega);have hen:gR (gM (Gl q X (i+1)) (i+1)) (i+1)=en X (i+1) (i+1):=by
   have:=Xd (q:=q) hX (i+1) oV (i+1) (i+1) oV oV;rw[if_neg oV]at this;show en (Gl q X (i+1)) (i+1) (i+1)=_;rw[this];grind
  have hd:=hXc (i+1) (i+1) oV oV;have e2':=e2 (i+1) oV;rw[hen]at e2';have hload:ElP m5 gn (0+1) (.slice (some ⟨go,0,none⟩) (P.length+1) yc):=Ari (j:=1) hbag (i:=1) rfl rfl;refine G.f 103 gn 0 1 1 ?_;refine G.loadM none gn (0+1) (.slice (some ⟨go,0,none⟩) (P.length+1) yc) kV rfl hload ?_;refine G.i i ?_;refine G.a go 0 (P.length+1) yc (i+1) 1 oV ?_;refine G.loadM none go (0+(i+1)*1) (.slice (some ⟨gi,0,none⟩) (P.length+1) ci) kV rfl (e1.mono hle) ?_;refine G.i i ?_;refine G.f 103 gn 0 1 1 ?_;refine G.loadM none gn (0+1) (.slice (some ⟨go,0,none⟩) (P.length+1) yc) kV rfl hload ?_;refine G.i i ?_;refine G.a go 0 (P.length+1) yc (i+1) 1 oV ?_;refine G.loadM none go (0+(i+1)*1) (.slice (some ⟨gi,0,none⟩) (P.length+1) ci) kV rfl (e1.mono hle) ?_;refine G.i i ?_;refine G.a gi 0 (P.length+1) ci (i+1) 1 oV ?_;refine G.loadM none gi (0+(i+1)*1) (.string (mkS (Af (en X (i+1) (i+1))))) kV rfl (e2'.mono hle) ?_;have ha:=hd.add hq.de (f:=42) oV oV;refine G.c call145 (Ayq ((ht.mono l1).mono l5) (hd.tx oV oV oV oV) hq.tx (ha.tx oV oV oV oV)) ?_;rintro v6 u6 l6 rfl;refine G.a gi 0 (P.length+1) ci (i+1) 1 oV ?_;obtain⟨m0,hx0,hput⟩:=hbag.focus (i+5) (x:=E8 (.slice (some ⟨gi,0,none⟩) (P.length+1) ci,txV (gM (Gl q X (i+1)) (i+1)))) (by simp[hri]);rw[Mb]at hx0;have hel:(txV (gM (Gl q X (i+1)) (i+1))).length=P.length+1:=by rw[Fu,hXi.2 (i+1) oV]
  refine G.storeA 1 m0 (txV (gM (Gl q X (i+1)) (i+1))) gi (P.length+1) ci (i+1) (.string (mkS (Af (en X (i+1) (i+1)+q)))) kV hx0 oV rfl rfl ?_;intro m7 hA7;have es:(txV (gM (Gl q X (i+1)) (i+1))).set (i+1) (.string (mkS (Af (en X (i+1) (i+1)+q))))=txV ((gM (Gl q X (i+1)) (i+1)).set (i+1) (gR (gM (Gl q X (i+1)) (i+1)) (i+1)+q)):=by
   rw[hen];unfold txV;rw[A27]
  rw[es]at hA7;have hb7:=hput (E8 (.slice (some ⟨gi,0,none⟩) (P.length+1) ci,txV ((gM (Gl q X (i+1)) (i+1)).set (i+1) (gR (gM (Gl q X (i+1)) (i+1)) (i+1)+q)))) m7 hA7;have hb7':Bag m7 (Asc ge 43 [.int .i64 0]::Asc gn 103 [.slice pa P.length pc,.slice (some ⟨go,0,none⟩) (P.length+1) yc,.slice ra (P.length+1) rc]::E8 (.slice ra (P.length+1) rc,txV ((Ak P).map (Ay C))) ::
   oT (.slice (some ⟨go,0,none⟩) (P.length+1) yc) (rows.set (i+1) (.slice (some ⟨gi,0,none⟩) (P.length+1) ci,txV ((gM (Gl q X (i+1)) (i+1)).set (i+1) (gR (gM (Gl q X (i+1)) (i+1)) (i+1)+q))))::(rows.set (i+1) (.slice (some ⟨gi,0,none⟩) (P.length+1) ci,txV ((gM (Gl q X (i+1)) (i+1)).set (i+1) (gR (gM (Gl q X (i+1)) (i+1)) (i+1)+q)))).map E8):=by
   rw[Aoe hri,A27];simpa using hb7
  refine G.storeOne 0 ge 43 1 [.int .i64 0] (.int .i64 0) kV hb7' rfl Aqs mV rfl rfl Aqs ?_;intro m8 hb8;simp only[A2k,A1e]at hb8;refine G.loadM none ge 0 (.int .i64 0) kV rfl (Ari (j:=0) hb8 (i:=0) rfl rfl) ?_;refine G.nF 0 0 ?_;refine G.i i ?_;refine G.b (hJ (i+1,rows.set (i+1) (.slice (some ⟨gi,0,none⟩) (P.length+1) ci,txV ((gM (Gl q X (i+1)) (i+1)).set (i+1) (gR (gM (Gl q X (i+1)) (i+1)) (i+1)+q)))) _ _ _ cV (l5.trans l6) ⟨dV,?_,hb8⟩ dV);dsimp only;rw[A27,hrows,<-A27];rfl
 obtain rfl:i=P.length:=oV
 refine G.lF (P.length:Int) (P.length:Int) ?_;refine G.loadM (some 3) gn 0 (.agg #[.slice pa P.length pc,.slice ya (P.length+1) yc,.slice ra (P.length+1) rc]) kV rfl (At9 hbag (i:=1) rfl Aqw mV) ?_;refine G.storeOne 1 gn 103 3 _ (.agg #[.slice pa P.length pc,.slice ya (P.length+1) yc,.slice ra (P.length+1) rc]) kV hbag rfl Aqw mV rfl rfl Aqw ?_;intro m6 hb6;refine G.storeOne 0 ge 43 1 [.int .i64 0] (.int .i64 0) kV hb6 rfl Aqs mV rfl rfl Aqs ?_;intro m7 hb7;simp only[A2c,A2k,A1e]at hb7;have hmn:=Ars hb7 (i:=1) rfl Aqw mV;have hme:=Ars hb7 (i:=0) rfl Aqs mV;refine G.retD hdl (K:=fun u' m'=>u'=u5/\m'=Arh m7 gn 0) rfl hinv kV (Au8 hme hmn rfl rfl rfl) ?_;intro u' m' _ hK;have hm2:m'=m7:=hK.2.trans (if_pos rfl);rw[hK.1,hm2];obtain⟨mE',hE',mN',hN',hR'⟩:=id hb7;have q1:=At9 hb7 (i:=1) rfl Aqw mV;have q2:=Ari (j:=0) hb7 (i:=0) rfl rfl;exact⟨[.agg #[.slice pa P.length pc,.slice ya (P.length+1) yc,.slice ra (P.length+1) rc],.int .i64 0],mN',⟨.inr ⟨6,103,gn,0,some 3,rfl,kV,kV,rfl,q1⟩,.inr ⟨7,43,ge,0,none,rfl,kV,kV,rfl,q2⟩,trivial⟩,(Apn hN').trans (Apn hE'),
  .inr ⟨h0,P,pa,pc,ya,yc,ra,rc,rows,hPL,oV,rfl,hL.mono l5,by rw[hXe];exact hrows,hR'⟩⟩
end
end
section
variable {m0:Rat}{qs:List Rat}
theorem Awt {u:PH}{q:Rat}(h:Tx q):Fn0 prog 153 [.string (mkS (Af q))] u fun v _=>v=.bool false:=by
 refine Fn0.o func153 ?_;refine G.c call154 (Aqm h) ?_;rintro v1 u1 l1 rfl;exact G.r (.bool false) ⟨rfl,rfl⟩
theorem Aws {u:PH}{pv lv:Value}{P:List Par}(hP:Ab u pv 2 (P.map An))(hL:Fe u lv ((m0::qs).map Af))(hs:Ef A8 P)(hlen:qs.length=P.length)(hl:P.length<=1000)(h0:Tx m0)(hT:∀ q∈qs,Tx q) :
 Fn0 prog 70 [pv,lv] u fun r u'=>∃ mv,r=.tuple #[mv,.int .i64 0]/\Ar9 u' mv m0 (P.zip qs):=by
 have hasc:=Wq hP hs oV;obtain⟨a,c,rfl⟩:=hP.opn;obtain⟨la,lc,rfl⟩:=Ab.opn hL;have hn:(Cs ((m0::qs).map Af)).length=P.length+1:=by rw[J7,A0p,A2n,hlen]
 rw[A0p]at hP hasc⊢;rw[hn]at hL⊢;have hTx:∀ i q,(m0::qs)[i]?=some q->Tx q:=fun i q hq=>by
  rcases A02.1 (A1b hq) with rfl|h
  ·exact h0
  ·exact hT q h
 refine Fn0.o func70 ?_;refine G.c call131 hasc ?_;rintro v1 u1 l1 rfl;refine G.p (P.length:Int) 1 ((P.length+1:Nat):Int) ?_;refine G.nF ((P.length+1:Nat):Int) ((P.length+1:Nat):Int) ?_;refine G.c call152 (Arg (fid:=153) (Ab.mono hL l1) (by rw[A0p,A2n,hlen];omega) call153 (fun t ht u' _=>?_)) ?_
 ·obtain⟨q,hq',rfl⟩:=A0u.1 ht;obtain⟨i,hi⟩:=List.mem_iff_getElem?.1 hq';exact Awt (hTx i q hi)
 rintro v2 u2 l2 rfl;have le2:=l1.trans l2;obtain⟨b,o,rfl,e⟩:=Ab.at' (Ab.mono hL le2) (j:=0) (e:=.string (mkS (Af m0))) rfl;refine G.a b o (P.length+1) lc 0 1 oV ?_;refine G.lU none b (o+0*1) (.string (mkS (Af m0))) e ?_;refine G.l (ι:=Nat×(Option Addr×Nat)) (fun i=>[(1,sV (some ⟨b,o,none⟩) (P.length+1) lc),(4,.p 0 0),(6,.p 7004 0),(30,sV a P.length c),(31,iV P.length),(32,iV i.1)]) (fun i=>[(0,⟨42,[tV [],sV none 0 0]⟩),(7004,⟨42,[tV (Af m0),sV i.2.1 i.1 i.2.2]⟩)])
  (fun i u' m'=>i.1<=P.length/\Ae PH.mt m' (.slice i.2.1 i.1 i.2.2) 81 3 (((P.zip qs).take i.1).map A5)) (fun i=>P.length-i.1) (0,none,0) ⟨oV,Ae.nil _ _ _⟩ ?_
 rintro J ⟨i,pa,pc⟩ hJ u3 m3 l3 ⟨hi3,hA⟩;simp only at hi3 hA hJ;have le3:=le2.trans l3;have hzl:(P.zip qs).length=P.length:=by rw[List.length_zip];omega
 by_cases hlt:i<P.length
 ·refine G.lT (i:Int) (P.length:Int) ?_;obtain⟨p,hpi⟩:∃ p,P[i]?=some p:=⟨_,A0n hlt⟩;obtain⟨q,hqi⟩:∃ q,qs[i]?=some q:=⟨_,A0n oV⟩;have hz:(P.zip qs)[i]?=some (p,q):=by rw[List.getElem?_zip_eq_some];exact⟨hpi,hqi⟩
  have htk:(P.zip qs).take (i+1)=(P.zip qs).take i++[(p,q)]:=by rw[A1c,hz];rfl
  obtain⟨bp,op,rfl,ep⟩:=Ab.at' (hP.mono le3) (j:=i) (e:=An p) (by simp[hpi]);obtain⟨p1,p2⟩:=p;refine G.a bp op P.length c i 2 hlt ?_;refine G.lU (some 2) bp (op+i*2) (.agg #[.int .i64 p1,.string (mkS p2)]) ep ?_;obtain⟨b2,o2,e0,e2⟩:=Ab.at' (Ab.mono hL le3) (j:=i+1) (e:=.string (mkS (Af q))) (by unfold Cs;rw[A0v,A0v,A38,hqi];rfl);cases e0;refine G.i i ?_;refine G.a b o (P.length+1) lc (i+1) 1 oV ?_;refine G.lU none b (o+(i+1)*1) (.string (mkS (Af q))) e2 ?_;refine G.B 81 3 40 (.agg #[.int .i64 0,.string (mkS []),.string (mkS [])]) [A5 ((p1,p2),q)] (Ot _) ?_;intro g4 u4 l4 e4;refine G.k 81 3 40 (.agg #[.int .i64 0,.string (mkS []),.string (mkS [])]) PH.mt (((P.zip qs).take i).map A5) [A5 ((p1,p2),q)] (.slice pa i pc) g4 0 1 1 hA e4 (Ot _) ?_;intro v5 m5 hA5;have e6:((P.zip qs).take i).map A5++[A5 ((p1,p2),q)]=((P.zip qs).take (i+1)).map A5:=by rw[htk];simp
  rw[e6]at hA5;obtain⟨a5,c5,rfl⟩:=hA5.shape;have el:(((P.zip qs).take (i+1)).map A5).length=i+1:=by rw[A0p,A00];omega
  rw[el]at hA5⊢;refine G.i i ?_;exact G.b (hJ (i+1,a5,c5) _ _ _ cV (l3.trans l4) ⟨dV,hA5⟩ dV)
 ·obtain rfl:i=P.length:=oV
  refine G.lF (P.length:Int) (P.length:Int) ?_;rw[A03 oV]at hA;refine G.give _ _ _ kV hA (fun g=>.inl rfl) ?_;intro u6 l6 hF;exact G.r (.tuple #[.agg #[.string (mkS (Af m0)),.slice pa P.length pc],.int .i64 0]) ⟨rfl,_,rfl,⟨pa,pc,by rw[hzl],by rw[hzl];exact hF⟩⟩
section
variable {P:List Par} {C:CF} {q:Rat}
theorem Ayl (hnd:P.Nodup)(hc:0<C.c)(hq:0<q)(hpsd:∀ z,0<=Bm z P C)(y:Nat->Rat)(h:∀ i,i<(Pu C P q).length->Dm (Pu C P q).length (fun j=>en (Pu C P q) i j*y j)=0):∀ j,j<(Pu C P q).length->y j=0:=by
 have hA:=N4 (P:=P) (C:=C) (q:=q);have hb:∀ j,j<P.length+1->cfE (y 0) (P.zip ((A1q P.length).map fun j=>y (j+1))) ((Ak P).getD j none)=y j:=fun j hj=>by
  rw[Ag6 hnd mV j hj];cases j with
  |zero=>rfl
  |succ j=>exact Ads (by rw[A38,A0v,List.getElem?_range oV];rfl)
 generalize cfE (y 0) (P.zip ((A1q P.length).map fun j=>y (j+1)))=bE at hb;have hz:∀ e∈Ak P,bE e=0:=Aji hq hc hpsd fun e he=>by
  obtain⟨i,hi,rfl⟩:=A2u.1 he;have hei:(Ak P)[i]=(Ak P).getD i none:=by rw[A0o,A0n hi];rfl
  rw[hei];rw[Bo]at hi;have h1:=h i (by rw[hA.1];exact hi);rw[hA.1,Er (g:=fun j=>As C ((Ak P).getD i none) ((Ak P).getD j none)*bE ((Ak P).getD j none)+(if i=j/\0<i then q else 0)*y j) (fun j hj=>by
   rw[Air hi hj,hb j hj];grind),Y4,Aac]at h1
  have hpen:Kp q bE ((Ak P).getD i none)=if i<P.length+1/\0<i then q*y i else 0:=by
   cases i with
   |zero=>rw[if_neg oV];rfl
   |succ j =>
    rw[if_pos ⟨hi,oV⟩,<-hb _ hi];unfold Ak;rw[List.getD_cons_succ,A0o,A0v,A0n oV];rfl
  rw[R3 _ (Ak P) none,Bo,hpen];exact h1
 intro j hj;rw[hA.1]at hj;rw[<-hb j hj];exact hz _ (Akj hj)
structure Ax1 (F:List Ao)(C:CF)(q:Rat):Prop where
 a:∀ P,R1 F C P->∀ r∈Pu C P q,∀ x∈r,Th x
 b:∀ P,R1 F C P->∀ x∈Y0 C P,Th x
 psd:∀ P z,0<=Bm z P C
 sol:∀ P,R1 F C P->P.length<=11->0<C.c->∀ y:Nat->Rat,Abv (Pu C P q).length (Nh (Pu C P q) (Y0 C P)) y->∀ i,i<(Pu C P q).length->Tx (y i)
theorem Av3 (h:∀ r∈Pu C P q,∀ x∈r,Th x)(hP:P.length<=11):Sq (Pu C P q):=by
 have hA:=N4 (P:=P) (C:=C) (q:=q);refine⟨by rw[hA.1];omega,fun r hr=>?_,fun r hr x hx=>(h r hr x hx).tx⟩;obtain⟨i,hi,rfl⟩:=A2u.1 hr;have:=hA.2 i (by have:=hA.1;omega);rw[N6 hi]at this;rw[this,hA.1]
theorem Ays (hs:Ef A8 P)(hl:qs.length=P.length)(h0:Tx m0)(hT:∀ x∈qs,Tx x):Ew P m0 (P.zip qs):=by
 have e:(P.zip qs).map (·.1)=P:=List.map_fst_zip oV;refine⟨h0,fun x hx=>hT _ (List.of_mem_zip (show (x.1,x.2)∈P.zip qs from hx)).2,by rw[e];exact hs,fun x hx=>?_,gV⟩;rw[<-e];exact List.mem_map_of_mem hx
end
section
variable {u:PH} {v cv:Value} {T:List (List UInt8×Nat)} {R:List Bk} {F:List Ao} {lab:Int} {C:CF} {K k:Nat} {q:Rat}
def Aw7:Value:=.agg #[.string (mkS []),.slice none 0 0]
def Azz (F:List Ao)(C:CF)(k:Nat)(q:Rat)(r:Value)(u:PH):Prop :=
 (∃ e:Int,r=.tuple #[Aw7,.int .i64 e]/\(e=12/\k=0\/e=3/\k≠0/\∃ P,R1 F C P/\11<P.length)) \/
 (k≠0/\∃ P mv m0 qs,R1 F C P/\P.length<=11/\qs.length=P.length/\r=.tuple #[mv,.int .i64 0]/\Ar9 u mv m0 (P.zip qs)/\Ew P m0 (P.zip qs)/\Fv P C q (cfE m0 (P.zip qs)))
theorem Asp (ht:Lb u)(h:Arn u v cv T R F lab C K k)(hq:Avj q)(ho:Ax1 F C q) :
 Fn0 prog 22 [v,cv,.string (mkS (Af q))] u fun r u'=>Azz F C k q r u':=by
 have hsy:=(Au4 ht h hq).giveAll;have hmom:=h.mom;obtain⟨xa,xc,xb,xd,xe,xf,rfl,_⟩:=id h.sch;obtain⟨a1,n1,c1,a2,n2,c2,rfl⟩:=id h.cof.opn;refine Fn0.o func22 ?_;refine G.c call68 hsy ?_;rintro v1 u1 l1 ⟨u0,m0',hl0,hlm,⟨e,rfl,he⟩|⟨hk,P,pa,pc,ya,yc,ra,rc,rows,hPL,hP11,rfl,hL,hrows,hbag⟩⟩
 ·refine G.nT' e 0 (by rcases he with ⟨h,_⟩|⟨h,_⟩<;>omega) ?_
  exact G.r (.tuple #[Aw7,.int .i64 e]) ⟨rfl,.inl ⟨e,rfl,he⟩⟩
 refine G.nF 0 0 ?_;have hM:N7 u1 (.slice ya (P.length+1) yc) (Jx (Pu C P q)):=Aku (v:=.bool true) hbag hrows hlm;obtain⟨m0,hx0,_⟩:=hbag.focus 0 rfl;rw[Mb]at hx0;have hR:Fe u1 (.slice ra (P.length+1) rc) ((Y0 C P).map Af):=by
  unfold Fe Y0;rw[<-Zk];exact hx0.list hlm
 have hA:=N4 (P:=P) (C:=C) (q:=q);have hss:=hPL.1;have hnd:=hss.nodup Dp;have hcp:=hmom.cpos hk;have hsQ:=Av3 (ho.a P hPL) hP11;refine G.c call69 (Azf (A:=Pu C P q) (b:=Y0 C P) (ht.mono l1) hM hR hsQ (by rw[Ah6,hA.1]) (by rw[hA.1];omega) (ho.a P hPL) (ho.b P hPL) (Ayl hnd hcp hq.pos (ho.psd P)) (ho.sol P hPL hP11 hcp)) ?_;rintro v2 u2 l2 ⟨qs,lv,rfl,hql,hsol,hS⟩;rw[hA.1]at hql;cases qs with
 |nil=>simp at hql
 |cons c0 qs =>
  have hlen:qs.length=P.length:=by simpa using hql
  have hT:∀ x∈c0::qs,Tx x:=fun x hx=>by
   obtain⟨j,hj,rfl⟩:=A2u.1 hx;rw[<-Mj hj];exact ho.sol P hPL hP11 hcp _ hsol j (by rw[hA.1];simp at hj;omega)
  have hn:=Qb hsQ hsol (Ag6 hnd hlen);have hok:=Ays hss hlen (hT c0 mV) (fun x hx=>hT x (by simp[hx]));obtain⟨la,lc,hlv⟩:=Ab.opn hS;subst hlv;refine G.nF 0 0 ?_;refine G.c call70 (Aws (hL.mono (hl0.trans l2)) hS hss hlen oV (hT c0 mV) (fun x hx=>hT x (by simp[hx]))) ?_;rintro v3 u3 l3 ⟨mv,rfl,hmv⟩;obtain⟨ma,mc,rfl,_⟩:=id hmv.val;exact G.r (.tuple #[.agg #[.string (mkS (Af c0)),.slice ma (P.zip qs).length mc],.int .i64 0]) ⟨rfl,.inr ⟨hk,P,_,c0,qs,hPL,hP11,hlen,rfl,hmv,hok,hn⟩⟩
end
end
section
end
section
def Aqr (V M:List (Par×Rat))(m0:Rat)(i:Nat):Rat:=m0+Au (fun t=>t.2*Bi t.1 M) (V.take i)
theorem Awo {V:List (Par×Rat)}(hV:(V.map (·.1)).Nodup){j:Nat}{x:Par×Rat}(hj:V[j]?=some x)(p:Par):Bi p (V.take (j+1))=if x.1=p then x.2 else Bi p (V.take j):=by
 have e:V.take (j+1)=V.take j++[x]:=by rw[A1c,hj];rfl
 have hnew:x.1∉(V.take j).map (·.1):=by
  intro hm;obtain⟨y,hy,hye⟩:=A0u.1 hm;obtain⟨i,hi,rfl⟩:=A19 hy;rw[A00]at hi;have:=Og hV (i:=i) (j:=j) (x:=x.1) (by rw[A0v,A0n oV];simp only[A3h];rw[<-hye,A4t]) (by rw[A0v,hj];rfl);omega
 rw[e,R4 hnew];by_cases h:p=x.1
 ·rw[if_pos h,if_pos h.symm]
 ·rw[if_neg h,if_neg (fun e=>h e.symm)]
theorem Ayi {T:List (List UInt8×Nat)}{F:List Ao}{lab:Int}{ss:List (List UInt8)}(hF:Dk T F lab)(ht:Cr T ss):∀ x∈Aqk F ss F.length,SmR x.2:=fun x hx=>by
 obtain⟨j,f,hj,hf,hv⟩:=Au0.1 hx;unfold Asa at hv;split at hv
 ·cases hv;exact Ih
 ·rename_i h2;split at hv
  ·cases hv
  ·rename_i h0;cases hv;exact (Auf hF ht (A1b hf) h2 (fun e=>h0 (.inl e))).1
end
section
section
variable {V M:List (Par×Rat)} {m0:Rat}
theorem Auu (hM:∀ x∈M,Tx x.2)(p:Par):Sz (Bi p M) 400:=by
 by_cases hp:p∈M.map (·.1)
 ·induction M with
  |nil=>simp at hp
  |cons y l ih =>
   obtain⟨b,q⟩:=y;unfold Bi;split
   ·exact (hM (b,q) mV).sz
   ·rename_i hne;refine ih (fun x hx=>hM x (by simp[hx])) ?_;simp at hp;rcases hp with h|⟨r,h⟩
    ·exact absurd h hne
    ·exact A0u.2 ⟨_,h,rfl⟩
 ·rw[Kc hp];exact Xv.mono oV
theorem Aux (h0:Tx m0)(hM:∀ x∈M,Tx x.2)(hV:∀ x∈V,SmR x.2):∀ i,Sz (Aqr V M m0 i) (500*(i+1))
 |0=>by
  unfold Aqr;rw[A3y];have:m0+Au (fun t:Par×Rat=>t.2*Bi t.1 M) []=m0:=by rw[show Au (fun t:Par×Rat=>t.2*Bi t.1 M) []=0 from rfl];grind
  rw[this];exact h0.sz.mono oV
 |i+1=>by
  have ih:=Aux h0 hM hV i;by_cases hi:i<V.length
  ·have e:Aqr V M m0 (i+1)=Aqr V M m0 i+V[i].2*Bi V[i].1 M:=by
    unfold Aqr;rw[A1c,A0n hi];simp only[Ba1];rw[Iu];grind
   rw[e];exact (Ly ih (In (hV _ (List.getElem_mem hi)).sz (Auu hM _))).mono oV
  ·have e:Aqr V M m0 (i+1)=Aqr V M m0 i:=by
    unfold Aqr;rw[A03 oV,A03 oV]
   rw[e];exact ih.mono oV
end
theorem Aum {u:PH}{v tv mv:Value}{T:List (List UInt8×Nat)}{R:List Bk}{F:List Ao}{lab:Int}{ss:List (List UInt8)}{P:List Par}{m0:Rat}{M:List (Par×Rat)}(ht:Lb u)(h:Af5 u v tv T R F lab ss)(hM:Ar9 u mv m0 M)(hm:Ew P m0 M)(hP:P.length<=10000)(hpar:∀ p∈P,Adv F p)(hres:Tx (Atc m0 M (Aqk F ss F.length))) :
 Fn0 prog 29 [v,mv,tv] u fun r _=>r=.tuple #[.string (mkS (Af (Atc m0 M (Aqk F ss F.length)))),.int .i64 0]:=by
 have hvc:=Avr h;have hvl:=fun (u':PH) (l:PH.le u u')=>Agi (h.sch.mono l) (h.ok.mono l) (hM.mono l) hm hP hpar;have f2:=h.ok.f2;have hfeat:=h.ok.feat;have hfit:=h.fit;have hl:=Auy F ss F.length;have hVs:∀ x∈Aqk F ss F.length,SmR x.2:=Ayi hfeat hfit;obtain⟨⟨xa,xc,xb,xd,xe,xf,rfl,hTL,hRL,hFL⟩,ok,hS,hT⟩:=h;obtain⟨ya,yc,rfl⟩:=hS.opn;obtain⟨a,c,rfl,hMl⟩:=id hM.val;rw[A0p]at hvc⊢;generalize Aqk F ss F.length=V at *
 have hml:=hm.len;have hnd:=hm.srt.nodup Dp;refine Fn0.o func29 ?_;refine G.c call80 hvc ?_;rintro _ u1 l1 ⟨lv,rfl,hv⟩;obtain⟨la,lc,rfl⟩:=Ab.opn hv;rw[A0p]at hv⊢;refine G.nF 0 0 ?_;refine G.c call61 (hvl u1 l1) ?_;rintro v2 u2 l2 rfl;refine G.c call77 (Iy hm.c) ?_;intro v3 u3 l3 k3;obtain⟨f3,rfl⟩:=k3.opF;refine G.l (ι:=Nat×F4) (fun i=>[(3,.p 0 0),(4,.p 1 0),(10,.p 6003 0),(31,sV la V.length lc),(32,iV V.length),(33,iV i.1)])
  (fun i=>[(0,⟨31,[sV xa T.length xc,sV xb R.length xd,sV xe F.length xf,iV lab]⟩),(1,⟨42,[tV (Af m0),sV a M.length c]⟩),(6003,⟨116,fc i.2⟩)])
  (fun i u' m'=>i.1<=V.length/\Av u' (fv i.2) (Aqr V M m0 i.1)/\m'=PH.mt) (fun i=>V.length-i.1) (0,f3)
  ⟨A1m _,by
   have:Aqr V M m0 0=m0:=by unfold Aqr;rw[A3y,show Au (fun t:Par×Rat=>t.2*Bi t.1 M) []=0 from rfl];grind
   rw[this];exact k3,rfl⟩ ?_
 rintro J ⟨i,f⟩ hJ u4 m4 l4 ⟨hi,hf,rfl⟩;simp only at hi hf hJ;have le4:=((l1.trans l2).trans l3).trans l4;have hps:=Aux (V:=V) hm.c hm.t hVs i;by_cases hlt:i<V.length
 ·refine G.lT (i:Int) (V.length:Int) ?_;obtain⟨x,hxi⟩:∃ x,V[i]?=some x:=⟨_,A0n hlt⟩;have hxs:=hVs x (A1b hxi);obtain⟨bx,ox,rfl,ex⟩:=Ab.at' (hv.mono ((l2.trans l3).trans l4)) (j:=i) (e:=A5 x) (by simp[hxi]);refine G.a bx ox V.length lc i 3 hlt ?_;refine G.lU (some 3) bx (ox+i*3) (.agg #[.int .i64 x.1.1,.string (mkS x.1.2),.string (mkS (Af x.2))]) ex ?_;refine G.l (ι:=Nat×F4) (fun j=>[(3,.p 0 0),(4,.p 1 0),(10,.p 6003 0),(12,.p 9002 0),(31,sV (some ⟨bx,ox,none⟩) V.length lc),(32,iV V.length),(33,iV i),(38,sV a M.length c),(39,iV M.length),(40,iV j.1)])
   (fun j=>[(0,⟨31,[sV xa T.length xc,sV xb R.length xd,sV xe F.length xf,iV lab]⟩),(1,⟨42,[tV (Af m0),sV a M.length c]⟩),(6003,⟨116,fc j.2⟩),(9002,⟨81,[iV x.1.1,tV x.1.2,tV (Af x.2)]⟩)])
   (fun j u' m'=>j.1<=M.length/\Av u' (fv j.2) (Aqr V M m0 i+x.2*Bi x.1 (M.take j.1))/\m'=PH.mt) (fun j=>M.length-j.1) (0,f)
   ⟨A1m _,by rw[A3y,show Bi x.1 ([]:List (Par×Rat))=0 from rfl,show Aqr V M m0 i+x.2*0=Aqr V M m0 i by grind];exact hf,rfl⟩ ?_
  rintro J2 ⟨j,f5⟩ hJ2 u5 m5 l5 ⟨hj,hf5,rfl⟩;simp only at hj hf5 hJ2;have le5:=le4.trans l5;by_cases hjl:j<M.length
  ·refine G.lT (j:Int) (M.length:Int) ?_;obtain⟨y,hyj⟩:∃ y,M[j]?=some y:=⟨_,A0n hjl⟩;have hyt:=hm.t y (A1b hyj);have htk:=Awo hnd hyj x.1;obtain⟨by',oy,rfl,ey⟩:=Ab.at' (hMl.mono le5) (j:=j) (e:=A5 y) (by simp[hyj]);refine G.a by' oy M.length c j 3 hjl ?_
   refine G.lU (some 3) by' (oy+j*3) (.agg #[.int .i64 y.1.1,.string (mkS y.1.2),.string (mkS (Af y.2))]) ey ?_
   by_cases he:y.1=x.1
   ·refine G.eqAgg 79 #[.int .i64 y.1.1,.string (mkS y.1.2)] #[.int .i64 x.1.1,.string (mkS x.1.2)] true kV kV kV (fun w=>by rw[<-decide_eq_true he];exact Bt.eq y.1 x.1 w) ?_;refine G.c call77 (Iy hyt) ?_;intro v6 u6 l6 k6;obtain⟨f6,rfl⟩:=k6.opF;refine G.c call77 (Iy hxs.tx) ?_;intro v7 u7 l7 k7;obtain⟨f7,rfl⟩:=k7.opF;refine G.c call78 (Le (k6.mono l7) k7 (hyt.sz.mono oV) (hxs.sz.mono oV)) ?_;intro v8 u8 l8 k8;obtain⟨f8,rfl⟩:=k8.opF;have hz:=In hyt.sz hxs.sz;have hz5:Sz (Aqr V M m0 i+x.2*Bi x.1 (M.take j)) 1000000:=(Ly hps (In hxs.sz (Auu (fun z hz=>hm.t z (A2r hz)) _))).mono oV;refine G.c call76 (O2 (hf5.mono ((l6.trans l7).trans l8)) k8 (hz5.mono oV) (hz.mono oV)) ?_;intro v9 u9 l9 k9;obtain⟨f9,rfl⟩:=k9.opF;refine G.i j ?_;refine G.b (hJ2 (j+1,f9) _ _ _ cV ((((l5.trans l6).trans l7).trans l8).trans l9) ⟨dV,?_,rfl⟩ dV);dsimp only;have h0:Bi x.1 (M.take j)=0:=by
     refine Kc fun hmem=>?_;obtain⟨z,hz,hze⟩:=A0u.1 hmem;obtain⟨i',hi',rfl⟩:=A19 hz;rw[A00]at hi';have:=Og hnd (i:=i') (j:=j) (x:=y.1) (by rw[A0v,A0n oV];simp only[A3h];rw[he,<-hze,A4t]) (by rw[A0v,hyj];rfl);omega
    rw[htk,if_pos he];rw[h0]at k9;have e:Aqr V M m0 i+x.2*0+y.2*x.2=Aqr V M m0 i+x.2*y.2:=by grind
    rw[e]at k9;exact k9
   ·refine G.eqAgg 79 #[.int .i64 y.1.1,.string (mkS y.1.2)] #[.int .i64 x.1.1,.string (mkS x.1.2)] false kV kV kV (fun w=>by rw[<-decide_eq_false he];exact Bt.eq y.1 x.1 w) ?_;refine G.i j ?_;exact G.b (hJ2 (j+1,f5) _ _ _ cV l5 ⟨dV,by dsimp only;rw[htk,if_neg he];exact hf5,rfl⟩ dV)
  obtain rfl:j=M.length:=oV
  refine G.lF (M.length:Int) (M.length:Int) ?_;rw[A03 (A0w _)]at hf5;refine G.i i ?_;refine G.b (hJ (i+1,f5) _ _ _ cV (l4.trans l5) ⟨dV,?_,rfl⟩ dV);dsimp only;have e:Aqr V M m0 (i+1)=Aqr V M m0 i+x.2*Bi x.1 M:=by
   unfold Aqr;rw[A1c,hxi];simp only[Ba1];rw[Iu];grind
  rw[e];exact hf5
 obtain rfl:i=V.length:=oV
 refine G.lF (V.length:Int) (V.length:Int) ?_;have e:Aqr V M m0 V.length=Atc m0 M V:=by unfold Aqr Atc;rw[A1k]
 rw[e]at hf;refine G.c call55 (Jj (ht.mono le4) hf hres) ?_;rintro v5 u5 l5 rfl;exact G.r (.tuple #[.string (mkS (Af (Atc m0 M V))),.int .i64 0]) ⟨rfl,rfl⟩
end
section
variable {b:Option Par->Rat}
section
variable {u:PH} {v cv mv:Value} {T:List (List UInt8×Nat)} {R:List Bk} {F:List Ao} {lab:Int} {C:CF} {K k:Nat} {q:Rat} {P:List Par} {m0:Rat} {M:List (Par×Rat)}
theorem Au1 (hP:R1 F C P)(hv:CFV C):∀ p∈P,Adv F p:=fun p hp=>by
 rcases (hP.2 p).1 hp with ⟨i,f,rfl,hf,_⟩|⟨hne,i,f,h1,hf,h2⟩
 ·exact⟨i,f,rfl,hf,.inl rfl⟩
 ·refine⟨i,f,h1,hf,?_⟩;rcases (hv.s p hne).cat with h3|h3
  ·exact .inl h3
  ·exact .inr ⟨h2,h3⟩
theorem Iq.cells (h:Iq C k)(hb:∀ e,Sz (b e) 1000):QOK b C:=by
 have s1:∀ p,Sz (C.s p) 1000:=fun p=>((h.s p).szn oV oV oV oV).mono oV;have t1:∀ p,Sz (C.t p) 1000:=fun p=>((h.t p).szn oV oV oV oV).mono oV;refine⟨hb,fun e f=>?_,fun e=>?_,t1 _⟩
 ·cases e<;>cases f
  ·exact h.csz
  ·exact s1 _
  ·exact s1 _
  ·exact t1 _
 ·cases e
  ·exact s1 _
  ·exact t1 _
theorem Iq.qok (h:Iq C k)(hm:Ew P m0 M):QOK (cfE m0 M) C:=h.cells fun e=>(Rw hm e).sz.mono oV
def Azc (F:List Ao)(C:CF)(k:Nat)(P:List Par)(b:Option Par->Rat)(r:Value)(u:PH):Prop :=
 (∃ e:Int,r=.tuple #[.agg #[.slice none 0 0,.slice none 0 0],.int .i64 e]/\(e=12/\k=0\/e=3/\k≠0/\11<P.length)) \/
 (k≠0/\P.length<=11/\∃ lv,r=.tuple #[lv,.int .i64 0]/\Nj u lv P b)
theorem Ax5 (h:Arn u v cv T R F lab C K k)(hq:Avj q)(hPL:R1 F C P)(hmv:Ar9 u mv m0 M)(hm:Ew P m0 M) :
 Fn0 prog 74 [v,cv,mv,.string (mkS (Af q))] u fun r u'=>Azc F C k P (cfE m0 M) r u':=by
 have hbg:=(Atm h hq).giveAll;have hP24:=h.p24 P hPL;have hpar:=Au1 hPL h.vC;have hX:=h.sch;have ok:=h.ok;obtain⟨xa,xc,xb,xd,xe,xf,rfl,_⟩:=id h.sch;obtain⟨a1,n1,c1,a2,n2,c2,rfl⟩:=id h.cof.opn;obtain⟨na,nc,rfl,_⟩:=id hmv.val;refine Fn0.o func74 ?_;refine G.c call144 hbg ?_;rintro v1 u1 l1 ⟨u0,m0',hl0,hlm,P',pa,pc,ya,yc,ra,rc,rows,hPL',rfl,hL,hrows,hbag⟩;obtain rfl:=hPL.eq hPL';have hL1:=hL.mono hl0;by_cases h0:k=0
 ·rw[if_pos h0];refine G.nT 12 0 ?_;exact G.r (.tuple #[.agg #[.slice none 0 0,.slice none 0 0],.int .i64 12]) ⟨rfl,.inl ⟨12,rfl,.inl ⟨rfl,h0⟩⟩⟩
 rw[if_neg h0];refine G.nF 0 0 ?_;refine G.c call116 (Aj9 hL1 hPL.1 oV (hmv.mono l1) hm) ?_;rintro v4 u4 l4 ⟨lv,rfl,hlv⟩;obtain⟨la,lc,rfl⟩:=Ab.opn hlv;refine G.nF 0 0 ?_;refine G.c call61 (Agi (hX.mono (l1.trans l4)) (ok.mono (l1.trans l4)) (hmv.mono (l1.trans l4)) hm oV hpar) ?_;rintro v5 u5 l5 rfl;by_cases h12:P.length+1>12
 ·refine G.gT ((P.length+1:Nat):Int) 12 ?_;exact G.r (.tuple #[.agg #[.slice none 0 0,.slice none 0 0],.int .i64 3]) ⟨rfl,.inl ⟨3,rfl,.inr ⟨rfl,h0,oV⟩⟩⟩
 refine G.gF ((P.length+1:Nat):Int) 12 ?_;refine G.c call117 (Aep (hlv.mono l5) (fun q hq=>?_) (by rw[A0p,Bo];omega)) ?_
 ·obtain⟨e,_,rfl⟩:=A0u.1 hq;exact Rw hm e
 intro v6 u6 l6 k6;obtain⟨es6,hL6,hF6⟩:=id k6;obtain⟨fa,fc,rfl⟩:=hL6.opn;have hel:es6.length=P.length+1:=by rw[hF6.1,A0p,Bo]
 rw[hel]at k6⊢;exact G.r (.tuple #[.agg #[.slice pa P.length pc,.slice fa (P.length+1) fc],.int .i64 0]) ⟨rfl,.inr ⟨h0,oV,_,rfl,pa,pc,fa,fc,rfl,hL1.mono ((l4.trans l5).trans l6),k6⟩⟩
def As3 (q:Rat)(b:Option Par->Rat)(P:List Par)(C:CF):Rat:=sqC b P C+q*G9 P b
def Asj (q:Rat)(b:Option Par->Rat)(P:List Par)(C:CF)(i:Nat):Rat:=sqC b P C+Au (fun p=>q*b (some p)*b (some p)) (P.take i)
theorem Avn (q:Rat)(b:Option Par->Rat)(P:List Par)(C:CF):Asj q b P C 0=sqC b P C:=by
 show sqC b P C+0=_;grind
theorem Au5 {q:Rat}{P:List Par}{C:CF}{i:Nat}{p:Par}(h:P[i]?=some p):Asj q b P C (i+1)=Asj q b P C i+q*b (some p)*b (some p):=by
 unfold Asj;rw[E6 h,Iu];grind
theorem Aw2 (q:Rat)(b:Option Par->Rat)(P:List Par)(C:CF):Asj q b P C P.length=As3 q b P C:=by
 unfold Asj As3 G9;rw[A1k,<-Dr]
 congr 1
 exact Bb fun p _=>by grind
theorem Axm (hq:QOK b C)(hP:P.length<=60)(hs:Sz q 1000)(i:Nat):Sz (Asj q b P C i) 40000000:=by
 unfold Asj;have h1:=hq.sqS hP;have h2:Sz (Au (fun p=>q*b (some p)*b (some p)) (P.take i)) (60*(3000+1)+1):=V7 (s:=3000) (Om fun p _=>(In (In hs (hq.b _)) (hq.b _)).mono oV) (by rw[A00];omega);exact (Ly h1 h2).mono oV
theorem Axz (ht:Lb u)(h:Arn u v cv T R F lab C K k)(hq:Avj q)(hPL:R1 F C P)(hmv:Ar9 u mv m0 M)(hm:Ew P m0 M)(hT:k≠0->P.length<=11->Tx (As3 q (cfE m0 M) P C)) :
 Fn0 prog 26 [v,cv,mv,.string (mkS (Af q))] u fun r _=>(∃ e:Int,r=.tuple #[.string (mkS []),.int .i64 e]/\(e=12/\k=0\/e=3/\k≠0/\11<P.length))\/(k≠0/\P.length<=11/\r=.tuple #[.string (mkS (Af (As3 q (cfE m0 M) P C))),.int .i64 0]):=by
 have hop:=Ax5 h hq hPL hmv hm;have hof:=fun (u':PH) (l:PH.le u u')=>A0i (h.cof.mono l) h.sC (by have:=h.K;omega);have hqok:=h.mom.qok hm;obtain⟨xa,xc,xb,xd,xe,xf,rfl,_⟩:=id h.sch;obtain⟨a1,n1,c1,a2,n2,c2,rfl⟩:=id h.cof.opn;obtain⟨na,nc,rfl,_⟩:=id hmv.val;have hqs:Sz q 1000:=hq.tx.sz.mono oV;generalize cfE m0 M=b at *
 refine Fn0.o func26 ?_;refine G.c call74 hop ?_;rintro v1 u1 l1 (⟨e,rfl,he⟩|⟨hk,hP11,lv,rfl,hlv⟩)
 ·refine G.nT' e 0 (by rcases he with ⟨h,_⟩|⟨h,_⟩<;>omega) ?_
  exact G.r (.tuple #[.string (mkS []),.int .i64 e]) ⟨rfl,.inl ⟨e,rfl,he⟩⟩
 have hT:=hT hk hP11;obtain⟨pa,pc,fa,fc,rfl,hPl,es,hL,hF⟩:=id hlv.val;have hes:es.length=P.length+1:=by rw[hF.1,A0p,Bo]
 refine G.nF 0 0 ?_;refine G.c call75 (hof u1 l1) ?_;intro v2 u2 l2 k2;obtain⟨b0,a0,n0,c0,b0',a0',n0',c0',g1,g2,rfl⟩:=S3 k2;refine G.c call53 (sq0 (hlv.mono l2) k2 oV hqok) ?_;intro v3 u3 l3 k3;obtain⟨f3,rfl⟩:=k3.opF;have hcap:P.length+1<=fc:=by
  obtain⟨_,_,h1,h2,_⟩:=hL;simp only[A09]at h1;obtain⟨_,h3,rfl⟩:=h1;omega
 obtain⟨bf,of',rfl,_⟩:=Ab.at' hL (j:=0) (e:=es[0]'oV) (A0n oV);refine G.sliceFromG (some ⟨bf,of',none⟩) (P.length+1) fc 1 4 kV oV hcap ?_;obtain⟨sa,hse,hsa⟩:∃ sa:Option Addr,(if fc=1 then some (⟨bf,of',none⟩:Addr) else (some (⟨bf,of',none⟩:Addr)).map (·.add (1*4)))=sa/\(P.length≠0->sa=some ⟨bf,of'+1*4,none⟩):=by
  refine⟨_,rfl,fun hn=>?_⟩;rw[if_neg oV];rfl
 rw[hse,show P.length+1-1=P.length from rfl];refine G.l (ι:=Nat×F4) (fun i=>[(3,tV (Af q)),(12,.p 4004 0),(32,sV sa P.length (fc-1)),(33,iV P.length),(34,iV i.1)])
  (fun i=>[(4004,⟨116,Go.Proofs.YtanfagpabkdmiaaGreatDoor.fc i.2⟩)])
  (fun i u' m'=>i.1<=P.length/\Av u' (fv i.2) (Asj q b P C i.1)/\m'=PH.mt) (fun i=>P.length-i.1) (0,f3)
  ⟨A1m _,by rw[Avn];exact k3,rfl⟩ ?_
 rintro J ⟨i,f⟩ hJ u4 m4 l4 ⟨hi,hf,rfl⟩;simp only at hi hf hJ;have le4:=((l1.trans l2).trans l3).trans l4;have hps:=Axm (P:=P) hqok oV hqs i;by_cases hlt:i<P.length
 ·refine G.lT (i:Int) (P.length:Int) ?_;obtain⟨p,hpi⟩:∃ p,P[i]?=some p:=⟨_,A0n hlt⟩;have hstep:=Au5 (q:=q) (b:=b) (C:=C) hpi;obtain rfl:=hsa oV;obtain⟨x,hx,hfx⟩:=hF.2 (i+1) (b (some p)) (by unfold Ak;rw[A1y,A38,A9e,A0v,hpi];rfl);obtain⟨_,_,e0,ef⟩:=Ab.at' (hL.mono ((l2.trans l3).trans l4)) (j:=i+1) (e:=x) hx;cases e0;have hfx:=hfx.mono ((l2.trans l3).trans l4);obtain⟨fx,rfl⟩:=hfx.opF;refine G.a bf (of'+1*4) P.length (fc-1) i 4 hlt ?_;have ef2:ElP u4 bf (of'+1*4+i*4) (fv fx):=by rw[show of'+1*4+i*4=of'+(i+1)*4 by omega];exact ef
  refine G.lU (some 4) bf (of'+1*4+i*4) (fv fx) ef2 ?_;refine G.c call77 (Iy hq.tx) ?_;intro v5 u5 l5 k5;obtain⟨f5,rfl⟩:=k5.opF;refine G.c call78 (Le k5 (hfx.mono l5) (hqs.mono oV) ((hqok.b _).mono oV)) ?_;intro v6 u6 l6 k6;obtain⟨f6,rfl⟩:=k6.opF;have hz6:=In hqs (hqok.b (some p));refine G.c call78 (Le k6 (hfx.mono (l5.trans l6)) (hz6.mono oV) ((hqok.b _).mono oV)) ?_;intro v7 u7 l7 k7;obtain⟨f7,rfl⟩:=k7.opF;have hz7:=In hz6 (hqok.b (some p));refine G.c call76 (O2 (hf.mono ((l5.trans l6).trans l7)) k7 (hps.mono oV) (hz7.mono oV)) ?_;intro v8 u8 l8 k8;obtain⟨f8,rfl⟩:=k8.opF;rw[<-hstep]at k8;refine G.i i ?_;exact G.b (hJ (i+1,f8) _ _ _ cV ((((l4.trans l5).trans l6).trans l7).trans l8) ⟨dV,k8,rfl⟩ dV)
 ·obtain rfl:i=P.length:=oV
  refine G.lF (P.length:Int) (P.length:Int) ?_;rw[Aw2]at hf;refine G.c call55 (Jj (ht.mono le4) hf hT) ?_;rintro v5 u5 l5 rfl;exact G.r (.tuple #[.string (mkS (Af (As3 q b P C))),.int .i64 0]) ⟨rfl,.inr ⟨hk,hP11,rfl⟩⟩
end
end
section
variable {b:Option Par->Rat}{i:Nat}
def Bc7 (b:Option Par->Rat)(P:List Par)(C:CF)(e:Option Par):Rat:=-Ay C e+Au (fun f=>As C e f*b f) (Ak P)
theorem QOK.gs {C:CF}(h:QOK b C)(e:Option Par)(l:List (Option Par))(hl:l.length<=61):Sz (-Ay C e+Au (fun f=>As C e f*b f) l) 200000 :=
 (Ly (Aok (h.r e)) (V7 (Om fun f _=>In (h.c e f) (h.b f)) hl)).mono oV
theorem Ge.set {u:PH}{es:List Value}{qs:List Rat}{e:Value}{q:Rat}(h:Ge u es qs)(hi:i<qs.length)(he:Av u e q):Ge u (es.set i e) (qs.set i q):=by
 refine⟨by rw[A3u,A3u];exact h.1,fun j r hj=>?_⟩;have hl:=h.1;by_cases hji:i=j
 ·subst hji;rw[A4v oV]at hj;cases hj;exact⟨e,A4v oV,he⟩
 ·rw[A95 hji]at hj;rw[A95 hji];exact h.2 j r hj
theorem Bdm {u:PH}{lv v:Value}{P:List Par}{C:CF}{N:Nat}(hl:Nj u lv P b)(hv:Mf u v C N)(hP:P.length<=60)(hq:QOK b C) :
 Ai prog 89 [lv,v] u PH.mt fun r u' m'=>∃ es,Ae PH.mt m' r 116 4 es/\Ge u' es ((Ak P).map (Bc7 b P C)):=by
 obtain⟨pa,pc,ca,cc,rfl,hPL,es,hL,hF⟩:=hl.val;have hEl:=Bo P;have hes:es.length=P.length+1:=by rw[hF.1,A0p,hEl]
 obtain⟨b0,a0,n0,c0,b0',a0',n0',c0',g1,g2,rfl,hc⟩:=Ir hv;refine Ai.o func89 ?_;refine G.l (ι:=Nat×(Option Addr×Nat)×List Value) (fun i=>[(2,.p 0 0),(3,.p 1 0),(5,sV i.2.1.1 i.1 i.2.1.2),(12,iV (P.length+1:Nat)),(13,iV i.1)])
  (fun i=>[(0,⟨126,[sV pa P.length pc,sV ca (P.length+1) cc]⟩),(1,⟨120,[bV b0,sV a0 n0 c0,bV b0',sV a0' n0' c0',.v (.map (some g1)),.v (.map (some g2))]⟩)])
  (fun i u' m'=>i.1<=P.length+1/\Ge u' i.2.2 (((Ak P).take i.1).map (Bc7 b P C))/\Ae PH.mt m' (.slice i.2.1.1 i.1 i.2.1.2) 116 4 i.2.2) (fun i=>P.length+1-i.1) (0,(none,0),[]) ⟨A1m _,⟨rfl,fun j q hj=>by simp at hj⟩,Ae.nil _ _ _⟩ ?_
 rintro J ⟨i,⟨oa,oc⟩,os⟩ hJ u2 m2 l2 ⟨hi,hO,hA⟩;simp only at hi hO hA hJ;by_cases hlt:i<P.length+1
 ·refine G.lT (i:Int) ((P.length+1:Nat):Int) ?_;obtain⟨e,hEi⟩:∃ e,(Ak P)[i]?=some e:=⟨_,A0n oV⟩;refine G.c call119 (Anu (hl.mono l2) (hv.mono l2) oV hEi) ?_;intro v3 u3 l3 k3;obtain⟨f3,rfl⟩:=k3.opF;refine G.c call126 (Z3 k3 (A0q (hq.r e).1 oV)) ?_;intro v4 u4 l4 k4;obtain⟨f4,rfl⟩:=k4.opF;have z0:-Ay C e+0 = -Ay C e:=by grind
  refine G.l (ι:=Nat×F4) (fun n=>[(2,.p 0 0),(3,.p 1 0),(5,sV oa i oc),(6,iV i),(7,.p 5005 0),(12,iV (P.length+1:Nat)),(13,iV i),(22,sV ca (P.length+1) cc),(23,iV (P.length+1:Nat)),(24,iV n.1)])
   (fun n=>[(0,⟨126,[sV pa P.length pc,sV ca (P.length+1) cc]⟩),(1,⟨120,[bV b0,sV a0 n0 c0,bV b0',sV a0' n0' c0',.v (.map (some g1)),.v (.map (some g2))]⟩),(5005,⟨116,fc n.2⟩)])
   (fun n u' m'=>n.1<=P.length+1/\Av u' (fv n.2) (-Ay C e+Au (fun f=>As C e f*b f) ((Ak P).take n.1))/\m'=m2) (fun n=>P.length+1-n.1) (0,f4) ⟨A1m _,by show Av _ _ (-Ay C e+0);rw[z0];exact k4,rfl⟩ ?_
  rintro J2 ⟨n,f⟩ hJ2 u5 m5 l5 ⟨hn,k5,rfl⟩;simp only at hn k5 hJ2;have le5:=((l2.trans l3).trans l4).trans l5;by_cases hnl:n<P.length+1
  ·refine G.lT (n:Int) ((P.length+1:Nat):Int) ?_;obtain⟨f',hEn⟩:∃ f,(Ak P)[n]?=some f:=⟨_,A0n oV⟩;have hps:=hq.gs e ((Ak P).take n) (by rw[A00];omega);have hstep:-Ay C e+Au (fun f=>As C e f*b f) ((Ak P).take (n+1)) = -Ay C e+Au (fun f=>As C e f*b f) ((Ak P).take n)+As C e f'*b f':=by rw[E6 hEn,Iu];grind
   obtain⟨y,hy,hfy⟩:=hF.2 n (b f') (by rw[A0v,hEn];rfl);obtain⟨fb,fo,rfl,ef⟩:=Ab.at' (hL.mono le5) (j:=n) (e:=y) hy;have hfy:=hfy.mono le5;obtain⟨fy,rfl⟩:=hfy.opF;refine G.a fb fo (P.length+1) cc n 4 hnl ?_;refine G.lU (some 4) fb (fo+n*4) (fv fy) ef ?_;refine G.c call125 (Sf (hl.mono le5) (hv.mono le5) oV hEi hEn) ?_;intro v6 u6 l6 k6;obtain⟨f6,rfl⟩:=k6.opF;refine G.c call78 (Le k6 (hfy.mono l6) ((hq.c e f').mono oV) ((hq.b f').mono oV)) ?_;intro v7 u7 l7 k7;obtain⟨f7,rfl⟩:=k7.opF;refine G.c call76 (O2 (k5.mono (l6.trans l7)) k7 (hps.mono oV) ((In (hq.c e f') (hq.b f')).mono oV)) ?_;intro v8 u8 l8 k8;obtain⟨f8,rfl⟩:=k8.opF;rw[<-hstep]at k8;refine G.i n ?_;exact G.b (hJ2 (n+1,f8) _ _ _ cV (((l5.trans l6).trans l7).trans l8) ⟨dV,k8,rfl⟩ dV)
  ·obtain rfl:n=P.length+1:=oV
   refine G.lF ((P.length+1:Nat):Int) ((P.length+1:Nat):Int) ?_;rw[A03 oV]at k5;refine G.B 116 4 64 (.agg #[.bool false,.slice none 0 0,.bool false,.slice none 0 0]) [fv f] (Bds f) ?_;intro g6 u6 l6 e6;have hoi:i=os.length:=hA.len;refine G.append 116 4 64 (.agg #[.bool false,.slice none 0 0,.bool false,.slice none 0 0]) PH.mt os [fv f] (.slice oa i oc) g6 0 1 1 kV rfl rfl oV hA e6 (Bds f) rfl oV oV oV ?_;intro v7 m7 hA7;obtain⟨a7,c7,rfl⟩:=hA7.shape;have hn7:(os++[fv f]).length=i+1:=by rw[A0z,<-hoi];rfl
   rw[hn7]at hA7⊢;have l27:=((l3.trans l4).trans l5).trans l6;have hO7:Ge u6 (os++[fv f]) (((Ak P).take (i+1)).map (Bc7 b P C)):=by
    rw[E6 hEi,A07];exact (hO.mono l27).snoc (k5.mono l6)
   refine G.i i ?_;exact G.b (hJ (i+1,(a7,c7),os++[fv f]) _ _ _ cV (l2.trans l27) ⟨dV,hO7,hA7⟩ dV)
 ·obtain rfl:i=P.length+1:=oV
  refine G.lF ((P.length+1:Nat):Int) ((P.length+1:Nat):Int) ?_;rw[A03 oV]at hO;exact G.r (.slice oa (P.length+1) oc) ⟨os,hA,hO⟩
section
variable {u:PH} {v cv mv:Value} {T:List (List UInt8×Nat)} {R:List Bk} {F:List Ao} {lab:Int} {C:CF} {K k:Nat} {q:Rat} {P:List Par} {m0:Rat} {M:List (Par×Rat)}
def Bc6 (q:Rat)(b:Option Par->Rat)(P:List Par)(C:CF)(e:Option Par):Rat:=Bc7 b P C e+Kp q b e
def Bc5 (q:Rat)(b:Option Par->Rat)(P:List Par)(C:CF)(i:Nat):List Rat:=((Ak P).take i).map (Bc6 q b P C)++((Ak P).drop i).map (Bc7 b P C)
theorem Bdb (q:Rat)(b:Option Par->Rat)(P:List Par)(C:CF)(i:Nat):(Bc5 q b P C i).length=P.length+1:=by
 unfold Bc5;rw[<-Bo P,A0z,A0p,A0p,A00,List.length_drop];omega
theorem Bdf {q:Rat}{P:List Par}{C:CF}{e:Option Par}(h:(Ak P)[i]?=some e) :
 (Bc5 q b P C i)[i]?=some (Bc7 b P C e)/\Bc5 q b P C (i+1)=(Bc5 q b P C i).set i (Bc6 q b P C e):=by
 obtain⟨hlt,rfl⟩:=A0s.1 h;have hd:(Ak P).drop i=(Ak P)[i]::(Ak P).drop (i+1):=(List.drop_eq_getElem_cons hlt);have hl:(((Ak P).take i).map (Bc6 q b P C)).length=i:=by rw[A0p,A00];omega
 unfold Bc5;rw[hd,A1y,E6 h,A07];constructor
 ·rw[List.getElem?_append_right oV,hl,A45];rfl
 ·rw[List.set_append_right _ _ oV,hl,A45,A2k,A1j];rfl
theorem Bdl (ht:Lb u)(h:Arn u v cv T R F lab C K k)(hq:Avj q)(hPL:R1 F C P)(hmv:Ar9 u mv m0 M)(hm:Ew P m0 M)(h0:k≠0)(h11:P.length<=11)(hT:∀ e∈Ak P,Tx (Bc6 q (cfE m0 M) P C e)) :
 Fn0 prog 38 [v,cv,mv,.string (mkS (Af q))] u fun r u'=>∃ lv,r=.tuple #[lv,.int .i64 0]/\Fe u' lv (((Ak P).map (Bc6 q (cfE m0 M) P C)).map Af):=by
 have hop:=Ax5 h hq hPL hmv hm;have hof:=fun (u':PH) (l:PH.le u u')=>A0i (h.cof.mono l) h.sC (by have:=h.K;omega);have hqok:=h.mom.qok hm;obtain⟨xa,xc,xb,xd,xe,xf,rfl,_⟩:=id h.sch;obtain⟨a1,n1,c1,a2,n2,c2,rfl⟩:=id h.cof.opn;obtain⟨na,nc,rfl,_⟩:=id hmv.val;have hqs:Sz q 1000:=hq.tx.sz.mono oV;generalize cfE m0 M=b at *
 refine Fn0.o func38 ?_;refine G.c call74 hop ?_;rintro v1 u1 l1 (⟨e,rfl,⟨_,he⟩|⟨_,_,he⟩⟩|⟨_,_,lv,rfl,hlv⟩)
 ·exact absurd he h0
 ·omega
 obtain⟨pa,pc,fa,fc',rfl,hPl,es,hL,hF⟩:=id hlv.val;have hEl:=Bo P;have hes:es.length=P.length+1:=by rw[hF.1,A0p,hEl]
 refine G.nF 0 0 ?_;refine G.c call75 (hof u1 l1) ?_;intro v2 u2 l2 k2;obtain⟨b0,a0,n0,c0,b0',a0',n0',c0',g1,g2,rfl⟩:=S3 k2;refine G.callO _ _ kV call89 (Bdm (hlv.mono l2) k2 oV hqok) ?_;rintro v3 u3 m3 l3 ⟨os,hA,hO⟩ _;rw[C2];have hol:os.length=P.length+1:=by rw[hO.1,A0p,hEl]
 obtain⟨go,gc,rfl⟩:=hA.ptr (by intro e;rw[e]at hol;simp at hol);rw[hol]at hA⊢;have hO0:Ge u3 os (Bc5 q b P C 0):=by
  have:Bc5 q b P C 0=(Ak P).map (Bc7 b P C):=by unfold Bc5;rw[A3y,List.drop_zero];rfl
  rw[this];exact hO
 refine G.l (ι:=Nat×List Value) (fun i=>[(3,tV (Af q)),(12,sV (some ⟨go,0,none⟩) (P.length+1) gc),(31,sV fa (P.length+1) fc'),(32,iV (P.length+1:Nat)),(33,iV i.1)]) (fun _=>[])
  (fun i u' m'=>i.1<=P.length+1/\i.2.length=P.length+1/\Ge u' i.2 (Bc5 q b P C i.1)/\Ae PH.mt m' (.slice (some ⟨go,0,none⟩) (P.length+1) gc) 116 4 i.2) (fun i=>P.length+1-i.1) (0,os)
  ⟨A1m _,hol,hO0,hA⟩ ?_
 clear hA hO hO0 hol;rintro J ⟨i,os⟩ hJ u4 m4 l4 ⟨hi,hol,hO,hA⟩;simp only at hi hol hO hA hJ;have le4:=((l1.trans l2).trans l3).trans l4;by_cases hlt:i<P.length+1
 ·refine G.lT (i:Int) ((P.length+1:Nat):Int) ?_;obtain⟨e,hEi⟩:∃ e,(Ak P)[i]?=some e:=⟨_,A0n oV⟩;obtain⟨hg1,hg2⟩:=Bdf (q:=q) (b:=b) (C:=C) hEi;obtain⟨x,hx,hfx⟩:=hF.2 i (b e) (by rw[A0v,hEi];rfl);obtain⟨fb,fo,rfl,ef⟩:=Ab.at' (hL.mono ((l2.trans l3).trans l4)) (j:=i) (e:=x) hx;have hfx:=hfx.mono ((l2.trans l3).trans l4);obtain⟨fx,rfl⟩:=hfx.opF;refine G.a fb fo (P.length+1) fc' i 4 hlt ?_;refine G.lU (some 4) fb (fo+i*4) (fv fx) ef ?_;rcases Ra hEi with ⟨rfl,rfl⟩|⟨j,p,rfl,hpj,rfl⟩
  ·refine G.gF ((0:Nat):Int) 0 ?_;refine G.p ((0:Nat):Int) 1 ((0+1:Nat):Int) ?_;refine G.b (hJ (0+1,os) _ _ _ cV l4 ⟨dV,hol,?_,hA⟩ dV);have e1:Bc6 q b P C none=Bc7 b P C none:=by show Bc7 b P C none+0=_;grind
   show Ge u4 os (Bc5 q b P C (0+1));rw[hg2,e1];have:(Bc5 q b P C 0).set 0 (Bc7 b P C none)=Bc5 q b P C 0:=by
    refine List.ext_getElem? fun n=>?_;by_cases hn:0=n
    ·subst hn;rw[hg1,A4v (by rw[Bdb];omega)]
    ·rw[A95 hn]
   rw[this];exact hO
  ·refine G.gT ((j+1:Nat):Int) 0 ?_;obtain⟨y,hy,hfy⟩:=hO.2 (j+1) _ hg1;obtain⟨fy,rfl⟩:=hfy.opF;refine G.a go 0 (P.length+1) gc (j+1) 4 hlt ?_;refine G.lM (some 4) go (0+(j+1)*4) (fv fy) (hA.el hy) ?_;refine G.c call77 (Iy hq.tx) ?_;intro v5 u5 l5 k5;obtain⟨f5,rfl⟩:=k5.opF;refine G.c call78 (Le k5 (hfx.mono l5) (hqs.mono oV) ((hqok.b _).mono oV)) ?_;intro v6 u6 l6 k6;obtain⟨f6,rfl⟩:=k6.opF;refine G.c call76 (O2 (hfy.mono (l5.trans l6)) k6 ((hqok.gs (some p) (Ak P) oV).mono oV) ((In hqs (hqok.b (some p))).mono oV)) ?_;intro v7 u7 l7 k7;obtain⟨f7,rfl⟩:=k7.opF;refine G.a go 0 (P.length+1) gc (j+1) 4 hlt ?_;refine G.storeA 4 PH.mt os go (P.length+1) gc (j+1) (fv f7) kV hA oV rfl rfl ?_;intro m8 hA8;have l48:=(l5.trans l6).trans l7;refine G.p ((j+1:Nat):Int) 1 ((j+1+1:Nat):Int) ?_;refine G.b (hJ (j+1+1,os.set (j+1) (fv f7)) _ _ _ cV (l4.trans l48) ⟨dV,by dsimp only;rw[A3u];exact hol,?_,hA8⟩ dV);show Ge u7 (os.set (j+1) (fv f7)) (Bc5 q b P C (j+1+1));rw[hg2];exact (hO.mono l48).set (by rw[Bdb];omega) k7
 ·obtain rfl:i=P.length+1:=oV
  refine G.lF ((P.length+1:Nat):Int) ((P.length+1:Nat):Int) ?_;have e1:Bc5 q b P C (P.length+1)=(Ak P).map (Bc6 q b P C):=by
   unfold Bc5;rw[A03 oV,A1u oV,List.map_nil,A1i]
  rw[e1]at hO;refine G.give _ _ _ kV hA (fun g=>.inl rfl) ?_;intro u5 l5 hS;refine G.c call90 (Avf (ht.mono (le4.trans l5)) ⟨os,hS,hO.mono l5⟩ (fun q hq=>by
   obtain⟨e,he,rfl⟩:=A0u.1 hq;exact hT e he) (by rw[A0p];omega)) ?_
  rintro v6 u6 l6 ⟨lv,rfl,hlv⟩;obtain⟨ya,yc,rfl⟩:=Ab.opn hlv;exact G.r _ ⟨rfl,_,rfl,hlv⟩
end
end
section
variable {u:PH}{v:Value}
theorem Bdd {L:List Par}{p:Par}{k:Nat}(h:Ab u v 2 (L.map An))(hk:L[k]?=some p)(hn:L.Nodup)(hl:L.length<=1000000) :
 Fn0 prog 92 [v,An p] u fun r _=>r=.int .i64 (k:Int):=by
 obtain⟨a,c,rfl⟩:=h.opn;rw[A0p]at h⊢;obtain⟨hkl,hkp⟩:=A0s.1 hk;refine Fn0.o func92 ?_;refine G.l (ι:=Nat) (fun i=>[(3,.p 0 0),(7,sV a L.length c),(8,iV L.length),(9,iV i)]) (fun _=>[(0,⟨79,[iV p.1,tV p.2]⟩)])
  (fun i u' m'=>i<=k/\m'=PH.mt) (fun i=>k+1-i) 0 ⟨oV,rfl⟩ ?_
 rintro J i hJ u1 m1 l1 ⟨hi,rfl⟩;refine G.lT (i:Int) (L.length:Int) ?_;have hLi:L[i]?=some L[i]:=A0n oV;obtain⟨ba,oa,rfl,ea⟩:=Ab.at' (h.mono l1) (j:=i) (e:=An L[i]) (by simp[hLi]);refine G.a ba oa L.length c i 2 oV ?_;refine G.lU (some 2) ba (oa+i*2) (.agg #[.int .i64 L[i].1,.string (mkS L[i].2)]) ea ?_;by_cases he:L[i]=p
 ·have hik:i=k:=Og hn (by rw[hLi,he]) hk;refine G.eqAgg 79 #[.int .i64 L[i].1,.string (mkS L[i].2)] #[.int .i64 p.1,.string (mkS p.2)] true kV kV kV (fun w=>by rw[<-decide_eq_true he];exact Bt.eq L[i] p w) ?_;exact G.r (.int .i64 (i:Int)) ⟨rfl,by rw[hik]⟩
 ·have hik:i≠k:=fun e=>by subst e;exact he hkp
  refine G.eqAgg 79 #[.int .i64 L[i].1,.string (mkS L[i].2)] #[.int .i64 p.1,.string (mkS p.2)] false kV kV kV (fun w=>by rw[<-decide_eq_false he];exact Bt.eq L[i] p w) ?_;refine G.i i ?_;exact G.b (hJ (i+1) _ _ _ cV l1 ⟨oV,rfl⟩ oV)
theorem Bde (s:Value)(i:Nat):s::A0x i (Baq (mkS [48]))++[Baq (mkS [48])]=s::A0x (i+1) (Baq (mkS [48])):=by
 rw[A39,List.replicate_succ']
theorem Bdc {pv v:Value}{P:List Par}{m0:Rat}{M:List (Par×Rat)}(hP:Ab u pv 2 (P.map An))(hs:Ef A8 P)(hl:P.length<=10000)(h:Ar9 u v m0 M)(ok:Ew P m0 M) :
 Fn0 prog 39 [pv,v] u fun r u'=>∃ lv,r=.tuple #[lv,.int .i64 0]/\Fe u' lv (((Ak P).map (cfE m0 M)).map Af):=by
 have hMl:=ok.len;have hasc:=Aj5 hP hs oV;have hnd:=hs.nodup Dp;have hMn:=ok.srt.nodup Dp;obtain⟨pa,pc,rfl⟩:=hP.opn;obtain⟨a,c,rfl,hM⟩:=h.val;rw[A0p]at hP hasc⊢;refine Fn0.o func39 ?_;refine G.c call91 hasc ?_;rintro v1 u1 l1 rfl;refine G.c call30 (Cp ok.c) ?_;rintro v2 u2 l2 rfl;have le2:=l1.trans l2;refine G.l (ι:=Nat) (fun i=>[(0,sV pa P.length pc),(3,.p 0 0),(20,sV a M.length c),(21,iV M.length),(22,iV i)]) (fun _=>[(0,⟨42,[tV (Af m0),sV a M.length c]⟩)])
  (fun i u' m'=>i<=M.length/\m'=PH.mt) (fun i=>M.length-i) 0 ⟨A1m _,rfl⟩ ?_
 rintro J i hJ u3 m3 l3 ⟨hi,rfl⟩;have le3:=le2.trans l3;by_cases hlt:i<M.length
 ·refine G.lT (i:Int) (M.length:Int) ?_;obtain⟨x,hMi⟩:∃ x,M[i]?=some x:=⟨_,A0n hlt⟩;obtain⟨ba,oa,rfl,ea⟩:=Ab.at' (hM.mono le3) (j:=i) (e:=A5 x) (by simp[hMi]);refine G.a ba oa M.length c i 3 hlt ?_;refine G.lU (some 3) ba (oa+i*3) (.agg #[.int .i64 x.1.1,.string (mkS x.1.2),.string (mkS (Af x.2))]) ea ?_;refine G.c call30 (Cp (ok.t x (A1b hMi))) ?_;rintro v4 u4 l4 rfl;refine G.i i ?_;exact G.b (hJ (i+1) _ _ _ cV (l3.trans l4) ⟨oV,rfl⟩ oV)
 obtain rfl:i=M.length:=oV
 refine G.lF (M.length:Int) (M.length:Int) ?_;refine G.buildM 33 1 16 (.string (mkS [])) [.string (mkS (Af m0))] kV (Cu [Af m0]) rfl oV mV mV ?_;intro g5 m5 hA5;have hzl:∀ i,(Baq (mkS (Af m0))::A0x i (Baq (mkS [48]))).length=i+1:=fun i=>mV
 refine G.l (ι:=Nat×(Nat×Nat)) (fun i=>[(0,sV pa P.length pc),(3,.p 0 0),(8,sV (some ⟨i.2.1,0,none⟩) (i.1+1) i.2.2),(35,iV P.length),(36,iV i.1)]) (fun _=>[(0,⟨42,[tV (Af m0),sV a M.length c]⟩)])
  (fun i u' m'=>i.1<=P.length/\Ae PH.mt m' (.slice (some ⟨i.2.1,0,none⟩) (i.1+1) i.2.2) 33 1 (.string (mkS (Af m0))::A0x i.1 (.string (mkS [48])))) (fun i=>P.length-i.1) (0,g5,1) ⟨A1m _,hA5⟩ ?_
 clear hA5 hJ;rintro J2 ⟨i,g,gc⟩ hJ2 u6 m6 l6 ⟨hi,hA⟩;simp only at hi hA hJ2;have le6:=le3.trans l6;by_cases hlt:i<P.length
 ·refine G.lT (i:Int) (P.length:Int) ?_;refine G.B 33 1 16 (.string (mkS [])) [.string (mkS [48])] (Cu [[48]]) ?_;intro g7 u7 l7 e7;refine G.append 33 1 16 (.string (mkS [])) PH.mt _ [.string (mkS [48])] (.slice (some ⟨g,0,none⟩) (i+1) gc) g7 0 1 1 kV rfl rfl oV hA e7 (Cu [[48]]) rfl oV (by rw[hzl];omega) (by rw[hzl];omega) ?_;intro v8 m8 hA8;rw[Bde]at hA8;obtain⟨g8,c8,rfl⟩:=hA8.ptr mV;rw[hzl]at hA8⊢;refine G.i i ?_;exact G.b (hJ2 (i+1,g8,c8) _ _ _ cV (l6.trans l7) ⟨dV,hA8⟩ dV)
 obtain rfl:i=P.length:=oV
 refine G.lF (P.length:Int) (P.length:Int) ?_;have hd0:(cfL m0 P []).map nmV=Baq (mkS (Af m0))::A0x P.length (Baq (mkS [48])):=by
  have:=Agp P;unfold Ab9 at this;unfold cfL;rw[(List.cons.inj this).2,A1y,List.map_replicate];rfl
 rw[<-hd0]at hA;clear hJ2;refine G.l (ι:=Nat) (fun i=>[(0,sV pa P.length pc),(3,.p 0 0),(8,sV (some ⟨g,0,none⟩) (P.length+1) gc),(43,sV a M.length c),(44,iV M.length),(45,iV i)]) (fun _=>[(0,⟨42,[tV (Af m0),sV a M.length c]⟩)])
  (fun i u' m'=>i<=M.length/\Ae PH.mt m' (.slice (some ⟨g,0,none⟩) (P.length+1) gc) 33 1 ((cfL m0 P (M.take i)).map nmV)) (fun i=>M.length-i) 0 ⟨A1m _,hA⟩ ?_
 clear hA;rintro J3 i hJ3 u9 m9 l9 ⟨hi,hA⟩;have le9:=le6.trans l9;by_cases hlt:i<M.length
 ·refine G.lT (i:Int) (M.length:Int) ?_;obtain⟨x,hMi⟩:∃ x,M[i]?=some x:=⟨_,A0n hlt⟩;have hxm:=A1b hMi;have htk:=E6 hMi;obtain⟨k,hk,hkx⟩:=A19 (ok.sub x hxm);have hkx':P[k]?=some x.1:=by rw[A0n hk,hkx]
  have hnew:x.1∉(M.take i).map (·.1):=by
   intro hm;obtain⟨y,hy,hye⟩:=A0u.1 hm;obtain⟨j,hj,rfl⟩:=A19 hy;rw[A00]at hj;have:=Og hMn (i:=j) (j:=i) (x:=x.1) (by rw[A0v,A0n oV];simp only[A3h];rw[<-hye,A4t]) (by rw[A0v,hMi];rfl);omega
  have hset:=Ajk (m0:=m0) (L:=M.take i) hkx' hnd hnew;obtain⟨ba,oa,rfl,ea⟩:=Ab.at' (hM.mono le9) (j:=i) (e:=A5 x) (by simp[hMi]);refine G.a ba oa M.length c i 3 hlt ?_;refine G.lU (some 3) ba (oa+i*3) (.agg #[.int .i64 x.1.1,.string (mkS x.1.2),.string (mkS (Af x.2))]) ea ?_;refine G.c call92 (Bdd (p:=x.1) (hP.mono le9) hkx' hnd oV) ?_;rintro v10 u10 l10 rfl;by_cases hi0:0<i
  case' pos =>
   refine G.gT (i:Int) 0 ?_;have hMj:M[i-1]?=some (M[i-1]'oV):=A0n oV;have hcm:A8 (M[i-1]'oV).1 x.1<0:=by
    have h1:=List.pairwise_iff_getElem.1 ok.srt (i-1) i (by rw[A0p];omega) (by rw[A0p];omega) oV;rw[A4r,A4r,(A0s.1 hMi).2]at h1;exact h1
   obtain⟨_,_,e0,eb⟩:=Ab.at' (hM.mono (le9.trans l10)) (j:=i-1) (e:=A5 (M[i-1]'oV)) (by simp[hMj]);cases e0;refine G.s (i:Int) 1 ((i-1:Nat):Int) ?_;refine G.a ba oa M.length c (i-1) 3 oV ?_;refine G.f 81 ba (oa+(i-1)*3) 0 0 ?_;refine G.lU (some 2) ba (oa+(i-1)*3+0) (An (M[i-1]'oV).1) ?_ ?_
   ·intro n y hy;refine eb n y ?_;have hn:n<2:=(Array.getElem?_eq_some_iff.1 hy).1
    match n,hn with
    |0,_=>exact hy
    |1,_=>exact hy
   refine G.c call93 (Dq _ _ true (decide_eq_true hcm)) ?_;rintro v11 u11 l11 rfl
  case' neg =>
   refine G.gF (i:Int) 0 ?_;obtain⟨u11,hu11⟩:∃ u',u'=u10:=⟨_,rfl⟩;have l11:PH.le u10 u11:=by rw[hu11];exact PH.le_refl _
   rw[<-hu11]
  all_goals
   refine G.lF (k:Int) 0 ?_;refine G.hT (k:Int) 0 ?_;refine G.i k ?_;refine G.a g 0 (P.length+1) gc (k+1) 1 oV ?_;refine G.storeA 1 PH.mt _ g (P.length+1) gc (k+1) (.string (mkS (Af x.2))) kV hA (by rw[A0p,Adi];omega) rfl rfl ?_;intro m12 hA12;rw[show Baq (mkS (Af x.2))=nmV (Af x.2) from rfl,<-A27,hset,<-htk]at hA12;refine G.i i ?_;exact G.b (hJ3 (i+1) _ _ _ cV ((l9.trans l10).trans l11) ⟨oV,hA12⟩ oV)
 obtain rfl:i=M.length:=oV
 refine G.lF (M.length:Int) (M.length:Int) ?_;rw[A1k,Ak5]at hA;refine G.give _ _ _ kV hA (fun g=>.inl rfl) ?_;intro u13 l13 hS;exact G.r (.tuple #[.slice (some ⟨g,0,none⟩) (P.length+1) gc,.int .i64 0]) ⟨rfl,_,rfl,hS⟩
end
end Go.Proofs.YtanfagpabkdmiaaGreatDoor
