/- Parts of one proof, joined by a program. -/
import Derived.Test.YtanfagpabkdmiaaGreatDoorL09
set_option linter.unusedVariables false
set_option linter.unusedSimpArgs false
set_option linter.unusedSectionVars false
set_option maxHeartbeats 16000000
namespace Go.Proofs.YtanfagpabkdmiaaGreatDoor
open Go.Proofs.Tryz
section
open Go.RowKit Go.MapKept Go.Shelf Go.Sort
variable {L:List Par}
theorem N8 (L:List Par):Az (L.map An)=L.flatMap Bu:=by
 unfold Az;rw [List.flatMap_map];rfl
theorem D9 (L:List Par):(L.flatMap Bu).length=L.length*2:=by
 induction L with
 | nil=>rfl
 | cons x L ih=>rw [List.flatMap_cons,List.length_append,ih,J8,List.length_cons,Nat.add_mul]; omega
theorem Wi {L L':List Par}(hl:L'.length=L.length)(rest:List Value):putCells id 0 (flatK Bu 2 L'.toArray) (L.flatMap Bu++rest).toArray=(L'.flatMap Bu++rest).toArray:=by
 have h1:=D9 L;have h2:=D9 L';have hs:(flatK Bu 2 L'.toArray).size=L'.length*2:=by rw [size_flatK]; simp
 apply Array.ext_getElem?;intro t;unfold putCells;rw [Array.getElem?_mapIdx,List.getElem?_toArray,List.getElem?_toArray,hs];by_cases ht:t < L'.length*2
 ·rw [List.getElem?_append_left (by omega),List.getElem?_append_left (by omega),M7 J8 L' t ht];have:(L.flatMap Bu)[t]?=some (L.flatMap Bu)[t]:=List.getElem?_eq_getElem (by omega);rw [this];simp only [Option.map_some,Nat.zero_le,Nat.zero_add,true_and,if_pos ht,id,Nat.sub_zero];rw [get_flatK Bu 2 _ t (by simpa using ht)]
 ·rw [List.getElem?_append_right (by omega),List.getElem?_append_right (by omega),h1,h2,hl];cases hr:rest[t - L.length*2]? with
  | none=>rfl
  | some x =>
   simp only [Option.map_some,Nat.zero_le,Nat.zero_add,true_and];rw [if_neg (by omega)]
theorem X9 (L:List Par):A3 2 (L.map An):=by
 intro e he;obtain ⟨x,_,rfl⟩:=List.mem_map.1 he;exact ⟨rfl,fun y hy=>by simp [An,Value.cells] at hy; rcases hy with rfl | rfl <;> rfl⟩
theorem Ah5 {u m0 m:PH}{v:Value}(hA:Ae m0 m v 79 2 (L.map An))(hnd:L.Nodup)(hl:L.length≤1000000) :
  Ai prog 189 [v,.func (.func 190) #[] #[]] u m fun r u' m'=>r=.tuple #[]∧Ae m0 m' v 79 2 ((Dw A8 L).map An):=by
 have hp:=Gx (c:=A8) L;have hpl:(Dw A8 L).length=L.length:=hp.length_eq;intro w hg;obtain ⟨hok,h⟩:=hA;rcases h with ⟨rfl,he,rfl⟩ | ⟨g,cap,rest,hm0,rfl,rfl,hcap,hlen,hrest⟩
 ·have hL:L = []:=by simpa using he
  subst hL;refine (AnyF.slices_SortFunc_none Tryz.sortPar none 0 _ w).mono ?_;rintro e w' ⟨rfl,rfl⟩;exact ⟨_,u,m,rfl,hg,⟨Nat.le_refl _,fun _ _ _=>rfl,fun _ _=>rfl,fun _ _ h=>h,⟨rfl,rfl⟩,fun f=>f.elim⟩,rfl,by
   have e:Dw A8 ([]:List Par) = []:=List.length_eq_zero_iff.1 hpl;rw [e]; exact Ae.nil _ _ _⟩
 ·rw [List.length_map] at hcap ⊢;rw [N8] at hlen hg;have hgb:w.heap[g]?=some (.cells (L.flatMap Bu++rest).toArray 79 (0,0)):=hg.pm g _ (Ac _ _ _);have hH:HoldsK Bu 2 w g 0 L.toArray:=Afx (enc:=Bu) (k:=2) J8 hgb (by
   show (L.flatMap Bu++rest).take (L.length*2)=_;rw [List.take_append_of_le_length (by rw [D9]; omega),List.take_of_length_le (by rw [D9]; omega)])
  have hgl:g < w.heap.size:=Bw hgb;have hcon:=AnyQ.slices_SortFunc_total Tryz.sortPar 2 (fun w=>by kernel_rfl) (fun w=>by kernel_rfl) Bu (fun _=>rfl) (fun x v hv=>by simp at hv; rcases hv with rfl | rfl <;> rfl) A8 Dp.swo 190 #[] g 0 cap L.toArray w call190 (Abb g 0 _ w) hH hgl (by simp; omega) Dp.tot
  change Calls prog 189 _ _ _ at hcon;simp only [List.size_toArray] at hcon;refine Calls.mono hcon ?_;rintro e w' ⟨rfl,nn,os,rfl⟩;change Alp _ _ _ (sortWorldK Bu 2 w g 0 nn (Dw A8 L).toArray os);obtain ⟨w',hw'⟩:∃ w',w'=sortWorldK Bu 2 w g 0 nn (Dw A8 L).toArray os:=⟨_,rfl⟩;have hheap:w'.heap=w.heap.modify g (onCells (putCells id 0 (flatK Bu 2 (Dw A8 L).toArray)))++os:=by rw [hw']; rfl
  have hos:w'.os=w.os∧w'.output=w.output:=by rw [hw']; exact ⟨rfl,rfl⟩
  rw [← hw'];have hsz:w.heap.size≤w'.heap.size:=by rw [hheap,Array.size_append,Array.size_modify]; omega
  have hold:∀ k,k < w.heap.size→k≠g→w'.heap[k]?=w.heap[k]?:=fun k hk hne=>by
   rw [hheap,Array.getElem?_append_left (by rw [Array.size_modify]; exact hk),Array.getElem?_modify,if_neg (fun e=>hne e.symm)]
  have hnew:w'.heap[g]?=some (.cells ((Dw A8 L).flatMap Bu++rest).toArray 79 (0,0)):=by
   rw [hheap,Array.getElem?_append_left (by rw [Array.size_modify]; exact hgl),Array.getElem?_modify,if_pos rfl,hgb];show some (Obj.cells (putCells id 0 _ _) _ _)=_;rw [Wi hpl]
  have hug:u g=none:=(hg.ap g).resolve_right (by rw [Ac]; simp);have hpar:=X9 (Dw A8 L);refine ⟨_,fun k=>if k < w.heap.size then u k else w'.heap[k]?,m0.upd g (.cells (Az ((Dw A8 L).map An)++rest).toArray 79 (0,0)),rfl,⟨?_,?_,?_,?_⟩,⟨hsz,?_,?_,?_,hos,fun f=>f.elim⟩,rfl,hpar,.inr ⟨g,cap,rest,hm0,rfl,by rw [List.length_map,hpl],by rw [List.length_map,hpl]; exact hcap,?_,hrest⟩⟩
  ·intro k o hk;simp only at hk;split at hk
   ·rename_i hlt;have hne:k≠g:=fun e=>by subst e; rw [hug] at hk; cases hk
    rw [hold k hlt hne]; exact hg.pu k o hk
   ·exact hk
  ·intro k o hk;by_cases e:k=g
   ·subst e;rw [Ac] at hk; cases hk;rw [hnew,N8]
   ·rw [Ad _ _ e] at hk;have:=hg.pm k o (by rw [Ad _ _ e]; exact hk);rw [hold k (Bw this) e]; exact this
  ·intro k;simp only;by_cases hlt:k < w.heap.size
   ·rw [if_pos hlt];rcases hg.ap k with h | h
    ·exact .inl h
    ·by_cases e:k=g
     ·subst e; rw [Ac] at h; cases h
     ·right; rw [Ad _ _ e] at h ⊢; exact h
   ·right;have e:k≠g:=fun e=>by omega
    rw [Ad _ _ e];have:=hg.pm.none (g:=k) (by show w.heap.size≤k; omega);rw [Ad _ _ e] at this;exact this
  ·intro k cs t fr j z hk hj;simp only;by_cases hlt:k < w.heap.size
   ·rw [if_pos hlt];by_cases e:k=g
    ·subst e;rw [hnew] at hk;cases hk;exfalso;have hmem:Value.int .u64 z∈(Dw A8 L).flatMap Bu++rest:=by
      rw [List.getElem?_toArray] at hj;exact List.mem_of_getElem? hj
     have hall:∀ x∈(Dw A8 L).flatMap Bu++rest,Be x=true:=fun x hx=>by
      rcases List.mem_append.1 hx with h | h
      ·rw [← N8] at h; exact Ep hpar x h
      ·exact hrest x h
     have:=hall _ hmem;cases this
    ·rw [hold k hlt e] at hk;exact hg.cl k cs t fr j z hk hj
   ·rw [if_neg hlt]; exact hk
  ·intro k hk hmk;refine hold k hk fun e=>?_;subst e;simp only at hmk;rw [Ac] at hmk; cases hmk
  ·intro k hk;simp only;exact if_pos hk
  ·intro k hk hmk;by_cases e:k=g
   ·subst e; simp only at hmk; rw [Ac] at hmk; cases hmk
   ·simp only at hmk; rw [Ad _ _ e] at hmk ⊢; exact hmk
  ·rw [N8,List.length_append,D9,hpl];rw [List.length_append,D9] at hlen;exact hlen
end
section
open Go.RowKit Go.MapKept
variable {F:List Ao}{R:List Bk}{T:List (List UInt8×Nat)}{lab:Int}{n:Nat}{u:PH}{v:Value}
def Aar (F:List Ao)(lab:Int)(p:Par):Prop:=(p.1 = -1∧0≤lab∧p.2 = [])∨(∃ (k:Nat) (f:Ao),p.1=(k:Int)∧F[k]?=some f∧(f.2.1=2∨p.2 = []))
theorem Ahy {p:Par}(hX:F1 u v T R F lab)(ok:Bn u T R F lab)(hp:Aar F lab p) :
  Fn0 prog 187 [v,An p] u fun r _=>r=.bool true:=by
 obtain ⟨xa,xc,xb,xd,xe,xf,rfl,hTL,hRL,hFL⟩:=hX;have hf8:=ok.f2;refine Fn0.o func187 ?_;rcases hp with ⟨h1,h2,h3⟩ | ⟨k,f,h1,hf,h3⟩
 ·refine G.eT' p.1 (-1) h1 ?_;refine G.hT' lab 0 h2 ?_;refine G.q p.2 [] h3 ?_;exact G.r (.bool true) ⟨rfl,rfl⟩
 ·obtain ⟨p1,p2⟩:=p;simp only at h1 h3;subst h1;have hk:=(List.getElem?_eq_some_iff.1 hf).1;obtain ⟨bb,ob,rfl,eb⟩:=Ab.at' hFL (j:=k) (e:=B6 f) (by simp [hf]);obtain ⟨f1,f2,f3⟩:=f;simp only at h3;refine G.eF (k:Int) (-1) ?_;refine G.hF (k:Int) (F.length:Int) ?_;refine G.a bb ob F.length xf k 3 hk ?_;refine G.f 144 bb (ob+k*3) 1 1 ?_;refine G.lU none bb (ob+k*3+1) (.int .i64 (f2:Int)) (eb.fld (j:=1) (xs:=#[.int .i64 (f1:Int),.int .i64 (f2:Int),.int .i64 (f3:Int)]) rfl rfl) ?_;by_cases h2:f2=2
  ·refine G.eT (f2:Int) 2 ?_;exact G.r (.bool true) ⟨rfl,rfl⟩
  ·refine G.eF (f2:Int) 2 ?_;refine G.q p2 [] (h3.resolve_left h2) ?_;exact G.r (.bool true) ⟨rfl,rfl⟩
theorem Akx {u m:PH}{b:Nat}{x:Par×Rat}(hb:ElP m b 0 v)(hX:F1 u v T R F lab)(ok:Bn u T R F lab)(hp:Aar F lab x.1) :
  FnK prog 186 [A5 x,.pointer (some ⟨b,0,none⟩)] u m fun v _=>v=.bool false:=by
 have hbel:=Ahy hX ok hp;obtain ⟨xa,xc,xb,xd,xe,xf,rfl,hTL,hRL,hFL⟩:=hX;refine FnK.of func186 (by kernel_rfl) (by kernel_rfl) ?_;refine G.lM (some 4) b 0 (.agg #[.slice xa T.length xc,.slice xb R.length xd,.slice xe F.length xf,.int .i64 lab]) hb ?_;refine G.c call187 hbel ?_;rintro v1 u1 l1 rfl;exact G.r (.bool false) ⟨rfl,rfl⟩
theorem Agw {u m:PH}{v cap:Value}{T:List (Par×Rat)}{fid:Nat}(h:Ab u v 3 (T.map A5))(hl:T.length≤1000000)
  (hcall:∀ args w,(callFunc fid args).run prog w=.ok (.enter fid args) w) (hf:∀ p∈T,∀ u',PH.le u u'→FnK prog fid [A5 p,cap] u' m fun v _=>v=.bool false) :
  FnK prog 241 [v,.func (.func fid) #[] #[cap]] u m fun v' _=>v'=.int .i64 (-1):=by
 obtain ⟨a,c,rfl⟩:=h.opn;rw [List.length_map] at h ⊢;refine FnK.of func241 (by kernel_rfl) (by kernel_rfl) ?_;refine G.l (ι:=Nat) (fun i=>[(0,.v (.slice a T.length c)),(1,.v (.func (.func fid) #[] #[cap])),(7,.v (.int .i64 (T.length:Int))),(8,.v (.int .i64 (i:Int)))]) (fun _=>[])
  (fun i u' m'=>i≤T.length∧m'=m) (fun i=>T.length - i) 0 ⟨by omega,rfl⟩ ?_
 rintro J i hJ u1 m1 l1 ⟨hi,rfl⟩;by_cases hlt:i < T.length
 ·refine G.lT (i:Int) (T.length:Int) ?_;have hTi:T[i]?=some T[i]:=List.getElem?_eq_getElem hlt;obtain ⟨ba,oa,rfl,ea⟩:=Ab.at' (h.mono l1) (j:=i) (e:=A5 T[i]) (by simp [hTi]);refine G.a ba oa T.length c i 3 (by omega) ?_;refine G.lU (some 3) ba (oa+i*3) (A5 T[i]) ea ?_;refine G.callK fid [A5 T[i],cap] (by kernel_rfl) hcall (hf T[i] (List.getElem_mem hlt) u1 l1) ?_;rintro v2 u2 l2 rfl;refine G.i i ?_;exact G.b (hJ (i+1) _ _ _ cv (l1.trans l2) ⟨by omega,rfl⟩ (by omega))
 ·obtain rfl:i=T.length:=by omega
  refine G.lF (T.length:Int) (T.length:Int) ?_;exact G.r (.int .i64 (-1)) ⟨rfl,rfl⟩
theorem Z2 {u m:PH}{v cap:Value}{T:List (Par×Rat)}{fid:Nat}(h:Ab u v 3 (T.map A5))(hl:T.length≤1000000)
  (hcall:∀ args w,(callFunc fid args).run prog w=.ok (.enter fid args) w) (hf:∀ p∈T,∀ u',PH.le u u'→FnK prog fid [A5 p,cap] u' m fun v _=>v=.bool false) :
  FnK prog 185 [v,.func (.func fid) #[] #[cap]] u m fun v' _=>v'=.bool false:=by
 obtain ⟨a,c,rfl⟩:=h.opn;refine FnK.of func185 (by kernel_rfl) (by kernel_rfl) ?_;refine G.callK _ _ (by kernel_rfl) call241 (Agw h hl hcall hf) ?_;rintro v1 u1 l1 rfl;refine G.hF (-1) 0 ?_;exact G.r (.bool false) ⟨rfl,rfl⟩
def Cv (F:List Ao)(n:Nat):List Nat:=(List.range n).filter fun i=>(F.getD i (0,0,0)).2.1 == 1
theorem Ae6 {f:Ao}(hf:F[n]?=some f):Cv F (n+1)=if f.2.1=1 then Cv F n++[n] else Cv F n:=by
 unfold Cv;rw [List.range_succ,List.filter_append];have e:(F.getD n (0,0,0))=f:=by simp [List.getD_eq_getElem?_getD,hf]
 by_cases h:f.2.1=1
 ·rw [if_pos h,List.filter_cons_of_pos (by rw [e]; simp [h])]; rfl
 ·rw [if_neg h,List.filter_cons_of_neg (by rw [e]; simp [h])]; simp
theorem Y2 (F:List Ao)(n:Nat):(Cv F n).length≤n:=by
 unfold Cv;exact Nat.le_trans (List.length_filter_le _ _) (by simp)
theorem S6 {n i:Nat}:i∈Cv F n↔i < n∧(F.getD i (0,0,0)).2.1=1:=by
 unfold Cv; simp [List.mem_filter]
theorem Abx (F:List Ao)(n:Nat):(Cv F n).Nodup:=List.nodup_range.filter _
theorem Yc (hX:F1 u v T R F lab)(ok:Bn u T R F lab) :
  Fn0 prog 188 [v] u fun r u'=>Ab u' r 1 (Ag (Cv F F.length)):=by
 have hck:=Abk hX ok;obtain ⟨xa,xc,xb,xd,xe,xf,rfl,hTL,hRL,hFL⟩:=hX;have hf8:=ok.f2;refine Fn0.o func188 ?_;refine G.c call129 hck ?_;rintro v1 u1 l1 rfl;refine G.nF 0 0 ?_;refine G.l (ι:=Nat×(Option Addr×Nat)) (fun i=>[(3,.v (.slice i.2.1 (Cv F i.1).length i.2.2)),(10,.v (.slice xe F.length xf)),(11,.v (.int .i64 (F.length:Int))),(12,.v (.int .i64 (i.1:Int)))]) (fun _=>[])
  (fun i u' m'=>i.1≤F.length∧Ae PH.mt m' (.slice i.2.1 (Cv F i.1).length i.2.2) 3 1 (Ag (Cv F i.1))) (fun i=>F.length - i.1) (0,(none,0)) ⟨by omega,Ae.nil _ _ _⟩ ?_
 rintro J ⟨i,⟨na,nc⟩⟩ hJ u2 m2 l2 ⟨hi,hA⟩;simp only at hi hA hJ;have le2:=l1.trans l2;have hnl:=Y2 F i;by_cases hlt:i < F.length
 ·refine G.lT (i:Int) (F.length:Int) ?_;obtain ⟨f,hFi⟩:∃ f,F[i]?=some f:=⟨_,List.getElem?_eq_getElem hlt⟩;have hs:=Ae6 hFi;obtain ⟨fb,fo,rfl,ef⟩:=Ab.at' (hFL.mono le2) (j:=i) (e:=B6 f) (by simp [hFi]);obtain ⟨p1,p2,p3⟩:=f;simp only at hs;refine G.a fb fo F.length xf i 3 hlt ?_;refine G.lU (some 3) fb (fo+i*3) (.agg #[.int .i64 (p1:Int),.int .i64 (p2:Int),.int .i64 (p3:Int)]) ef ?_;by_cases h1:p2=1
  ·rw [if_pos h1] at hs;refine G.eT (p2:Int) 1 ?_;refine G.buildU 3 1 8 (.int .i64 0) (Ag [i]) (by kernel_rfl) (Ax [i]) rfl (by omega) (by simp [Ag]) (by simp [Ag]) ?_;intro g3 u3 l3 e3;refine G.append 3 1 8 (.int .i64 0) PH.mt (Ag (Cv F i)) (Ag [i]) (.slice na (Cv F i).length nc) g3 0 1 1 (by kernel_rfl) rfl rfl (by omega) hA e3 (Ax [i]) rfl (by omega) (by simp [Ag]; omega) (by simp [Ag]; omega) ?_;intro v4 m4 hA4;have e4:Ag (Cv F i)++Ag [i]=Ag (Cv F (i+1)):=by rw [hs]; simp [Ag]
   rw [e4] at hA4;obtain ⟨a4,c4,rfl⟩:=hA4.shape;have e5:(Ag (Cv F (i+1))).length=(Cv F (i+1)).length:=by simp [Ag]
   rw [e5] at hA4 ⊢;refine G.i i ?_;exact G.b (hJ (i+1,(a4,c4)) _ _ _ cv (l2.trans l3) ⟨by dsimp only; omega,hA4⟩ (by dsimp only; omega))
  ·rw [if_neg h1] at hs;refine G.eF (p2:Int) 1 ?_;refine G.i i ?_;rw [← hs] at hA ⊢;exact G.b (hJ (i+1,(na,nc)) _ _ _ cv l2 ⟨by dsimp only; omega,hA⟩ (by dsimp only; omega))
 ·obtain rfl:i=F.length:=by omega
  refine G.lF (F.length:Int) (F.length:Int) ?_;refine G.give _ _ _ (by kernel_rfl) hA (fun g=>.inl rfl) ?_;intro u3 l3 hL;exact G.r (.slice na (Cv F F.length).length nc) ⟨rfl,hL⟩
end
section
open Go.RowKit Go.MapKept Go.Sort
variable {A:List (Par×Rat)}{C:CF}{F:List Ao}
def Mi (F:List Ao)(p:Par):Bool:=decide (0≤p.1) && (F.getD p.1.toNat (0,0,0)).2.1 == 2
def G2 (F:List Ao)(A:List (Par×Rat))(n:Nat):List Par:=((A.take n).map (·.1)).filter (Mi F)
theorem Ae5 {n:Nat}{x:Par×Rat}(h:A[n]?=some x):G2 F A (n+1)=if Mi F x.1=true then G2 F A n++[x.1] else G2 F A n:=by
 unfold G2;have e:A.take (n+1)=A.take n++[x]:=by rw [List.take_add_one,h]; rfl
 rw [e,List.map_append,List.filter_append];by_cases hh:Mi F x.1=true
 ·rw [if_pos hh,List.map_cons,List.filter_cons_of_pos hh]; rfl
 ·rw [if_neg hh,List.map_cons,List.filter_cons_of_neg hh]; simp
theorem Agt (F:List Ao)(A:List (Par×Rat))(n:Nat):(G2 F A n).length≤A.length:=by
 unfold G2;refine Nat.le_trans (List.length_filter_le _ _) ?_;rw [List.length_map,List.length_take]; omega
def Iw (i:Nat):Par:=((i:Int),[])
def Hr (F:List Ao):List Par:=(Cv F F.length).map Iw
theorem Gd (p:Par):A3 2 [An p]:=X9 [p]
theorem Zd (hA:(A.map (·.1)).Nodup):(Hr F++G2 F A A.length).Nodup:=by
 refine List.nodup_append.2 ⟨?_,?_,?_⟩
 ·unfold Hr;refine List.Pairwise.map _ (fun a b hne e=>?_) (Abx F F.length);unfold Iw at e;simp only [Prod.mk.injEq,and_true] at e;exact hne (by omega)
 ·unfold G2;rw [List.take_length];exact hA.filter _
 ·intro a ha b hb e;subst e;unfold Hr at ha;obtain ⟨i,hi,rfl⟩:=List.mem_map.1 ha;unfold G2 at hb;have h2:=(List.mem_filter.1 hb).2;unfold Mi Iw at h2;simp only [Bool.and_eq_true,beq_iff_eq,decide_eq_true_eq,Int.toNat_natCast] at h2;have h1:=(S6.1 hi).2;omega
theorem Afc (hA:Can A8 C.s A){p:Par}:p∈Hr F++G2 F A A.length↔(∃ (i:Nat) (f:Ao),p=Iw i∧F[i]?=some f∧f.2.1=1)∨(C.s p≠0∧∃ (i:Nat) (f:Ao),p.1=(i:Int)∧F[i]?=some f∧f.2.1=2):=by
 have hmem:p∈A.map (·.1)↔C.s p≠0:=by
  constructor
  ·intro h;obtain ⟨x,hx,rfl⟩:=List.mem_map.1 h;obtain ⟨h1,h2⟩:=hA.val x hx;rw [← h1]; exact h2
  ·intro h;exact Classical.byContradiction fun hh=>h (hA.out p hh)
 rw [List.mem_append];refine or_congr ?_ ?_
 ·unfold Hr;rw [List.mem_map];constructor
  ·rintro ⟨i,hi,rfl⟩;obtain ⟨h1,h2⟩:=S6.1 hi;refine ⟨i,F[i],rfl,List.getElem?_eq_getElem h1,?_⟩;rw [List.getD_eq_getElem?_getD,List.getElem?_eq_getElem h1,Option.getD_some] at h2;exact h2
  ·rintro ⟨i,f,rfl,hf,h1⟩;refine ⟨i,S6.2 ⟨(List.getElem?_eq_some_iff.1 hf).1,?_⟩,rfl⟩;rw [List.getD_eq_getElem?_getD,hf,Option.getD_some]; exact h1
 ·unfold G2;rw [List.take_length,List.mem_filter,hmem];refine and_congr Iff.rfl ?_;unfold Mi;simp only [Bool.and_eq_true,beq_iff_eq,decide_eq_true_eq];constructor
  ·rintro ⟨h1,h2⟩;have hlt:p.1.toNat < F.length:=by
    rcases Nat.lt_or_ge p.1.toNat F.length with h | h
    ·exact h
    ·rw [List.getD_eq_getElem?_getD,List.getElem?_eq_none h] at h2; simp at h2
   rw [List.getD_eq_getElem?_getD,List.getElem?_eq_getElem hlt,Option.getD_some] at h2;exact ⟨p.1.toNat,F[p.1.toNat],by omega,List.getElem?_eq_getElem hlt,h2⟩
  ·rintro ⟨i,f,h1,hf,h2⟩;refine ⟨by omega,?_⟩;rw [h1,Int.toNat_natCast,List.getD_eq_getElem?_getD,hf,Option.getD_some]; exact h2
abbrev R1 (F:List Ao)(C:CF)(L:List Par):Prop :=
 Ef A8 L∧∀ p,p∈L↔(∃ (i:Nat) (f:Ao),p=Iw i∧F[i]?=some f∧f.2.1=1)∨(C.s p≠0∧∃ (i:Nat) (f:Ao),p.1=(i:Int)∧F[i]?=some f∧f.2.1=2)
theorem R1.eq {L L':List Par}(h:R1 F C L)(h':R1 F C L'):L=L' :=
 Ys Dp h.1 h'.1 fun p=>(h.2 p).trans (h'.2 p).symm
def Anx (u:PH)(r:Value)(F:List Ao)(C:CF):Prop :=
 (r=.tuple #[.slice none 0 0,.int .i64 3]∧∃ L,24 < L.length∧R1 F C L)∨∃ (ps:Value) (L:List Par),r=.tuple #[ps,.int .i64 0]∧Ab u ps 2 (L.map An)∧L.length≤24∧R1 F C L
theorem Aba {u:PH}{v w:Value}{T:List (List UInt8×Nat)}{R:List Bk}{lab:Int}{K:Nat}(hX:F1 u v T R F lab)(ok:Bn u T R F lab)(hC:H7 u w C K)(sC:CFS C)(vC:CFV C)(hK:K≤100000)(hb:∀ p,C.s p≠0→Aar F lab p) :
  Fn0 prog 114 [v,w] u fun r u'=>Anx u' r F C:=by
 have hck:=fun (u':PH) (l:PH.le u u')=>Abk (hX.mono l) (ok.mono l);have hvd:=fun (u':PH) (l:PH.le u u')=>Ah4 (hC.mono l) sC vC (by omega);obtain ⟨xa,xc,xb,xd,xe,xf,rfl,hTL,hRL,hFL⟩:=id hX;obtain ⟨A,Q,a1,c1,a2,c2,rfl,hA,hQ,cA,cQ,kA,kQ⟩:=hC;have hf8:=ok.f2;refine Fn0.o func114 ?_;refine G.c call129 (hck u (PH.le_refl _)) ?_;rintro v1 u1 l1 rfl;refine G.nF 0 0 ?_;refine G.c call184 (hvd u1 l1) ?_;rintro v2 u2 l2 rfl;have le2:=l1.trans l2;refine G.pub 0 31 [.slice xa T.length xc,.slice xb R.length xd,.slice xe F.length xf,.int .i64 lab] (by kernel_rfl) (by kernel_rfl) ?_;intro b hb1 hb2;have hcb:∀ (m':PH),m' b=some (.cells [Value.slice xa T.length xc,.slice xb R.length xd,.slice xe F.length xf,.int .i64 lab].toArray 31 (0,0))→ElP m' b 0 (.agg #[.slice xa T.length xc,.slice xb R.length xd,.slice xe F.length xf,.int .i64 lab]):=fun m' h=>Aa3 (xs:=[.slice xa T.length xc,.slice xb R.length xd,.slice xe F.length xf,.int .i64 lab]) h rfl;obtain ⟨mb,hmb⟩:∃ mb:PH,mb=PH.mt.upd b (.cells [Value.slice xa T.length xc,.slice xb R.length xd,.slice xe F.length xf,.int .i64 lab].toArray 31 (0,0)):=⟨_,rfl⟩;have hmbb:mb b=some (.cells [Value.slice xa T.length xc,.slice xb R.length xd,.slice xe F.length xf,.int .i64 lab].toArray 31 (0,0)):=by rw [hmb]; exact Ac _ _ _
 rw [← hmb];refine G.callK _ _ (by kernel_rfl) call185 (Z2 (cap:=.pointer (some ⟨b,0,none⟩)) (hA.mono le2) (by omega) call186 fun x hx u' l'=>Akx (hcb mb hmbb) (hX.mono (le2.trans l')) (ok.mono (le2.trans l')) (hb x.1 (by obtain ⟨q1,q2⟩:=cA.val x hx; rw [← q1]; exact q2))) ?_;rintro v3 u3 l3 rfl;have le3:=le2.trans l3;refine G.lM (some 4) b 0 (.agg #[.slice xa T.length xc,.slice xb R.length xd,.slice xe F.length xf,.int .i64 lab]) (hcb mb hmbb) ?_;refine G.c call188 (Yc (hX.mono le3) (ok.mono le3)) ?_;intro v4 u4 l4 hN;obtain ⟨na,nc,rfl⟩:=hN.opn;have hni:(Ag (Cv F F.length)).length=(Cv F F.length).length:=by simp [Ag]
 rw [hni] at hN ⊢;have hnl:=Y2 F F.length;have le4:=le3.trans l4;refine G.l (ι:=Nat×(Option Addr×Nat)) (fun i=>[(2,.v (.pointer (some ⟨b,0,none⟩))),(3,.p 1 0),(6,.v (.slice i.2.1 ((Cv F F.length).take i.1).length i.2.2)),(28,.v (.slice na (Cv F F.length).length nc)),(29,.v (.int .i64 ((Cv F F.length).length:Int))),(30,.v (.int .i64 (i.1:Int)))])
  (fun _=>[(1,⟨37,[.v (.string (mkS (Af C.c))),.v (.slice a1 A.length c1),.v (.slice a2 Q.length c2)]⟩)])
  (fun i u' m'=>i.1≤(Cv F F.length).length∧Ae mb m' (.slice i.2.1 ((Cv F F.length).take i.1).length i.2.2) 79 2 ((((Cv F F.length).take i.1).map Iw).map An)) (fun i=>(Cv F F.length).length - i.1) (0,(none,0)) ⟨by omega,Ae.nil _ _ _⟩ ?_
 rintro J ⟨i,⟨pa,pc⟩⟩ hJ u5 m5 l5 ⟨hi,hP⟩;simp only at hi hP hJ;have le5:=le4.trans l5;by_cases hlt:i < (Cv F F.length).length
 ·refine G.lT (i:Int) ((Cv F F.length).length:Int) ?_;obtain ⟨k,hk⟩:∃ k,(Cv F F.length)[i]?=some k:=⟨_,List.getElem?_eq_getElem hlt⟩;have htk:(Cv F F.length).take (i+1)=(Cv F F.length).take i++[k]:=by rw [List.take_add_one,hk]; rfl
  obtain ⟨bb,ob,rfl,eb⟩:=Ab.at' (hN.mono l5) (j:=i) (e:=.int .i64 (k:Int)) (by simp [Ag,hk]);have htl:((Cv F F.length).take i).length=i:=by rw [List.length_take]; omega
  refine G.a bb ob (Cv F F.length).length nc i 1 hlt ?_;refine G.lU none bb (ob+i*1) (.int .i64 (k:Int)) eb ?_;refine G.B 79 2 24 (.agg #[.int .i64 0,.string (mkS [])]) [.agg #[.int .i64 (k:Int),.string (mkS [])]] (Gd (Iw k)) ?_;intro g6 u6 l6 e6;refine G.k 79 2 24 (.agg #[.int .i64 0,.string (mkS [])]) mb _ [An (Iw k)] _ g6 0 1 1 hP e6 (Gd (Iw k)) ?_;intro v7 m7 hA7;have e7:(((Cv F F.length).take i).map Iw).map An++[An (Iw k)]=(((Cv F F.length).take (i+1)).map Iw).map An:=by rw [htk]; simp
  rw [e7] at hA7;obtain ⟨a7,c7,rfl⟩:=hA7.shape;rw [List.length_map,List.length_map] at hA7 ⊢;refine G.i i ?_;exact G.b (hJ (i+1,(a7,c7)) _ _ _ cv (l5.trans l6) ⟨by dsimp only; omega,hA7⟩ (by dsimp only; omega))
 obtain rfl:i=(Cv F F.length).length:=by omega
 refine G.lF ((Cv F F.length).length:Int) ((Cv F F.length).length:Int) ?_;clear hJ;rw [List.take_length] at hP ⊢;have hP0:Ae mb m5 (.slice pa (Hr F++G2 F A 0).length pc) 79 2 ((Hr F++G2 F A 0).map An):=by
  have e1:G2 F A 0 = []:=rfl;have e2:(Hr F).length=(Cv F F.length).length:=by unfold Hr; simp
  rw [e1,List.append_nil,e2]; exact hP
 have e0:(Cv F F.length).length=(Hr F++G2 F A 0).length:=by
  have e1:G2 F A 0 = []:=rfl;have e2:(Hr F).length=(Cv F F.length).length:=by unfold Hr; simp
  rw [e1,List.append_nil,e2]
 rw [e0];have hnp:(Hr F).length≤8:=by unfold Hr; rw [List.length_map]; omega
 refine G.l (ι:=Nat×(Option Addr×Nat)) (fun i=>[(2,.v (.pointer (some ⟨b,0,none⟩))),(6,.v (.slice i.2.1 (Hr F++G2 F A i.1).length i.2.2)),(41,.v (.slice a1 A.length c1)),(42,.v (.int .i64 (A.length:Int))),(43,.v (.int .i64 (i.1:Int)))]) (fun _=>[])
  (fun i u' m'=>i.1≤A.length∧Ae mb m' (.slice i.2.1 (Hr F++G2 F A i.1).length i.2.2) 79 2 ((Hr F++G2 F A i.1).map An)) (fun i=>A.length - i.1) (0,(pa,pc)) ⟨by omega,hP0⟩ ?_
 clear hP hP0 e0;rintro J ⟨i,⟨pa,pc⟩⟩ hJ u6 m6 l6 ⟨hi,hP⟩;simp only at hi hP hJ;have le6:=le5.trans l6;have hhl:=Agt F A i;by_cases hlt:i < A.length
 ·refine G.lT (i:Int) (A.length:Int) ?_;obtain ⟨x,hAi⟩:∃ x,A[i]?=some x:=⟨_,List.getElem?_eq_getElem hlt⟩;have hs:=Ae5 (F:=F) hAi;have hbel:Aar F lab x.1:=hb x.1 (by obtain ⟨q1,q2⟩:=cA.val x (List.mem_of_getElem? hAi); rw [← q1]; exact q2);obtain ⟨ba,oa,rfl,ea⟩:=Ab.at' (hA.mono le6) (j:=i) (e:=A5 x) (by simp [hAi]);obtain ⟨⟨p1,p2⟩,q⟩:=x;simp only at hs hbel;refine G.a ba oa A.length c1 i 3 hlt ?_;refine G.lU (some 3) ba (oa+i*3) (.agg #[.int .i64 p1,.string (mkS p2),.string (mkS (Af q))]) ea ?_;have step:∀ {u7:PH},PH.le u6 u7→Mi F (p1,p2)=false→True:=fun _ _=>trivial;by_cases h0:0≤p1
  ·refine G.hT' p1 0 h0 ?_;obtain ⟨k,f,hk1,hkf⟩:∃ (k:Nat) (f:Ao),p1=(k:Int)∧F[k]?=some f:=by
    rcases hbel with ⟨h1,_⟩ | ⟨k,f,h1,hf,_⟩
    ·simp only at h1; omega
    ·exact ⟨k,f,h1,hf⟩
   subst hk1;have hkl:=(List.getElem?_eq_some_iff.1 hkf).1;have hmb6:m6 b=some (.cells [Value.slice xa T.length xc,.slice xb R.length xd,.slice xe F.length xf,.int .i64 lab].toArray 31 (0,0)):=hP.see hmbb;refine G.f 31 b 0 2 2 ?_;refine G.lM none b (0+2) (.slice xe F.length xf) ((hcb m6 hmb6).fld (j:=2) (xs:=#[.slice xa T.length xc,.slice xb R.length xd,.slice xe F.length xf,.int .i64 lab]) rfl rfl) ?_;obtain ⟨fb,fo,rfl,ef⟩:=Ab.at' (hFL.mono le6) (j:=k) (e:=B6 f) (by simp [hkf]);refine G.a fb fo F.length xf k 3 hkl ?_;obtain ⟨f1,f2,f3⟩:=f;refine G.f 144 fb (fo+k*3) 1 1 ?_;refine G.lU none fb (fo+k*3+1) (.int .i64 (f2:Int)) (ef.fld (j:=1) (xs:=#[.int .i64 (f1:Int),.int .i64 (f2:Int),.int .i64 (f3:Int)]) rfl rfl) ?_;have hot:Mi F ((k:Int),p2)=(f2 == 2):=by
    unfold Mi;simp only [Int.toNat_natCast,List.getD_eq_getElem?_getD,hkf,Option.getD_some];rw [decide_eq_true (by omega)]; rfl
   rw [hot] at hs;by_cases h2:f2=2
   ·rw [if_pos (by simpa using h2)] at hs;refine G.eT (f2:Int) 2 ?_;refine G.B 79 2 24 (.agg #[.int .i64 0,.string (mkS [])]) [.agg #[.int .i64 (k:Int),.string (mkS p2)]] (Gd ((k:Int),p2)) ?_;intro g7 u7 l7 e7;refine G.k 79 2 24 (.agg #[.int .i64 0,.string (mkS [])]) mb _ [An ((k:Int),p2)] _ g7 0 1 1 hP e7 (Gd ((k:Int),p2)) ?_;intro v8 m8 hA8;have e8:(Hr F++G2 F A i).map An++[An ((k:Int),p2)]=(Hr F++G2 F A (i+1)).map An:=by rw [hs]; simp
    rw [e8] at hA8;obtain ⟨a8,c8,rfl⟩:=hA8.shape;rw [List.length_map] at hA8 ⊢;refine G.i i ?_;exact G.b (hJ (i+1,(a8,c8)) _ _ _ cv (l6.trans l7) ⟨by dsimp only; omega,hA8⟩ (by dsimp only; omega))
   ·rw [if_neg (by simpa using h2)] at hs;refine G.eF (f2:Int) 2 ?_;refine G.i i ?_;rw [← hs] at hP ⊢;exact G.b (hJ (i+1,(pa,pc)) _ _ _ cv l6 ⟨by dsimp only; omega,hP⟩ (by dsimp only; omega))
  ·refine G.hF' p1 0 h0 ?_;have hot:Mi F (p1,p2)=false:=by
    unfold Mi;rw [decide_eq_false h0]; rfl
   rw [hot,if_neg (by simp)] at hs;refine G.i i ?_;rw [← hs] at hP ⊢;exact G.b (hJ (i+1,(pa,pc)) _ _ _ cv l6 ⟨by dsimp only; omega,hP⟩ (by dsimp only; omega))
 obtain rfl:i=A.length:=by omega
 refine G.lF (A.length:Int) (A.length:Int) ?_;clear hJ;have hnd:(Hr F++G2 F A A.length).Nodup:=Zd (cA.srt.nodup Dp);have hmm:∀ p,p∈Hr F++G2 F A A.length↔_:=fun p=>Afc (F:=F) cA (p:=p);have hll:(Hr F++G2 F A A.length).length≤1000000:=by rw [List.length_append]; omega
 generalize Hr F++G2 F A A.length=L at hP hnd hmm hll;by_cases h24:24 < L.length
 ·refine G.gT (L.length:Int) 24 ?_;refine G.drop PH.mt (by kernel_rfl) (PH.mt_le _) ?_;exact G.r (.tuple #[.slice none 0 0,.int .i64 3]) ⟨rfl,.inl ⟨rfl,Dw A8 L,by rw [(Gx (c:=A8) L).length_eq]; exact h24,P6 Dp hnd,fun p=>(Gx (c:=A8) L).mem_iff.trans (hmm p)⟩⟩
 ·refine G.gF (L.length:Int) 24 ?_;refine G.callA _ _ (by kernel_rfl) (by kernel_rfl) call189 (C2 m6).symm (Sj m6) (Ah5 hP hnd hll) ?_;rintro v7 u7 m7 l7 ⟨rfl,hS⟩ _;rw [C2];have hp:=Gx (c:=A8) L;have hsl:(Dw A8 L).length=L.length:=hp.length_eq;refine G.give _ _ _ (by kernel_rfl) hS (fun g=>.inl rfl) ?_;intro u8 l8 hL8;refine G.drop PH.mt (by kernel_rfl) (PH.mt_le _) ?_;exact G.r (.tuple #[.slice pa L.length pc,.int .i64 0]) ⟨rfl,.inr ⟨_,Dw A8 L,rfl,hL8,by omega,P6 Dp hnd,fun p=>hp.mem_iff.trans (hmm p)⟩⟩
end
section
open Go.RowKit Go.MapKept
variable {A:List (Par×Rat)}{C:CF}{F:List Ao}{i n:Nat}{p:Par}
def Ff (F:List Ao)(A:List (Par×Rat))(i:Nat):List Par:=if (F.getD i (0,0,0)).2.1=1 then [Iw i] else (A.map (·.1)).filter fun p=>p.1 == (i:Int)
def Fc (F:List Ao)(A:List (Par×Rat))(n:Nat):List Par:=(List.range n).flatMap (Ff F A)
theorem Pa (F:List Ao)(A:List (Par×Rat))(n:Nat):Fc F A (n+1)=Fc F A n++Ff F A n:=by
 unfold Fc;rw [List.range_succ,List.flatMap_append]; simp
theorem Pj (h:p∈Ff F A i):p.1=(i:Int):=by
 unfold Ff at h;split at h
 ·simp at h; subst h; rfl
 ·have:=(List.mem_filter.1 h).2;simpa using this
theorem Ah8 (h:p∈Fc F A n):0≤p.1∧p.1 < (n:Int):=by
 unfold Fc at h;obtain ⟨i,hi,hp⟩:=List.mem_flatMap.1 h;have:=Pj hp;simp at hi;omega
theorem Aiv {p q:Par}(h:p.1 < q.1):A8 p q < 0:=by
 unfold A8 Na;rw [if_pos h,if_pos (by omega)]; omega
theorem Vc {F:List Ao}{A:List (Par×Rat)}(hA:Ef A8 (A.map (·.1))):∀ n,Ef A8 (Fc F A n)
 | 0=>List.Pairwise.nil
 | n+1=>by
  rw [Pa];refine List.pairwise_append.2 ⟨Vc hA n,?_,fun p hp q hq=>?_⟩
  ·unfold Ff;split
   ·exact List.pairwise_singleton _ _
   ·exact hA.filter _
  ·have h1:=Ah8 hp;have h2:=Pj hq;exact Aiv (by omega)
theorem Ah0 (hA:Can A8 C.s A)(hk:∀ f∈F,f.2.1=1∨f.2.1=2):p∈Fc F A F.length↔(∃ (i:Nat) (f:Ao),p=Iw i∧F[i]?=some f∧f.2.1=1)∨(C.s p≠0∧∃ (i:Nat) (f:Ao),p.1=(i:Int)∧F[i]?=some f∧f.2.1=2):=by
 have hmem:p∈A.map (·.1)↔C.s p≠0:=by
  constructor
  ·intro h;obtain ⟨x,hx,rfl⟩:=List.mem_map.1 h;obtain ⟨h1,h2⟩:=hA.val x hx;rw [← h1]; exact h2
  ·intro h;exact Classical.byContradiction fun hh=>h (hA.out p hh)
 unfold Fc;rw [List.mem_flatMap];constructor
 ·rintro ⟨i,hi,hp⟩;have hil:i < F.length:=by simpa using hi
  have hFi:F[i]?=some F[i]:=List.getElem?_eq_getElem hil;have e:F.getD i (0,0,0)=F[i]:=by simp [List.getD_eq_getElem?_getD,hFi]
  have h1:=Pj hp;unfold Ff at hp;rw [e] at hp;split at hp
  ·rename_i h; simp at hp; exact .inl ⟨i,F[i],hp,hFi,h⟩
  ·rename_i h;exact .inr ⟨hmem.1 (List.mem_filter.1 hp).1,i,F[i],h1,hFi,(hk _ (List.getElem_mem hil)).resolve_left h⟩
 ·rintro (⟨i,f,rfl,hf,h1⟩ | ⟨h0,i,f,h1,hf,h2⟩)
  ·have e:F.getD i (0,0,0)=f:=by simp [List.getD_eq_getElem?_getD,hf]
   refine ⟨i,by simpa using (List.getElem?_eq_some_iff.1 hf).1,?_⟩;unfold Ff;rw [e,if_pos h1]; simp
  ·have e:F.getD i (0,0,0)=f:=by simp [List.getD_eq_getElem?_getD,hf]
   refine ⟨i,by simpa using (List.getElem?_eq_some_iff.1 hf).1,?_⟩;unfold Ff;rw [e,if_neg (by omega)];exact List.mem_filter.2 ⟨hmem.2 h0,by simpa using h1⟩
theorem Aj2 (n:Nat):(Fc F A n).length≤n*(A.length+1):=by
 induction n with
 | zero=>exact Nat.zero_le _
 | succ n ih =>
  rw [Pa,List.length_append,Nat.add_mul,Nat.one_mul];have:(Ff F A n).length≤A.length+1:=by
   unfold Ff;split
   ·simp
   ·refine Nat.le_trans (List.length_filter_le _ _) ?_;rw [List.length_map]; omega
  omega
def Fj (A:List (Par×Rat))(i n:Nat):List Par:=((A.take n).map (·.1)).filter fun p=>p.1 == (i:Int)
theorem Ace {x:Par×Rat}(h:A[n]?=some x):Fj A i (n+1)=if x.1.1=(i:Int) then Fj A i n++[x.1] else Fj A i n:=by
 unfold Fj;have e:A.take (n+1)=A.take n++[x]:=by rw [List.take_add_one,h]; rfl
 rw [e,List.map_append,List.filter_append];by_cases hh:x.1.1=(i:Int)
 ·rw [if_pos hh,List.map_cons,List.filter_cons_of_pos (by simpa using hh)]; rfl
 ·rw [if_neg hh,List.map_cons,List.filter_cons_of_neg (by simpa using hh)]; simp
theorem Af4 (A:List (Par×Rat))(i n:Nat):(Fj A i n).length≤A.length:=by
 unfold Fj;refine Nat.le_trans (List.length_filter_le _ _) ?_;rw [List.length_map,List.length_take]; omega
theorem Sa {u:PH}{v w:Value}{T:List (List UInt8×Nat)}{R:List Bk}{lab:Int}{K:Nat}(hX:F1 u v T R F lab)(ok:Bn u T R F lab)(hC:H7 u w C K)(sC:CFS C)(vC:CFV C)(hK:K≤10000)(hb:∀ p,C.s p≠0→Aar F lab p) :
  Fn0 prog 24 [v,w] u fun r u'=>Anx u' r F C:=by
 have hck:=fun (u':PH) (l:PH.le u u')=>Pf (hX.mono l) (ok.mono l);have hvd:=fun (u':PH) (l:PH.le u u')=>Aaz (hC.mono l) sC vC (by omega);have hkd:∀ f∈F,f.2.1=1∨f.2.1=2:=fun f hf=>by
  obtain ⟨n,k,_,h2,_⟩:=ok.feat.ok f hf;rcases h2 with ⟨h2,_⟩ | ⟨h2,_⟩
  ·exact .inl h2
  ·exact .inr h2
 obtain ⟨xa,xc,xb,xd,xe,xf,rfl,hTL,hRL,hFL⟩:=id hX;obtain ⟨A,Q,a1,c1,a2,c2,rfl,hA,hQ,cA,cQ,kA,kQ⟩:=hC;have hf8:=ok.f2;have hRl:∀ n,n≤8→(Fc F A n).length≤100000:=fun n hn=>by
  have:=Aj2 (F:=F) (A:=A) n;have h2:n*(A.length+1)≤8*(A.length+1):=Nat.mul_le_mul_right _ hn;omega
 refine Fn0.o func24 ?_;refine G.c call62 (hck u (PH.le_refl _)) ?_;rintro v1 u1 l1 rfl;refine G.nF 0 0 ?_;refine G.c call71 (hvd u1 l1) ?_;rintro v2 u2 l2 rfl;have le2:=l1.trans l2;refine G.l (ι:=Nat×(Option Addr×Nat)) (fun i=>[(2,.p 0 0),(3,.p 1 0),(7,.v (.slice i.2.1 (Fc F A i.1).length i.2.2)),(26,.v (.slice xe F.length xf)),(27,.v (.int .i64 (F.length:Int))),(28,.v (.int .i64 (i.1:Int)))])
  (fun _=>[(0,⟨31,[.v (.slice xa T.length xc),.v (.slice xb R.length xd),.v (.slice xe F.length xf),.v (.int .i64 lab)]⟩),(1,⟨37,[.v (.string (mkS (Af C.c))),.v (.slice a1 A.length c1),.v (.slice a2 Q.length c2)]⟩)])
  (fun i u' m'=>i.1≤F.length∧Ae PH.mt m' (.slice i.2.1 (Fc F A i.1).length i.2.2) 79 2 ((Fc F A i.1).map An)) (fun i=>F.length - i.1) (0,(none,0)) ⟨by omega,Ae.nil _ _ _⟩ ?_
 rintro J ⟨i,⟨pa,pc⟩⟩ hJ u3 m3 l3 ⟨hi,hP⟩;simp only at hi hP hJ;have le3:=le2.trans l3;have hln:=hRl i (by omega);by_cases hlt:i < F.length
 ·refine G.lT (i:Int) (F.length:Int) ?_;obtain ⟨f,hFi⟩:∃ f,F[i]?=some f:=⟨_,List.getElem?_eq_getElem hlt⟩;have hgd:F.getD i (0,0,0)=f:=by simp [List.getD_eq_getElem?_getD,hFi]
  have hs:=Pa F A i;obtain ⟨fb,fo,rfl,ef⟩:=Ab.at' (hFL.mono le3) (j:=i) (e:=B6 f) (by simp [hFi]);obtain ⟨f1,f2,f3⟩:=f;refine G.a fb fo F.length xf i 3 hlt ?_;refine G.lU (some 3) fb (fo+i*3) (.agg #[.int .i64 (f1:Int),.int .i64 (f2:Int),.int .i64 (f3:Int)]) ef ?_;by_cases hk1:f2=1
  ·have hp:Ff F A i = [Iw i]:=by unfold Ff; rw [hgd,if_pos hk1]
   rw [hp] at hs;refine G.eT (f2:Int) 1 ?_;refine G.B 79 2 24 (.agg #[.int .i64 0,.string (mkS [])]) [.agg #[.int .i64 (i:Int),.string (mkS [])]] (Gd (Iw i)) ?_;intro g6 u6 l6 e6;refine G.k 79 2 24 (.agg #[.int .i64 0,.string (mkS [])]) PH.mt ((Fc F A i).map An) [An (Iw i)] _ g6 0 1 1 hP e6 (Gd (Iw i)) ?_;intro v7 m7 hA7;rw [show (Fc F A i).map An++[An (Iw i)]=(Fc F A (i+1)).map An by rw [hs]; simp] at hA7;obtain ⟨a7,c7,rfl⟩:=hA7.shape;rw [List.length_map] at hA7 ⊢;refine G.i i ?_;exact G.b (hJ (i+1,(a7,c7)) _ _ _ cv (l3.trans l6) ⟨by dsimp only; omega,hA7⟩ (by dsimp only; omega))
  ·have hp:Ff F A i=Fj A i A.length:=by unfold Ff Fj; rw [hgd,if_neg hk1,List.take_length]
   rw [hp] at hs;refine G.eF (f2:Int) 1 ?_;have hP0:Ae PH.mt m3 (.slice pa (Fc F A i++Fj A i 0).length pc) 79 2 ((Fc F A i++Fj A i 0).map An):=by
    rw [show Fj A i 0 = [] from rfl,List.append_nil]; exact hP
   have e0:(Fc F A i).length=(Fc F A i++Fj A i 0).length:=by rw [show Fj A i 0 = [] from rfl,List.append_nil]
   rw [e0];refine G.l (ι:=Nat×(Option Addr×Nat)) (fun n=>[(2,.p 0 0),(3,.p 1 0),(7,.v (.slice n.2.1 (Fc F A i++Fj A i n.1).length n.2.2)),(8,.v (.int .i64 (i:Int))),(26,.v (.slice (some ⟨fb,fo,none⟩) F.length xf)),(27,.v (.int .i64 (F.length:Int))),(28,.v (.int .i64 (i:Int))),(42,.v (.slice a1 A.length c1)),(43,.v (.int .i64 (A.length:Int))),(44,.v (.int .i64 (n.1:Int)))])
    (fun _=>[(0,⟨31,[.v (.slice xa T.length xc),.v (.slice xb R.length xd),.v (.slice (some ⟨fb,fo,none⟩) F.length xf),.v (.int .i64 lab)]⟩),(1,⟨37,[.v (.string (mkS (Af C.c))),.v (.slice a1 A.length c1),.v (.slice a2 Q.length c2)]⟩)])
    (fun n u' m'=>n.1≤A.length∧Ae PH.mt m' (.slice n.2.1 (Fc F A i++Fj A i n.1).length n.2.2) 79 2 ((Fc F A i++Fj A i n.1).map An)) (fun n=>A.length - n.1) (0,(pa,pc)) ⟨by omega,hP0⟩ ?_
   clear hP hP0 e0;rintro J2 ⟨n,⟨pa,pc⟩⟩ hJ2 u4 m4 l4 ⟨hn,hP⟩;simp only at hn hP hJ2;have hpl:=Af4 A i n;by_cases hnl:n < A.length
   ·refine G.lT (n:Int) (A.length:Int) ?_;obtain ⟨x,hAn⟩:∃ x,A[n]?=some x:=⟨_,List.getElem?_eq_getElem hnl⟩;have hps:=Ace (i:=i) hAn;obtain ⟨ba,oa,rfl,ea⟩:=Ab.at' (hA.mono (le3.trans l4)) (j:=n) (e:=A5 x) (by simp [hAn]);obtain ⟨⟨p1,p2⟩,q⟩:=x;simp only at hps;refine G.a ba oa A.length c1 n 3 hnl ?_;refine G.lU (some 3) ba (oa+n*3) (.agg #[.int .i64 p1,.string (mkS p2),.string (mkS (Af q))]) ea ?_;by_cases he:p1=(i:Int)
    ·rw [if_pos he] at hps;refine G.eT' p1 (i:Int) he ?_;refine G.B 79 2 24 (.agg #[.int .i64 0,.string (mkS [])]) [.agg #[.int .i64 p1,.string (mkS p2)]] (Gd (p1,p2)) ?_;intro g6 u6 l6 e6;refine G.k 79 2 24 (.agg #[.int .i64 0,.string (mkS [])]) PH.mt ((Fc F A i++Fj A i n).map An) [An (p1,p2)] _ g6 0 1 1 hP e6 (Gd (p1,p2)) ?_;intro v7 m7 hA7;rw [show (Fc F A i++Fj A i n).map An++[An (p1,p2)]=(Fc F A i++Fj A i (n+1)).map An by rw [hps]; simp] at hA7;obtain ⟨a7,c7,rfl⟩:=hA7.shape;rw [List.length_map] at hA7 ⊢;refine G.i n ?_;exact G.b (hJ2 (n+1,(a7,c7)) _ _ _ cv (l4.trans l6) ⟨by dsimp only; omega,hA7⟩ (by dsimp only; omega))
    ·rw [if_neg he] at hps;refine G.eF' p1 (i:Int) he ?_;refine G.i n ?_;rw [← hps] at hP ⊢;exact G.b (hJ2 (n+1,(pa,pc)) _ _ _ cv l4 ⟨by dsimp only; omega,hP⟩ (by dsimp only; omega))
   ·obtain rfl:n=A.length:=by omega
    refine G.lF (A.length:Int) (A.length:Int) ?_;refine G.i i ?_;rw [← hs] at hP ⊢;exact G.b (hJ (i+1,(pa,pc)) _ _ _ cv (l3.trans l4) ⟨by dsimp only; omega,hP⟩ (by dsimp only; omega))
 obtain rfl:i=F.length:=by omega
 refine G.lF (F.length:Int) (F.length:Int) ?_;clear hJ;have hmm:∀ p,p∈Fc F A F.length↔_:=fun p=>Ah0 (F:=F) cA hkd (p:=p);have hsrt:Ef A8 (Fc F A F.length):=Vc cA.srt _;generalize hLL:Fc F A F.length=L at hP hmm hsrt hln;have hin:∀ x∈A,(x.1.1 = -1∧0≤lab∧x.1.2 = [])∨(0≤x.1.1∧x.1∈L):=fun x hx=>by
  obtain ⟨q1,q2⟩:=cA.val x hx;have hne:C.s x.1≠0:=by rw [← q1]; exact q2
  rcases hb x.1 hne with h | ⟨k,f,h1,hf,h3⟩
  ·exact .inl h
  ·refine .inr ⟨by omega,(hmm x.1).2 ?_⟩;rcases hkd f (List.mem_of_getElem? hf) with h4 | h4
   ·refine .inl ⟨k,f,?_,hf,h4⟩;obtain ⟨⟨p1,p2⟩,q⟩:=x;simp only at h1 h3;rw [h1,h3.resolve_left (by omega)]; rfl
   ·exact .inr ⟨hne,k,f,h1,hf,h4⟩
 refine G.l (ι:=Nat) (fun i=>[(2,.p 0 0),(7,.v (.slice pa L.length pc)),(61,.v (.slice a1 A.length c1)),(62,.v (.int .i64 (A.length:Int))),(63,.v (.int .i64 (i:Int)))])
  (fun _=>[(0,⟨31,[.v (.slice xa T.length xc),.v (.slice xb R.length xd),.v (.slice xe F.length xf),.v (.int .i64 lab)]⟩)])
  (fun i u' m'=>i≤A.length∧m'=m3) (fun i=>A.length - i) 0 ⟨by omega,rfl⟩ ?_
 rintro J i hJ u4 m4 l4 ⟨hi4,rfl⟩;have le4:=le3.trans l4;by_cases hlt4:i < A.length
 ·refine G.lT (i:Int) (A.length:Int) ?_;obtain ⟨x,hAi⟩:∃ x,A[i]?=some x:=⟨_,List.getElem?_eq_getElem hlt4⟩;have hx:=hin x (List.mem_of_getElem? hAi);obtain ⟨ba,oa,rfl,ea⟩:=Ab.at' (hA.mono le4) (j:=i) (e:=A5 x) (by simp [hAi]);obtain ⟨⟨p1,p2⟩,q⟩:=x;simp only at hx;refine G.a ba oa A.length c1 i 3 hlt4 ?_;refine G.lU (some 3) ba (oa+i*3) (.agg #[.int .i64 p1,.string (mkS p2),.string (mkS (Af q))]) ea ?_;rcases hx with ⟨h1,h2,h3⟩ | ⟨h1,h2⟩
  ·refine G.eT' p1 (-1) h1 ?_;refine G.hT' lab 0 h2 ?_;refine G.q p2 [] h3 ?_;refine G.i i ?_;exact G.b (hJ (i+1) _ _ _ cv l4 ⟨by omega,rfl⟩ (by omega))
  ·refine G.eF p1 (-1) ?_;refine G.l (ι:=Nat×Bool) (fun n=>[(2,.p 0 0),(7,.v (.slice pa L.length pc)),(13,.p 21002 0),(14,.v (.bool n.2)),(61,.v (.slice (some ⟨ba,oa,none⟩) A.length c1)),(62,.v (.int .i64 (A.length:Int))),(63,.v (.int .i64 (i:Int))),(82,.v (.slice pa L.length pc)),(83,.v (.int .i64 (L.length:Int))),(84,.v (.int .i64 (n.1:Int)))])
    (fun _=>[(0,⟨31,[.v (.slice xa T.length xc),.v (.slice xb R.length xd),.v (.slice xe F.length xf),.v (.int .i64 lab)]⟩),(21002,⟨81,[.v (.int .i64 p1),.v (.string (mkS p2)),.v (.string (mkS (Af q)))]⟩)])
    (fun n u' m'=>n.1≤L.length∧m'=m4∧n.2=(L.take n.1).any fun y=>decide (y=(p1,p2))) (fun n=>L.length - n.1) (0,false) ⟨by omega,rfl,rfl⟩ ?_
   rintro J2 ⟨n,fnd⟩ hJ2 u5 m5 l5 ⟨hn,rfl,hf⟩;simp only at hn hf hJ2;by_cases hnl:n < L.length
   ·refine G.lT (n:Int) (L.length:Int) ?_;obtain ⟨y,hLn⟩:∃ y,L[n]?=some y:=⟨_,List.getElem?_eq_getElem hnl⟩;have hany:((L.take (n+1)).any fun y=>decide (y=(p1,p2)))=(((L.take n).any fun y=>decide (y=(p1,p2))) || decide (y=(p1,p2))):=by
     rw [List.take_add_one,hLn,List.any_append]; simp
    obtain ⟨gs,cs,hgc⟩:=hP.ptr (fun e=>by
     have:L.length=0:=by simpa using congrArg List.length e
     omega)
    simp only [Value.slice.injEq] at hgc;obtain ⟨rfl,_,rfl⟩:=hgc;have hel:ElP m5 gs (0+n*2) (An y):=hP.el (by rw [List.getElem?_map,hLn]; rfl);refine G.a gs 0 L.length pc n 2 hnl ?_;refine G.lM (some 2) gs (0+n*2) (.agg #[.int .i64 y.1,.string (mkS y.2)]) hel ?_;cases fnd with
    | true =>
     refine G.i n ?_;rw [← hf,Bool.true_or] at hany;exact G.b (hJ2 (n+1,true) _ _ _ cv l5 ⟨by dsimp only; omega,rfl,hany.symm⟩ (by dsimp only; omega))
    | false =>
     rw [← hf,Bool.false_or] at hany;by_cases he:y=(p1,p2)
     ·rw [decide_eq_true he] at hany;refine G.eqAgg 79 #[.int .i64 y.1,.string (mkS y.2)] #[.int .i64 p1,.string (mkS p2)] true (by kernel_rfl) (by kernel_rfl) (by kernel_rfl) (fun w=>by rw [← decide_eq_true he]; exact Bt.eq y (p1,p2) w) ?_;refine G.i n ?_;exact G.b (hJ2 (n+1,true) _ _ _ cv l5 ⟨by dsimp only; omega,rfl,hany.symm⟩ (by dsimp only; omega))
     ·rw [decide_eq_false he] at hany;refine G.eqAgg 79 #[.int .i64 y.1,.string (mkS y.2)] #[.int .i64 p1,.string (mkS p2)] false (by kernel_rfl) (by kernel_rfl) (by kernel_rfl) (fun w=>by rw [← decide_eq_false he]; exact Bt.eq y (p1,p2) w) ?_;refine G.i n ?_;exact G.b (hJ2 (n+1,false) _ _ _ cv l5 ⟨by dsimp only; omega,rfl,hany.symm⟩ (by dsimp only; omega))
   ·obtain rfl:n=L.length:=by omega
    refine G.lF (L.length:Int) (L.length:Int) ?_;have hall:((L.take L.length).any fun y=>decide (y=(p1,p2)))=true:=by
     rw [List.take_length]; exact List.any_eq_true.2 ⟨_,h2,by simp⟩
    rw [hall] at hf;subst hf;refine G.i i ?_;exact G.b (hJ (i+1) _ _ _ cv (l4.trans l5) ⟨by omega,rfl⟩ (by omega))
 obtain rfl:i=A.length:=by omega
 refine G.lF (A.length:Int) (A.length:Int) ?_;by_cases h24:24 < L.length
 ·refine G.gT (L.length:Int) 24 ?_;refine G.drop PH.mt (by kernel_rfl) (PH.mt_le _) ?_;exact G.r (.tuple #[.slice none 0 0,.int .i64 3]) ⟨rfl,.inl ⟨rfl,L,h24,hsrt,hmm⟩⟩
 ·refine G.gF (L.length:Int) 24 ?_;refine G.give _ _ _ (by kernel_rfl) hP (fun g=>.inl rfl) ?_;intro u8 l8 hL8;exact G.r (.tuple #[.slice pa L.length pc,.int .i64 0]) ⟨rfl,.inr ⟨_,L,rfl,hL8,by omega,hsrt,hmm⟩⟩
end
section
variable [Cc] [Dy]
open Go.RowKit
section
variable {P:Program} {id:Nat} {ops:Array Oper} {dr:Bool} {Fin:S→PH→PH→Prop} {c:Cx} {Q:Exit→Act→World→Prop}
theorem Ob.wpAny3 {s0:S}(hL0:La s0)(hE:(List.range ops.size).all (Hq ops)=true)(hF:∀ s u m ρ a w,Fin s u m→Rel c s u m ρ a w→Q .normal a w){p q r:Nat}{post:List Nat}(hpost:∀ y∈post,bef ops ops.size y p=true)(hrq:bef ops ops.size r q=true)(hpq:dir ops p q=false)(hpr:dir ops p r=false) :
  ∀ (n:Nat) (pre:List Nat) (listed:Array Bool) {s:S} {u m:PH} {ρ:Nat→Nat} {a:Act} {w:World},pre.length+(post.length+3)=n→H8 ops listed (pre++p::q::r::post) →
   (pre++p::post).Pairwise (fun x y=>Eg ops s0 x y=true)→(pre++q::r::post).Pairwise (fun x y=>Eg ops s0 x y=true)→Ei ops s0 s →
   Ob P id ops true (fun s u m=>Ob P id ops true Fin (p::q::r::post) s u m∧Ob P id ops true (fun s u m=>Ob P id ops true Fin (p::r::post) s u m∧Ob P id ops true Fin (r::p::post) s u m) [q] s u m) pre s u m→Rel c s u m ρ a w→Go.wpAny P .any ops Q n listed a w:=by
 intro n;induction n with
 | zero=>intro pre listed s u m ρ a w hlen; omega
 | succ n ih =>
  intro pre listed s u m ρ a w hlen hLeft hP1 hP2 hag hO hr;refine ⟨fun hnil=>?_,fun i hi=>?_⟩
  ·exfalso;cases pre with
   | nil =>
    have:=hLeft.first hE fun x hx=>by
     simp only [List.mem_cons] at hx;rcases hx with rfl | rfl | hx
     ·exact hpq
     ·exact hpr
     ·exact Dc (List.rel_of_pairwise_cons hP1 hx)
    rw [hnil] at this; cases this
   | cons t T' =>
    have:=H8.first (t:=t) (T:=T'++p::q::r::post) hLeft hE fun x hx=>by
     simp only [List.mem_append,List.mem_cons] at hx;rcases hx with hx | rfl | rfl | rfl | hx
     ·exact Dc (List.rel_of_pairwise_cons hP1 (by simp [hx]))
     ·exact Dc (List.rel_of_pairwise_cons hP1 (by simp))
     ·exact Dc (List.rel_of_pairwise_cons hP2 (by simp))
     ·exact Dc (List.rel_of_pairwise_cons hP2 (by simp))
     ·exact Dc (List.rel_of_pairwise_cons hP1 (by simp [hx]))
    rw [hnil] at this; cases this
  ·obtain ⟨h1,h2,o,ho,hpre⟩:=O5.1 hi;have hm:=(hLeft.mem i h1).1 h2;simp only [List.mem_append,List.mem_cons] at hm;rcases hm with hm | hm | hm | hm | hm
   ·obtain ⟨A,B,rfl⟩:=List.append_of_mem hm;have hLeft':H8 ops listed (A++i::(B++p::q::r::post)):=by
     rw [List.append_assoc] at hLeft; exact hLeft
    have hP1':(A++i::(B++p::post)).Pairwise (fun x y=>Eg ops s0 x y=true):=by
     rw [List.append_assoc] at hP1; exact hP1
    have hP2':(A++i::(B++q::r::post)).Pairwise (fun x y=>Eg ops s0 x y=true):=by
     rw [List.append_assoc] at hP2; exact hP2
    have hsw:=hLeft'.swaps (A:=A) (s0:=s0) (fun x hx=>by simp [hx]) ho hpre fun x hx=>(List.pairwise_append.1 hP1').2.2 x hx i (by simp);have hO':=Ob.bubble hL0 A hsw hr.lv hag hO;refine wpOp_mono (fun a' w' ⟨s',u',m',ρ',r1,ra,r2⟩=>?_) (hO'.step (Q:=Q) hr);refine ih (A++B) _ (by simp at hlen ⊢; omega) (by rw [List.append_assoc]; exact hLeft'.next ho hpre) ?_ ?_ (hag.trans ra) r2 r1
    ·rw [List.append_assoc];exact hP1'.sublist (List.Sublist.append_left (List.sublist_cons_self i _) A)
    ·rw [List.append_assoc];exact hP2'.sublist (List.Sublist.append_left (List.sublist_cons_self i _) A)
   ·subst hm;have hsw:=hLeft.swaps (A:=pre) (s0:=s0) (fun x hx=>by simp [hx]) ho hpre fun x hx=>(List.pairwise_append.1 hP1).2.2 x hx i (by simp);have hO':=Ob.bubble hL0 pre hsw hr.lv hag (Ob.append (l2:=i::q::r::post) (hO.fin fun s u m h=>h.1));refine wpOp_mono (fun a' w' ⟨s',u',m',ρ',r1,ra,r2⟩=>?_) (hO'.step (Q:=Q) hr);exact (hLeft.next ho hpre).any hL0 hE hF (by simp; omega) hP2 (hag.trans ra) r2 r1
   ·subst hm;have hLeft':H8 ops listed (pre++i::p::r::post):=hLeft.perm ((List.Perm.swap i p (r::post)).append_left pre);have hsw:=hLeft'.swaps (A:=pre) (s0:=s0) (fun x hx=>by simp [hx]) ho hpre fun x hx=>(List.pairwise_append.1 hP2).2.2 x hx i (by simp);have hO':=Ob.bubble (B:=[]) hL0 pre hsw hr.lv hag (Ob.append (l2:=[i]) (hO.fin fun s u m h=>h.2));refine wpOp_mono (fun a' w' ⟨s',u',m',ρ',r1,ra,r2⟩=>?_) (hO'.step (Q:=Q) hr);rw [List.append_nil] at r2;exact Ob.wpAny2 hL0 hE hF hpost hpr n pre _ (by omega) (hLeft'.next ho hpre) hP1 (hP2.sublist (List.Sublist.append_left (List.sublist_cons_self i _) pre)) (hag.trans ra) r2 r1
   ·exfalso;subst hm;exact hLeft.no (x:=q) (by simp) (F4 hLeft.cl ops.size i (fun o' ho'=>by rw [ho] at ho'; obtain rfl:=Option.some.inj ho'; exact hpre) hrq)
   ·exfalso;exact hLeft.no (x:=p) (by simp) (F4 hLeft.cl ops.size i (fun o' ho'=>by rw [ho] at ho'; obtain rfl:=Option.some.inj ho'; exact hpre) (hpost i hm))
def Ag2 (ops:Array Oper)(s:S)(pre:List Nat)(p q r:Nat)(post:List Nat):Bool :=
 Nat.beq (pre.length+(post.length+3)) ops.size && (List.range ops.size).all (fun i=>(pre++p::q::r::post).contains i) && (pre++p::q::r::post).all (fun i=>Nat.blt i ops.size) && Lk ops s (pre++p::post) && Lk ops s (pre++q::r::post) &&
  (List.range ops.size).all (Hq ops) && post.all (fun y=>bef ops ops.size y p) && !dir ops p q && !dir ops p r && !Nat.beq p q && !Nat.beq p r && bef ops ops.size r q
end
section
variable {P:Program} {fn:Func} {Post:B0}
theorem Sym.reg_three (hm:P.follows .mixedOrders=true){id:Nat}{ops:Array Oper}{pre post:List Nat}{p q r:Nat}{s:S}(hB:Ag2 ops s pre p q r post=true){k:List KI}{u m:PH}
  (h:Ob P id ops true (fun s u m=>Ob P id ops true (Oq P fn Post k) (p::q::r::post) s u m∧Ob P id ops true (fun s u m=>Ob P id ops true (Oq P fn Post k) (p::r::post) s u m∧Ob P id ops true (Oq P fn Post k) (r::p::post) s u m) [q] s u m) pre s u m):Oq P fn Post (.code (.region id ops true)::k) s u m:=by
 intro c ρ a w hm0 hr;simp only [Hs,Exit.then];unfold Ag2 at hB;simp only [Bool.and_eq_true,Bool.not_eq_true'] at hB;obtain ⟨⟨⟨⟨⟨⟨⟨⟨⟨⟨⟨b1,b2⟩,b3⟩,b4⟩,b5⟩,b6⟩,b7⟩,b8⟩,b9⟩,b10⟩,b11⟩,b12⟩:=hB;have b1:=Nat.eq_of_beq_eq_true b1;rw [List.all_eq_true] at b2 b3 b7;have P1:=D4 b4;have P2:=D4 b5;have n1:=Fb P1;have n2:=Fb P2;have hne:p≠q:=fun e=>by rw [e] at b10; simp at b10
 have hne2:p≠r:=fun e=>by rw [e] at b11; simp at b11
 refine wp_region_any hm ?_;refine Ob.wpAny3 (c:=c) hr.lv b6 (fun s u m ρ a w hf hr=>hf c ρ a w hm0 hr) b7 b12 b8 b9 _ pre _ b1 ⟨by simp,fun i hi=>?_,fun i hi=>Nat.blt_eq ▸ b3 i hi,?_,fun i hi=>?_⟩ P1 P2 (Ei.refl _ _) h hr.drew
 ·have:=b2 i (by simpa using hi);rw [List.contains_iff_mem] at this;simp only [Array.getD_eq_getD_getElem?,Array.getElem?_replicate,hi,if_true,Option.getD_some];exact ⟨fun _=>this,fun _=>trivial⟩
 ·rw [List.nodup_append] at n1 n2 ⊢;simp only [List.nodup_cons,List.mem_cons] at n1 n2 ⊢;obtain ⟨a1,⟨a2,a3⟩,a4⟩:=n1;obtain ⟨c1,c2,c4⟩:=n2;refine ⟨a1,⟨fun e=>?_,c2⟩,fun x hx y hy=>?_⟩
  ·rcases e with e | e | e
   ·exact hne e
   ·exact hne2 e
   ·exact a2 e
  ·rcases hy with rfl | hy
   ·exact a4 x hx _ (.inl rfl)
   ·exact c4 x hx _ hy
 ·exfalso;simp only [Array.getD_eq_getD_getElem?] at hi;by_cases hlt:i < ops.size
  ·simp [hlt] at hi
  ·rw [Array.getElem?_eq_none (by simp; omega)] at hi; simp at hi
def Ahj (P:Program)(pre:List Nat)(p q r:Nat)(post:List Nat)(st:List KI×S):Bool:=match st with
 | (.code (.region id ops true)::k,s)=>Ag2 ops s pre p q r post && (Qi P id ops pre s).isSome
 | _=>false
end
section rules
variable {P:Program} [Ba P] {fn:Func} {Post:B0} {st:List KI×S} {u m:PH}
theorem Aag (e:TypeId)(sz bt:Nat)(z:Value)(es:List Value)(ho:A3 sz es)(hzs:z.cells.size=sz)(hsz:0 < sz)(hn0:0 < es.length)(hb:es.length*sz≤16777216)(env:Operand→Value)(o:Oper)(hview:A7 P env o.op=.buildS (some (e,sz,bt,z)) es.length (es.zipIdx.map fun p=>(p.2,p.1)))(w:World)(hgd:Bx u m w) :
  D3 P env o w fun v' w'=>∃ u' m',Bx u' m' w'∧Bz u m w u' m' w'∧(m'=m∧∃ g,v'=.slice (some ⟨g,0,none⟩) es.length es.length∧El u' g 0 sz es):=by
 obtain ⟨t,qs,e1,e2,hi⟩:=E1 hview;obtain ⟨dst,opp,type,pos,after,guard⟩:=o;simp only at e1; subst e1;obtain ⟨hu,i,hi1,hi2,rfl,rfl⟩:=Df hi;obtain ⟨g1,g2,g3,g4⟩:=hgd.newU (.cells (Az es).toArray e (0,0));have hfl:=A2 ho;have hne:es.length*i.size≠0:=by have:=Nat.mul_pos hn0 hsz; omega
 have hfill:=Oz es 0 ((Array.range (es.length*i.size)).map (z.cells[· % z.cells.size]!)) ho (by simp);have e0:((Array.range (es.length*i.size)).map (z.cells[· % z.cells.size]!)).toList.drop (es.length*i.size) = []:=by
  apply List.drop_eq_nil_of_le; simp
 simp only [Nat.zero_mul,List.take_zero,List.nil_append,Nat.zero_add,e0,List.append_nil] at hfill;refine Bq (w':=w.alloc (.cells (Az es).toArray e (0,0))) (v:=.slice (some ⟨w.heap.size,0,none⟩) es.length es.length) ?_ ⟨_,m,g1,g2,rfl,_,rfl,?_⟩
 ·simp only [execOp,e2];simp [Instr.buildSlice,run_underlying hu,sizeOf,typeInfo,zeroValue,hi1,hi2,hne,hfill,newRow,show ¬ 16777216 < es.length*i.size by omega]
 ·intro j x hj ii y hy;refine ⟨_,_,_,Ac _ _ _,?_⟩;rw [List.getElem?_toArray,Nat.zero_add];exact Gm ho hj hy
theorem G.three (pre:List Nat)(p q r:Nat)(post:List Nat)(e:TypeId)(sz bt:Nat)(z:Value)(es:List Value)(h:Ahj P pre p q r post (adv P st)=true)(hq:Al P (Kz P pre (q::p::r::post) (adv P st))=.buildS (some (e,sz,bt,z)) es.length (es.zipIdx.map fun p=>(p.2,p.1)))(ho:A3 sz es)(hzs:z.cells.size=sz)(hsz:0 < sz)(hn0:0 < es.length)(hb:es.length*sz≤16777216)
  (k1:G P fn Post (Kz P pre (p::q::r::post) (adv P st)) u m)
  (k2:∀ g u',PH.le u u'→El u' g 0 sz es→G P fn Post (nx (Kz P pre (q::p::r::post) (adv P st)) (.slice (some ⟨g,0,none⟩) es.length es.length)) u' m∧G P fn Post (nx (Kz P pre (q::r::p::post) (adv P st)) (.slice (some ⟨g,0,none⟩) es.length es.length)) u' m):G P fn Post st u m:=by
 refine G.stp ⟨?_⟩;generalize adv P st=st' at h hq k1 k2;unfold Ahj at h;split at h
 ·rename_i id ops k s;rw [Bool.and_eq_true] at h;obtain ⟨h1,h2⟩:=h;obtain ⟨s',hs'⟩:=Option.isSome_iff_exists.1 h2;have e0:∀ l,Kz P pre l (.code (.region id ops true)::k,s)=(.reg id ops true l::k,s'):=fun l=>by unfold Kz; simp only [hs']
  rw [e0] at k1 hq;rw [e0,e0] at k2;obtain ⟨id',ops',dr',i',l',kk',s'',o,e1,ho',hg,hd,hv,hs,hview,hnx⟩:=Ho hq (by simp);simp only [Prod.mk.injEq,List.cons.injEq,KI.reg.injEq] at e1;obtain ⟨⟨⟨rfl,rfl,rfl,rfl,rfl⟩,rfl⟩,rfl⟩:=e1;refine Sym.reg_three Ba.mx h1 (Ob.autos hs' ⟨k1.out,?_⟩);refine Ob.big (K:=fun v' u' m'=>m'=m∧∃ g,v'=.slice (some ⟨g,0,none⟩) es.length es.length∧El u' g 0 sz es) ho' hg hd hv hs (by
   obtain ⟨t,qs,e2,_⟩:=E1 hview;rw [e2]; rfl) (fun v u' m' hK=>.inl (by rw [hK.1]; exact PH.le_refl _)) (fun w hgd=>Aag e sz bt z es ho hzs hsz hn0 hb _ o hview w hgd) (fun v u' m' hle hK=>?_)
  obtain ⟨rfl,g,rfl,hE⟩:=hK;obtain ⟨c1,c2⟩:=k2 g u' hle hE;have n1:nx (.reg id ops true (q::p::r::post)::k,s') (.slice (some ⟨g,0,none⟩) es.length es.length)=(.reg id ops true (p::r::post)::k,s'.put o.dst (.v (.slice (some ⟨g,0,none⟩) es.length es.length))):=by
   unfold nx; simp only [ho']
  have n2:nx (.reg id ops true (q::r::p::post)::k,s') (.slice (some ⟨g,0,none⟩) es.length es.length)=(.reg id ops true (r::p::post)::k,s'.put o.dst (.v (.slice (some ⟨g,0,none⟩) es.length es.length))):=by
   unfold nx; simp only [ho']
  rw [n1] at c1;rw [n2] at c2;exact .nil ⟨c1.out,c2.out⟩
 ·cases h
end rules
end
section
open Go.RowKit Go.MapKept
variable {M:List (Par×Rat)}{P:List Par}{m0:Rat}{u:PH}{v:Value}{x:Par×Rat}
structure Jy (u:PH)(v:Value)(m0:Rat)(M:List (Par×Rat)):Prop where
 val:∃ a c,v=.agg #[.string (mkS (Af m0)),.slice a M.length c]∧Ab u (.slice a M.length c) 3 (M.map A5)
theorem Jy.mono {u u':PH}{v:Value}{m0:Rat}{M:List (Par×Rat)}(h:Jy u v m0 M)(hl:PH.le u u'):Jy u' v m0 M:=by
 obtain ⟨a,c,e,h1⟩:=h.val;exact ⟨a,c,e,h1.mono hl⟩
structure Ew (P:List Par)(m0:Rat)(M:List (Par×Rat)):Prop where
 c:Tx m0
 t:∀ x∈M,Tx x.2
 srt:Ef A8 (M.map (·.1))
 sub:∀ x∈M,x.1∈P
 len:M.length≤P.length
def cfE (m0:Rat)(M:List (Par×Rat)):Option Par→Rat
 | none=>m0
 | some p=>Bi p M
theorem Wq (hP:Ab u v 2 (P.map An))(hs:Ef A8 P)(hl:P.length≤1000000) :
  Fn0 prog 131 [v] u fun r _=>r=.bool true:=by
 obtain ⟨pa,pc,rfl⟩:=hP.opn;rw [List.length_map] at hP ⊢;refine Fn0.o func131 ?_;refine G.l (ι:=Nat) (fun i=>[(0,.v (.slice pa P.length pc)),(3,.v (.int .i64 (i:Int)))]) (fun _=>[])
  (fun i u' m'=>1≤i∧m'=PH.mt) (fun i=>P.length - i) 1 ⟨by omega,rfl⟩ ?_
 rintro J i hJ u2 m2 l2 ⟨hi,rfl⟩;by_cases hlt:i < P.length
 ·refine G.lT (i:Int) (P.length:Int) ?_;have hP2:=hP.mono l2;have hPi:P[i]?=some P[i]:=List.getElem?_eq_getElem hlt;have hPj:P[i - 1]?=some (P[i - 1]'(by omega)):=List.getElem?_eq_getElem (by omega);have hcm:A8 (P[i - 1]'(by omega)) P[i] < 0:=List.pairwise_iff_getElem.1 hs (i - 1) i (by omega) hlt (by omega);obtain ⟨ba,oa,e0,ea⟩:=Ab.at' hP2 (j:=i) (e:=An P[i]) (by simp [hPi]);obtain ⟨ba',oa',e0',eb⟩:=Ab.at' hP2 (j:=i - 1) (e:=An (P[i - 1]'(by omega))) (by simp [hPj]);rw [e0] at e0';cases e0';subst e0;refine G.s (i:Int) 1 ((i - 1:Nat):Int) ?_;refine G.a ba oa P.length pc (i - 1) 2 (by omega) ?_;refine G.lU (some 2) ba (oa+(i - 1)*2) (An (P[i - 1]'(by omega))) eb ?_;refine G.a ba oa P.length pc i 2 hlt ?_;refine G.lU (some 2) ba (oa+i*2) (An P[i]) ea ?_;refine G.c call206 (U5 _ _ true (decide_eq_true hcm)) ?_;rintro v3 u3 l3 rfl;refine G.i i ?_;exact G.b (hJ (i+1) _ _ _ cv (l2.trans l3) ⟨by omega,rfl⟩ (by omega))
 ·refine G.lF (i:Int) (P.length:Int) ?_;exact G.r (.bool true) ⟨rfl,rfl⟩
theorem Sd (h:Jy u v m0 M)(hl:M.length≤100000) :
  Fn0 prog 128 [v] u fun r u'=>Ab u' r 2 ((M.map (·.1)).map An):=by
 obtain ⟨a,c,rfl,hM⟩:=h.val;refine Fn0.o func128 ?_;refine G.l (ι:=Nat×(Option Addr×Nat)) (fun i=>[(3,.v (.slice i.2.1 (M.take i.1).length i.2.2)),(7,.v (.slice a M.length c)),(8,.v (.int .i64 (M.length:Int))),(9,.v (.int .i64 (i.1:Int)))]) (fun _=>[])
  (fun i u' m'=>i.1≤M.length∧Ae PH.mt m' (.slice i.2.1 (M.take i.1).length i.2.2) 79 2 (((M.take i.1).map (·.1)).map An)) (fun i=>M.length - i.1) (0,(none,0)) ⟨by omega,Ae.nil _ _ _⟩ ?_
 rintro J ⟨i,⟨pa,pc⟩⟩ hJ u2 m2 l2 ⟨hi,hA⟩;simp only at hi hA hJ;by_cases hlt:i < M.length
 ·refine G.lT (i:Int) (M.length:Int) ?_;obtain ⟨x,hMi⟩:∃ x,M[i]?=some x:=⟨_,List.getElem?_eq_getElem hlt⟩;have htk:=E6 hMi;have htl:(M.take i).length=i:=by rw [List.length_take]; omega
  obtain ⟨ba,oa,rfl,ea⟩:=Ab.at' (hM.mono l2) (j:=i) (e:=A5 x) (by simp [hMi]);refine G.a ba oa M.length c i 3 hlt ?_;refine G.lU (some 3) ba (oa+i*3) (.agg #[.int .i64 x.1.1,.string (mkS x.1.2),.string (mkS (Af x.2))]) ea ?_;refine G.B 79 2 24 (.agg #[.int .i64 0,.string (mkS [])]) [.agg #[.int .i64 x.1.1,.string (mkS x.1.2)]] (Gd x.1) ?_;intro g6 u6 l6 e6;refine G.k 79 2 24 (.agg #[.int .i64 0,.string (mkS [])]) PH.mt (((M.take i).map (·.1)).map An) [An x.1] _ g6 0 1 1 hA e6 (Gd x.1) ?_;intro v7 m7 hA7;rw [show ((M.take i).map (·.1)).map An++[An x.1]=((M.take (i+1)).map (·.1)).map An by rw [htk]; simp] at hA7;obtain ⟨a7,c7,rfl⟩:=hA7.shape;rw [List.length_map,List.length_map] at hA7 ⊢;refine G.i i ?_;exact G.b (hJ (i+1,(a7,c7)) _ _ _ cv (l2.trans l6) ⟨by dsimp only; omega,hA7⟩ (by dsimp only; omega))
 ·obtain rfl:i=M.length:=by omega
  refine G.lF (M.length:Int) (M.length:Int) ?_;rw [List.take_length] at hA ⊢;refine G.give _ _ _ (by kernel_rfl) hA (fun g=>.inl rfl) ?_;intro u3 l3 hL;exact G.r (.slice pa M.length pc) ⟨rfl,hL⟩
theorem Aic (h:Tx x.2):Fn0 prog 205 [A5 x] u fun r _=>r=.bool false:=by
 refine Fn0.o func205 ?_;refine G.c call154 (Jl h) ?_;rintro v1 u1 l1 rfl;exact G.r (.bool false) ⟨rfl,rfl⟩
theorem Qa (h:Jy u v m0 M)(hl:M.length≤100000)(h0:Tx m0)(ht:∀ x∈M,Tx x.2) :
  Fn0 prog 130 [v] u fun r _=>r=.bool true:=by
 obtain ⟨a,c,rfl,hM⟩:=h.val;refine Fn0.o func130 ?_;refine G.c call154 (Jl h0) ?_;rintro v1 u1 l1 rfl;refine G.c call185 (T0 (hM.mono l1) (by omega) call205 fun x hx u' _=>Aic (ht x hx)) ?_;rintro v2 u2 l2 rfl;exact G.r (.bool true) ⟨rfl,rfl⟩
def cfL (m0:Rat)(P:List Par)(L:List (Par×Rat)):List (List UInt8):=Af m0::P.map fun p=>Af (Bi p L)
theorem Adi (m0:Rat)(P:List Par)(L:List (Par×Rat)):(cfL m0 P L).length=P.length+1:=by unfold cfL; simp
theorem Ajk {L:List (Par×Rat)}{k:Nat}(hk:P[k]?=some x.1)(hn:P.Nodup)(hx:x.1∉L.map (·.1)):(cfL m0 P L).set (k+1) (Af x.2)=cfL m0 P (L++[x]):=by
 have:=Ae7 hk hn hx;unfold Ab9 at this;rw [List.set_cons_succ] at this;unfold cfL;rw [List.set_cons_succ,(List.cons.inj this).2]
theorem Ak5 (m0:Rat)(P:List Par)(M:List (Par×Rat)):cfL m0 P M=((Ak P).map (cfE m0 M)).map Af:=by
 unfold cfL Ak;rw [List.map_cons,List.map_cons,List.map_map,List.map_map]; rfl
theorem Ew.tx (h:Ew P m0 M):Tx m0∧∀ x∈M,Tx x.2:=⟨h.c,h.t⟩
theorem Aj9 {pv v:Value}(hP:Ab u pv 2 (P.map An))(hs:Ef A8 P)(hl:P.length≤10000)(h:Jy u v m0 M)(ok:Ew P m0 M) :
  Fn0 prog 116 [pv,v] u fun r u'=>∃ lv,r=.tuple #[lv,.int .i64 0]∧Fe u' lv (((Ak P).map (cfE m0 M)).map Af):=by
 have hMl:=ok.len;have hasc:=fun (u':PH) (l:PH.le u u')=>Wq (hP.mono l) hs (by omega);have hnum:=fun (u':PH) (l:PH.le u u')=>Qa (h.mono l) (by omega) ok.tx.1 ok.tx.2;have hpar:=fun (u':PH) (l:PH.le u u')=>Sd (h.mono l) (by omega);have hnd:=hs.nodup Dp;have hMn:=ok.srt.nodup Dp;obtain ⟨pa,pc,rfl⟩:=hP.opn;obtain ⟨a,c,rfl,hM⟩:=h.val;rw [List.length_map] at hP hasc ⊢;refine Fn0.o func116 ?_;refine G.c call131 (hasc u (PH.le_refl _)) ?_;rintro v1 u1 l1 rfl;refine G.c call130 (hnum u1 l1) ?_;rintro v2 u2 l2 rfl;have le2:=l1.trans l2;refine G.c call128 (hpar u2 le2) ?_;intro v3 u3 l3 k3;obtain ⟨a3,c3,rfl⟩:=Ab.opn k3;refine G.c call131 (Wq k3 ok.srt (by rw [List.length_map]; omega)) ?_;rintro v4 u4 l4 rfl;have le4:=(le2.trans l3).trans l4;have hd0:(cfL m0 P []).map nmV = [Value.string (mkS (Af m0))]++List.replicate P.length (Value.string (mkS [48])):=by
  have:=Agp P;unfold Ab9 at this;unfold cfL;rw [(List.cons.inj this).2,List.map_cons,List.map_replicate]; rfl
 have hcl:((cfL m0 P []).map nmV).length=P.length+1:=by rw [List.length_map,Adi]
 have hne:(cfL m0 P []).map nmV≠[]:=by unfold cfL; simp
 refine G.joinF (ι:=Nat×Nat) (fun st=>Xy prog (Kz prog [0,1,4,5] [2,3,6,7,8] (adv prog st)) [undef,undef,undef,undef]) (fun i=>[(0,.v (.slice pa P.length pc)),(3,.p 0 0),(6,.v (.slice (some ⟨i.1,0,none⟩) (P.length+1) i.2))]) (fun _=>[(0,⟨42,[.v (.string (mkS (Af m0))),.v (.slice a M.length c)]⟩)])
  (fun i u' m'=>Ae PH.mt m' (.slice (some ⟨i.1,0,none⟩) (P.length+1) i.2) 33 1 ((cfL m0 P []).map nmV)) (fun _=>by kernel_rfl) (by kernel_rfl) ?tail ?way
 case way =>
  intro hjoin;refine G.three [0,1,4,5] 2 3 6 [7,8] 33 1 16 (.string (mkS [])) [.string (mkS [48])] (by kernel_rfl) (by kernel_rfl) (Cu [[48]]) rfl (by omega) (by simp) (by simp) ?_ ?_
  ·refine G.buildM 33 1 16 (.string (mkS [])) [.string (mkS (Af m0))] (by kernel_rfl) (Cu [Af m0]) rfl (by omega) (by simp) (by simp) ?_;intro g5 m5 hA5;refine G.B 33 1 16 (.string (mkS [])) [.string (mkS [48])] (Cu [[48]]) ?_;intro g6 u6 l6 e6;refine G.c call191 (Re (n:=P.length) e6.listP (Cu [[48]]) (by omega)) ?_;intro v7 u7 l7 k7;obtain ⟨a7,c7,rfl⟩:=Ab.opn k7;refine G.appendL 33 1 16 (.string (mkS [])) PH.mt [.string (mkS (Af m0))] (List.replicate P.length (.string (mkS [48]))) _ a7 _ c7 (by kernel_rfl) rfl rfl (by omega) hA5 k7 ((Cu [[48]]).replicate _) (by simp; omega) (by simp; omega) ?_;intro v8 m8 hA8;rw [← hd0] at hA8;obtain ⟨b8,c8,rfl⟩:=hA8.ptr hne;rw [hcl] at hA8 ⊢;exact hjoin (b8,c8) _ _ _ (by kernel_rfl) cv (l6.trans l7) hA8
  ·intro g6 u6 l6 e6;refine ⟨?_,?_⟩
   ·refine G.buildM 33 1 16 (.string (mkS [])) [.string (mkS (Af m0))] (by kernel_rfl) (Cu [Af m0]) rfl (by omega) (by simp) (by simp) ?_;intro g5 m5 hA5;refine G.c call191 (Re (n:=P.length) e6.listP (Cu [[48]]) (by omega)) ?_;intro v7 u7 l7 k7;obtain ⟨a7,c7,rfl⟩:=Ab.opn k7;refine G.appendL 33 1 16 (.string (mkS [])) PH.mt [.string (mkS (Af m0))] (List.replicate P.length (.string (mkS [48]))) _ a7 _ c7 (by kernel_rfl) rfl rfl (by omega) hA5 k7 ((Cu [[48]]).replicate _) (by simp; omega) (by simp; omega) ?_;intro v8 m8 hA8;rw [← hd0] at hA8;obtain ⟨b8,c8,rfl⟩:=hA8.ptr hne;rw [hcl] at hA8 ⊢;exact hjoin (b8,c8) _ _ _ (by kernel_rfl) cv (l6.trans l7) hA8
   ·refine G.c call191 (Re (n:=P.length) e6.listP (Cu [[48]]) (by omega)) ?_;intro v7 u7 l7 k7;obtain ⟨a7,c7,rfl⟩:=Ab.opn k7;refine G.buildM 33 1 16 (.string (mkS [])) [.string (mkS (Af m0))] (by kernel_rfl) (Cu [Af m0]) rfl (by omega) (by simp) (by simp) ?_;intro g5 m5 hA5;refine G.appendL 33 1 16 (.string (mkS [])) PH.mt [.string (mkS (Af m0))] (List.replicate P.length (.string (mkS [48]))) _ a7 _ c7 (by kernel_rfl) rfl rfl (by omega) hA5 k7 ((Cu [[48]]).replicate _) (by simp; omega) (by simp; omega) ?_;intro v8 m8 hA8;rw [← hd0] at hA8;obtain ⟨b8,c8,rfl⟩:=hA8.ptr hne;rw [hcl] at hA8 ⊢;exact hjoin (b8,c8) _ _ _ (by kernel_rfl) cv (l6.trans l7) hA8
 rintro ⟨b8,c8⟩ u7 m8 l7 hA8;simp only at hA8;have le7:=le4.trans l7;refine G.l (ι:=Nat) (fun i=>[(0,.v (.slice pa P.length pc)),(6,.v (.slice (some ⟨b8,0,none⟩) (P.length+1) c8)),(32,.v (.slice a M.length c)),(33,.v (.int .i64 (M.length:Int))),(34,.v (.int .i64 (i:Int)))]) (fun _=>[])
  (fun i u' m'=>i≤M.length∧Ae PH.mt m' (.slice (some ⟨b8,0,none⟩) (P.length+1) c8) 33 1 ((cfL m0 P (M.take i)).map nmV)) (fun i=>M.length - i) 0 ⟨by omega,hA8⟩ ?_
 rintro J i hJ u9 m9 l9 ⟨hi,hA⟩;have le9:=le7.trans l9;by_cases hlt:i < M.length
 ·refine G.lT (i:Int) (M.length:Int) ?_;obtain ⟨x,hMi⟩:∃ x,M[i]?=some x:=⟨_,List.getElem?_eq_getElem hlt⟩;have hxm:=List.mem_of_getElem? hMi;have htk:=E6 hMi;obtain ⟨k,hk,hkx⟩:=List.getElem_of_mem (ok.sub x hxm);have hkx':P[k]?=some x.1:=by rw [List.getElem?_eq_getElem hk,hkx]
  have hnew:x.1∉(M.take i).map (·.1):=by
   intro hm;obtain ⟨y,hy,hye⟩:=List.mem_map.1 hm;obtain ⟨j,hj,rfl⟩:=List.getElem_of_mem hy;rw [List.length_take] at hj;have:=Og hMn (i:=j) (j:=i) (x:=x.1) (by rw [List.getElem?_map,List.getElem?_eq_getElem (by omega)]; simp only [Option.map_some]; rw [← hye,List.getElem_take]) (by rw [List.getElem?_map,hMi]; rfl);omega
  obtain ⟨ba,oa,rfl,ea⟩:=Ab.at' (hM.mono le9) (j:=i) (e:=A5 x) (by simp [hMi]);refine G.a ba oa M.length c i 3 hlt ?_;refine G.lU (some 3) ba (oa+i*3) (.agg #[.int .i64 x.1.1,.string (mkS x.1.2),.string (mkS (Af x.2))]) ea ?_;refine G.c call192 (Ame (p:=x.1) (hP.mono le9) hkx' (fun j hj e=>by have:=Og hnd e hkx'; omega) (by omega)) ?_;rintro v10 u10 l10 rfl;refine G.hT (k:Int) 0 ?_;refine G.i k ?_;refine G.a b8 0 (P.length+1) c8 (k+1) 1 (by omega) ?_;refine G.storeA 1 PH.mt _ b8 (P.length+1) c8 (k+1) (.string (mkS (Af x.2))) (by kernel_rfl) hA (by rw [List.length_map,Adi]; omega) rfl (by simp [Value.cells,Be]) ?_;intro m11 hA11;have e11:((cfL m0 P (M.take i)).map nmV).set (k+1) (.string (mkS (Af x.2)))=(cfL m0 P (M.take (i+1))).map nmV:=by
   rw [htk,← Ajk hkx' hnd hnew,List.map_set]; rfl
  rw [e11] at hA11;refine G.i i ?_;exact G.b (hJ (i+1) _ _ _ cv (l9.trans l10) ⟨by omega,hA11⟩ (by omega))
 ·obtain rfl:i=M.length:=by omega
  refine G.lF (M.length:Int) (M.length:Int) ?_;rw [List.take_length] at hA;refine G.give _ _ _ (by kernel_rfl) hA (fun g=>.inl rfl) ?_;intro u10 l10 hL;have hL2:Fe u10 (.slice (some ⟨b8,0,none⟩) (P.length+1) c8) (((Ak P).map (cfE m0 M)).map Af):=by
   rw [← Ak5]; exact hL
  exact G.r (.tuple #[.slice (some ⟨b8,0,none⟩) (P.length+1) c8,.int .i64 0]) ⟨rfl,_,rfl,hL2⟩
end
section
open Go.RowKit Go.MapKept
variable {F:List Ao}{R:List Bk}{T:List (List UInt8×Nat)}{lab:Int}{p:Par}{u:PH}{v:Value}
def Adv (F:List Ao)(p:Par):Prop:=∃ (k:Nat) (f:Ao),p.1=(k:Int)∧F[k]?=some f∧(p.2 = []∨(f.2.1=2∧Gw p.2=true))
theorem Ae4 (hX:F1 u v T R F lab)(ok:Bn u T R F lab)(hp:Adv F p) :
  Fn0 prog 134 [v,An p] u fun r _=>r=.bool true:=by
 obtain ⟨xa,xc,xb,xd,xe,xf,rfl,hTL,hRL,hFL⟩:=hX;have hf8:=ok.f2;obtain ⟨k,f,h1,hf,h3⟩:=hp;obtain ⟨p1,p2⟩:=p;simp only at h1 h3;subst h1;have hk:=(List.getElem?_eq_some_iff.1 hf).1;obtain ⟨bb,ob,rfl,eb⟩:=Ab.at' hFL (j:=k) (e:=B6 f) (by simp [hf]);obtain ⟨f1,f2,f3⟩:=f;simp only at h3;refine Fn0.o func134 ?_;refine G.lF (k:Int) 0 ?_;refine G.hF (k:Int) (F.length:Int) ?_;by_cases hc:p2 = []
 ·refine G.q p2 [] hc ?_;exact G.r (.bool true) ⟨rfl,rfl⟩
 ·obtain ⟨h2,hw⟩:=h3.resolve_left hc;refine G.w p2 [] hc ?_;refine G.a bb ob F.length xf k 3 hk ?_;refine G.f 144 bb (ob+k*3) 1 1 ?_;refine G.lU none bb (ob+k*3+1) (.int .i64 (f2:Int)) (eb.fld (j:=1) (xs:=#[.int .i64 (f1:Int),.int .i64 (f2:Int),.int .i64 (f3:Int)]) rfl rfl) ?_;refine G.eT (f2:Int) 2 ?_;refine G.c call208 (Ajx hw) ?_;rintro v1 u1 l1 rfl;exact G.r (.bool true) ⟨rfl,rfl⟩
theorem Ams {u m:PH}{b:Nat}(hb:ElP m b 0 v)(hX:F1 u v T R F lab)(ok:Bn u T R F lab)(hp:Adv F p) :
  FnK prog 133 [An p,.pointer (some ⟨b,0,none⟩)] u m fun v _=>v=.bool false:=by
 have hbel:=Ae4 hX ok hp;obtain ⟨xa,xc,xb,xd,xe,xf,rfl,hTL,hRL,hFL⟩:=hX;refine FnK.of func133 (by kernel_rfl) (by kernel_rfl) ?_;refine G.lM (some 4) b 0 (.agg #[.slice xa T.length xc,.slice xb R.length xd,.slice xe F.length xf,.int .i64 lab]) hb ?_;refine G.c call134 hbel ?_;rintro v1 u1 l1 rfl;exact G.r (.bool false) ⟨rfl,rfl⟩
theorem Agy {u m:PH}{v cap:Value}{P:List Par}{fid:Nat}(h:Ab u v 2 (P.map An))(hl:P.length≤1000000)
  (hcall:∀ args w,(callFunc fid args).run prog w=.ok (.enter fid args) w) (hf:∀ p∈P,∀ u',PH.le u u'→FnK prog fid [An p,cap] u' m fun v _=>v=.bool false) :
  FnK prog 207 [v,.func (.func fid) #[] #[cap]] u m fun v' _=>v'=.int .i64 (-1):=by
 obtain ⟨a,c,rfl⟩:=h.opn;rw [List.length_map] at h ⊢;refine FnK.of func207 (by kernel_rfl) (by kernel_rfl) ?_;refine G.l (ι:=Nat) (fun i=>[(0,.v (.slice a P.length c)),(1,.v (.func (.func fid) #[] #[cap])),(7,.v (.int .i64 (P.length:Int))),(8,.v (.int .i64 (i:Int)))]) (fun _=>[])
  (fun i u' m'=>i≤P.length∧m'=m) (fun i=>P.length - i) 0 ⟨by omega,rfl⟩ ?_
 rintro J i hJ u1 m1 l1 ⟨hi,rfl⟩;by_cases hlt:i < P.length
 ·refine G.lT (i:Int) (P.length:Int) ?_;have hPi:P[i]?=some P[i]:=List.getElem?_eq_getElem hlt;obtain ⟨ba,oa,rfl,ea⟩:=Ab.at' (h.mono l1) (j:=i) (e:=An P[i]) (by simp [hPi]);refine G.a ba oa P.length c i 2 (by omega) ?_;refine G.lU (some 2) ba (oa+i*2) (An P[i]) ea ?_;refine G.callK fid [An P[i],cap] (by kernel_rfl) hcall (hf P[i] (List.getElem_mem hlt) u1 l1) ?_;rintro v2 u2 l2 rfl;refine G.i i ?_;exact G.b (hJ (i+1) _ _ _ cv (l1.trans l2) ⟨by omega,rfl⟩ (by omega))
 ·obtain rfl:i=P.length:=by omega
  refine G.lF (P.length:Int) (P.length:Int) ?_;exact G.r (.int .i64 (-1)) ⟨rfl,rfl⟩
theorem Y8 {u m:PH}{v cap:Value}{P:List Par}{fid:Nat}(h:Ab u v 2 (P.map An))(hl:P.length≤1000000)
  (hcall:∀ args w,(callFunc fid args).run prog w=.ok (.enter fid args) w) (hf:∀ p∈P,∀ u',PH.le u u'→FnK prog fid [An p,cap] u' m fun v _=>v=.bool false) :
  FnK prog 132 [v,.func (.func fid) #[] #[cap]] u m fun v' _=>v'=.bool false:=by
 obtain ⟨a,c,rfl⟩:=h.opn;refine FnK.of func132 (by kernel_rfl) (by kernel_rfl) ?_;refine G.callK _ _ (by kernel_rfl) call207 (Agy h hl hcall hf) ?_;rintro v1 u1 l1 rfl;refine G.hF (-1) 0 ?_;exact G.r (.bool false) ⟨rfl,rfl⟩
theorem Agi {v mv:Value}{P:List Par}{m0:Rat}{M:List (Par×Rat)}(hX:F1 u v T R F lab)(ok:Bn u T R F lab)(h:Jy u mv m0 M)(hm:Ew P m0 M)(hP:P.length≤10000)(hpar:∀ p∈P,Adv F p) :
  Fn0 prog 61 [v,mv] u fun r _=>r=.bool true:=by
 have hMl:=hm.len;have hck:=fun (u':PH) (l:PH.le u u')=>Abk (hX.mono l) (ok.mono l);have hnum:=fun (u':PH) (l:PH.le u u')=>Qa (h.mono l) (by omega) hm.tx.1 hm.tx.2;have hprm:=fun (u':PH) (l:PH.le u u')=>Sd (h.mono l) (by omega);obtain ⟨xa,xc,xb,xd,xe,xf,rfl,hTL,hRL,hFL⟩:=id hX;obtain ⟨a,c,rfl,hM⟩:=h.val;refine Fn0.o func61 ?_;refine G.c call128 (hprm u (PH.le_refl _)) ?_;intro v1 u1 l1 k1;obtain ⟨a1,c1,rfl⟩:=Ab.opn k1;refine G.pub 0 31 [.slice xa T.length xc,.slice xb R.length xd,.slice xe F.length xf,.int .i64 lab] (by kernel_rfl) (by kernel_rfl) ?_;intro b hb1 hb2;have hcb:ElP (PH.mt.upd b (.cells [Value.slice xa T.length xc,.slice xb R.length xd,.slice xe F.length xf,.int .i64 lab].toArray 31 (0,0))) b 0 (.agg #[.slice xa T.length xc,.slice xb R.length xd,.slice xe F.length xf,.int .i64 lab]):=Aa3 (xs:=[.slice xa T.length xc,.slice xb R.length xd,.slice xe F.length xf,.int .i64 lab]) (Ac _ _ _) rfl;refine G.lM (some 4) b 0 (.agg #[.slice xa T.length xc,.slice xb R.length xd,.slice xe F.length xf,.int .i64 lab]) hcb ?_;refine G.c call129 (hck u1 l1) ?_;rintro v2 u2 l2 rfl;refine G.eT' 0 0 rfl ?_;refine G.c call130 (hnum u2 (l1.trans l2)) ?_;rintro v3 u3 l3 rfl;refine G.c call131 (Wq ((k1.mono l2).mono l3) hm.srt (by rw [List.length_map]; omega)) ?_;rintro v4 u4 l4 rfl;have le4:=((l1.trans l2).trans l3).trans l4;refine G.callK _ _ (by kernel_rfl) call132 (Y8 (cap:=.pointer (some ⟨b,0,none⟩)) (((k1.mono l2).mono l3).mono l4) (by rw [List.length_map]; omega) call133 fun p hp u' l'=>Ams hcb (hX.mono (le4.trans l')) (ok.mono (le4.trans l')) (hpar p (by
  obtain ⟨x,hx,rfl⟩:=List.mem_map.1 hp;exact hm.sub x hx))) ?_
 rintro v5 u5 l5 rfl;refine G.drop PH.mt (by kernel_rfl) (PH.mt_le _) ?_;exact G.r (.bool true) ⟨rfl,rfl⟩
end
section
open Go.RowKit Go.MapKept
variable {C:CF}{F:List Ao}{K k:Nat}{M:List (Par×Rat)}{P:List Par}{R:List Bk}{T:List (List UInt8×Nat)}{cv v:Value}{lab:Int}{m0 q:Rat}{u:PH}
structure F8 (u:PH)(v cv:Value)(T:List (List UInt8×Nat))(R:List Bk)(F:List Ao)(lab:Int)(C:CF)(K k:Nat)(P:List Par):Prop where
 sch:F1 u v T R F lab
 ok:Bn u T R F lab
 cof:H7 u cv C K
 sC:CFS C
 vC:CFV C
 K:K≤10000
 bel:∀ p,C.s p≠0→Aar F lab p
 mom:Iq C k
 prm:R1 F C P
 p24:P.length≤24
 lab0:0≤lab
 d:CFD 16 (10 ^ 39) C
theorem F8.mono {u u':PH}{v cv:Value}{T:List (List UInt8×Nat)}{R:List Bk}{F:List Ao}{lab:Int}{C:CF}{K k:Nat}{P:List Par}(h:F8 u v cv T R F lab C K k P)(hl:PH.le u u'):F8 u' v cv T R F lab C K k P :=
 ⟨h.sch.mono hl,h.ok.mono hl,h.cof.mono hl,h.sC,h.vC,h.K,h.bel,h.mom,h.prm,h.p24,h.lab0,h.d⟩
theorem F8.par (h:F8 u v cv T R F lab C K k P):∀ p∈P,Adv F p:=fun p hp=>by
 rcases (h.prm.2 p).1 hp with ⟨i,f,rfl,hf,_⟩ | ⟨hne,i,f,h1,hf,h2⟩
 ·exact ⟨i,f,rfl,hf,.inl rfl⟩
 ·refine ⟨i,f,h1,hf,?_⟩;rcases (h.vC.s p hne).cat with h3 | h3
  ·exact .inl h3
  ·exact .inr ⟨h2,h3⟩
theorem CFD.to {d e N M:Nat}{F:CF}(h:CFD d N F)(h1:d≤e)(h2:N*12 ^ (e - d)≤M):CFD e M F:=⟨h.c.to h1 h2,fun p=>(h.s p).to h1 h2,fun q=>(h.t q).to h1 h2⟩
theorem Aqa {q n d j:Rat}(h2:q=n*j)(hi:d*j=1):q*d=n:=by rw [h2]; grind
theorem Dn.smr (h:SmR q):Dn 1 108 q:=by
 obtain ⟨k,hk⟩:=h.den;refine ⟨q.num*(k:Int),?_,?_⟩
 ·have h1:q*(q.den:Rat)=(q.num:Rat):=by
   have h2:q=(q.num:Rat) / (((q.den:Int)):Rat):=by rw [← Rat.divInt_eq_div,Rat.num_divInt_den]
   have hi:=Rat.mul_inv_cancel _ (Pr q.den_pos);rw [Rat.intCast_natCast,Rat.div_def] at h2;exact Aqa h2 hi
  show q*((12 ^ 1:Nat):Rat)=_;rw [show (12 ^ 1:Nat)=12 from rfl,hk,Rat.natCast_mul,Rat.intCast_mul,Rat.intCast_natCast,← h1]; grind
 ·rw [Int.natAbs_mul,Int.natAbs_natCast];have h1:=h.num;have h2:k≤12:=by
   have:=h.le;have:0 < q.den:=q.den_pos;rcases Nat.eq_zero_or_pos k with h0 | h0
   ·omega
   ·exact Nat.le_of_dvd (by omega) ⟨q.den,by rw [Nat.mul_comm]; exact hk⟩
  exact Nat.mul_le_mul h1 h2
theorem W4:Tx 0:=(show SmR 0 from ⟨by decide +kernel,by decide +kernel⟩).tx
theorem Rw (h:Ew P m0 M):∀ e,Tx (cfE m0 M e)
 | none=>h.c
 | some p=>by
  show Tx (Bi p M);by_cases hp:p∈M.map (·.1)
  ·obtain ⟨x,hx,rfl⟩:=List.mem_map.1 hp;have e:Bi x.1 M=x.2:=F9 (h.srt.nodup Dp) hx;rw [e]; exact h.t x hx
  ·rw [Kc hp]; exact W4
theorem F8.cells (h:F8 u v cv T R F lab C K k P){b:Option Par→Rat}(hb:∀ e,Sz (b e) 1000):QOK b C:=by
 have s1:∀ p,Sz (C.s p) 1000:=fun p=>((h.mom.s p).szn (by omega) (by omega) (by omega) (by omega)).mono (by omega);have t1:∀ p,Sz (C.t p) 1000:=fun p=>((h.mom.t p).szn (by omega) (by omega) (by omega) (by omega)).mono (by omega);refine ⟨hb,fun e f=>?_,fun e=>?_,t1 _⟩
 ·cases e <;> cases f
  ·exact h.mom.csz
  ·exact s1 _
  ·exact s1 _
  ·exact t1 _
 ·cases e
  ·exact s1 _
  ·exact t1 _
theorem F8.qok (h:F8 u v cv T R F lab C K k P)(hm:Ew P m0 M):QOK (cfE m0 M) C :=
 h.cells fun e=>(Rw hm e).sz.mono (by omega)
end
section
open Go.RowKit Go.MapKept
variable {F:List Ao}{lab:Int}{p:Par}
theorem Ad0 {p:Par}:∀ (L:List LF) (C:CF),(Gr C L).s p≠0→C.s p≠0∨∃ q,some (some (p,q))∈L
 | [],C,h=>.inl h
 | x::L,C,h=>by
  rcases Ad0 L (C.mul x.cf) h with h1 | ⟨q,hq⟩
  ·rcases Ez (a:=x.cf.s p*C.c) (b:=C.s p*x.cf.c) h1 with h2 | h2
   ·right;have h3:=(B8 h2).1
    match x,h3 with
    | none,h3=>exact absurd rfl h3
    | some none,h3=>exact absurd rfl h3
    | some (some (p',q)),h3 =>
     have h4:(if p=p' then q else 0)≠0:=h3;by_cases e:p=p'
     ·subst e; exact ⟨q,List.mem_cons_self ..⟩
     ·rw [if_neg e] at h4; exact absurd rfl h4
   ·exact .inl (B8 h2).1
  ·exact .inr ⟨q,List.mem_cons_of_mem _ hq⟩
theorem Acc {ss:List (List UInt8)}(h:(cfT F lab ss).s p≠0):Aar F lab p∧∃ (a:Nat) (q:Rat),(Em F lab ss)[a]?=some (some (some (p,q)))∧∀ (i:Nat) (f:Ao),p.1=(i:Int)→F[i]?=some f→f.2.1=2→q=1:=by
 rcases Ad0 _ _ h with h | ⟨q,hq⟩
 ·exact absurd rfl h
 obtain ⟨a,ha,hae⟩:=List.getElem_of_mem hq;have hla:a < ss.length:=by rw [F3] at ha; exact ha
 have e:=Gq (F:=F) (lab:=lab) (w:=ss[a]) (List.getElem?_eq_getElem hla);have e2:Fg F lab a ss[a]=some (some (p,q)):=by
  rw [List.getElem?_eq_getElem ha,hae] at e;exact (Option.some.inj e).symm
 have e3:(Em F lab ss)[a]?=some (some (some (p,q))):=by rw [e,e2]
 generalize ss[a]=w at e2;by_cases hl:(a:Int)=lab
 ·have e4:Fg F lab a w=O7 w:=by unfold Fg; rw [if_pos hl]
  rw [e4] at e2;unfold O7 at e2;split at e2
  ·cases e2
  ·simp only [Option.some.injEq,Prod.mk.injEq] at e2;obtain ⟨rfl,_⟩:=e2;exact ⟨.inl ⟨rfl,by omega,rfl⟩,a,q,e3,fun i f h1=>by simp only at h1; omega⟩
 ·rcases Ga (F:=F) (w:=w) hl with h1 | ⟨i,f,hf,hfa,h1⟩
  ·rw [h1] at e2; cases e2
  ·rw [h1] at e2;unfold Jk at e2;by_cases h2:f.2.1=2
   ·rw [if_pos h2] at e2;simp only [Option.some.injEq,Prod.mk.injEq] at e2;obtain ⟨rfl,rfl⟩:=e2;exact ⟨.inr ⟨i,f,rfl,hf,.inl h2⟩,a,_,e3,fun _ _ _ _ _=>rfl⟩
   ·rw [if_neg h2] at e2;split at e2
    ·split at e2 <;> cases e2
    ·simp only [Option.some.injEq,Prod.mk.injEq] at e2;obtain ⟨rfl,_⟩:=e2;refine ⟨.inr ⟨i,f,rfl,hf,.inr rfl⟩,a,q,e3,fun j g h3 h4 h5=>?_⟩;simp only at h3;obtain rfl:i=j:=by omega
     rw [hf] at h4; cases h4;exact absurd h5 h2
theorem Adn :∀ {L:List E7},(C8 F lab L).s p≠0→∃ y∈L,(cfT F lab y.1).s p≠0:=by
 intro L;induction L using Iv with
 | h0=>exact fun h=>absurd rfl h
 | h1 L y ih =>
  intro h;rw [F5] at h;rcases Ez (a:=(C8 F lab L).s p) (b:=(cfT F lab y.1).s p*(y.2.1:Rat)) h with h1 | h1
  ·obtain ⟨z,hz,h2⟩:=ih h1;exact ⟨z,List.mem_append_left _ hz,h2⟩
  ·exact ⟨y,by simp,(B8 h1).1⟩
end
section
open Go.RowKit Go.MapKept
variable {C:CF}{P:List Par}{b:Option Par→Rat}
theorem Aau (P:List Par)(C:CF)(h:∀ e,b e=0):Bm b P C=0:=by
 unfold Bm;exact Bv fun e _=>Bv fun f _=>by rw [h e]; grind
theorem Ans:Yg (CF.num 0):=⟨rfl,fun _=>rfl,fun _=>rfl⟩
theorem Ajl:SmR 0:=⟨by decide +kernel,by decide +kernel⟩
theorem QOK.biasS (h:QOK b C)(hP:P.length≤60):Sz (Kf b P C) 1000000 :=
 (Ie (show Sz (C.s Aq) 1000 from h.r none) (h.bs (Ak P) (by rw [Bo]; omega))).mono (by omega)
theorem QOK.sqS (h:QOK b C)(hP:P.length≤60):Sz (sqC b P C) 30000000 :=
 (Ie (Ly (h.nm hP) h.l) (Agv (h.rs (Ak P) (by rw [Bo]; omega)))).mono (by omega)
end
section
variable {f:Nat→Rat}{n:Nat}
def Dm (n:Nat)(f:Nat→Rat):Rat:=Au f (List.range n)
theorem F0 (n:Nat)(f:Nat→Rat):Dm (n+1) f=Dm n f+f n:=by unfold Dm; rw [List.range_succ,Iu]
theorem Pb (f:Nat→Rat):Dm 0 f=0:=rfl
theorem Er {f g:Nat→Rat}(h:∀ i,i < n→f i=g i):Dm n f=Dm n g:=Bb fun i hi=>h i (List.mem_range.1 hi)
theorem Ri (n:Nat)(f g:Nat→Rat):Dm n (fun i=>f i - g i)=Dm n f - Dm n g:=by
 induction n with
 | zero=>show (0:Rat)=0 - 0; decide +kernel
 | succ n ih=>rw [F0,F0,F0,ih]; grind
theorem Nr (k:Rat)(n:Nat)(f:Nat→Rat):Dm n (fun i=>k*f i)=k*Dm n f:=Dr k _
theorem Ai5:∀ (B:Nat) (f:Nat→Nat),(∀ k,k≤B→f k < B)→∃ i j,i < j∧j≤B∧f i=f j
 | 0,f,h=>absurd (h 0 (Nat.le_refl _)) (by omega)
 | B+1,f,h=>by
  by_cases he:∃ i,i≤B∧f i=f (B+1)
  ·obtain ⟨i,hi,e⟩:=he; exact ⟨i,B+1,by omega,Nat.le_refl _,e⟩
  ·have h1:∀ k,k≤B→f k≠f (B+1):=fun k hk e=>he ⟨k,hk,e⟩;have ht:=h (B+1) (Nat.le_refl _);obtain ⟨i,j,hij,hj,e⟩:=Ai5 B (fun k=>if f k < f (B+1) then f k else f k - 1) fun k hk=>by
    have a1:=h k (by omega);have a2:=h1 k hk;split <;> omega
   refine ⟨i,j,hij,by omega,?_⟩;have a2:=h1 i (by omega);have a4:=h1 j hj;split at e <;> split at e <;> omega
def Qw (m:Nat)(f:Nat→Nat):Nat→Nat
 | 0=>0
 | n+1=>Qw m f n*m+f n
theorem Ad9 {m:Nat}{f:Nat→Nat}:∀ n,(∀ i,i < n→f i < m)→Qw m f n < m ^ n
 | 0,_=>by simp [Qw]
 | n+1,h=>by
  have h1:=Ad9 n fun i hi=>h i (by omega);have h2:=h n (by omega);have h3:(Qw m f n+1)*m≤m ^ n*m:=Nat.mul_le_mul_right m h1;rw [Nat.add_mul] at h3;show Qw m f n*m+f n < m ^ n*m;omega
theorem Aah {m:Nat}{f g:Nat→Nat}:∀ n,(∀ i,i < n→f i < m)→(∀ i,i < n→g i < m)→Qw m f n=Qw m g n→∀ i,i < n→f i=g i
 | 0,_,_,_,i,hi=>by omega
 | n+1,hf,hg,e,i,hi=>by
  have e':Qw m f n*m+f n=Qw m g n*m+g n:=e;have a:=hf n (by omega);have b:=hg n (by omega);have q:Qw m f n=Qw m g n:=by
   have h1:=congrArg (· / m) e';simpa [Nat.mul_comm _ m,Nat.mul_add_div (show 0 < m by omega),Nat.div_eq_of_lt a,Nat.div_eq_of_lt b] using h1
  rcases Nat.lt_or_ge i n with h | h
  ·exact Aah n (fun i hi=>hf i (by omega)) (fun i hi=>hg i (by omega)) q i h
  ·rw [q] at e';rw [show i=n by omega]; omega
theorem Aip {M:Nat}(h:∀ i,i < n→-(M:Rat)≤f i∧f i≤M):-((n*M:Nat):Rat)≤Dm n f∧Dm n f≤((n*M:Nat):Rat):=by
 induction n with
 | zero=>rw [Pb,Nat.zero_mul]; constructor <;> decide +kernel
 | succ n ih =>
  have h1:=ih fun i hi=>h i (by omega);have h2:=h n (by omega);have e:(((n+1)*M:Nat):Rat)=((n*M:Nat):Rat)+(M:Rat):=by rw [Nat.add_mul,Nat.one_mul,Rat.natCast_add]
  rw [F0,e];constructor <;> grind
def frc (q:Rat):Rat:=q - (q.floor:Rat)
theorem Aop (q:Rat):0≤frc q∧frc q≤1:=by
 have h1:=Rat.floor_le q;have h2:=Rat.lt_floor_add_one q;unfold frc;constructor <;> grind
theorem Akr {n M:Nat}{A:Nat→Nat→Int}{x:Nat→Rat}(hA:∀ i j,i < n→j < n→(A i j).natAbs≤M)(hx:∀ i,i < n→∃ z:Int,Dm n (fun j=>(A i j:Rat)*x j)=z)
  (hinj:∀ h:Rat→Rat,(∀ i,i < n→Dm n (fun j=>(A i j:Rat)*h (x j))=0)→∀ j,j < n→h (x j)=0) :
  ∃ D:Nat,0 < D∧D≤(2*(n*M)+1) ^ n∧∀ j,j < n→∃ k:Int,x j*(D:Rat)=k:=by
 have him:∀ (k:Nat) i,i < n→∃ z:Int,Dm n (fun j=>(A i j:Rat)*frc ((k:Rat)*x j))=z:=by
  intro k i hi;obtain ⟨z,hz⟩:=hx i hi;have:∀ m,∃ w:Int,Dm m (fun j=>(A i j:Rat)*(((k:Rat)*x j).floor:Rat))=w:=by
   intro m;induction m with
   | zero=>exact ⟨0,rfl⟩
   | succ m ih =>
    obtain ⟨w,hw⟩:=ih;exact ⟨w+A i m*((k:Rat)*x m).floor,by rw [F0,hw,Rat.intCast_add,Rat.intCast_mul]⟩
  obtain ⟨w,hw⟩:=this n;refine ⟨k*z - w,?_⟩;have e:(fun j=>(A i j:Rat)*frc ((k:Rat)*x j))=fun j=>(k:Rat)*((A i j:Rat)*x j) - (A i j:Rat)*(((k:Rat)*x j).floor:Rat):=by
   funext j; unfold frc; grind
  rw [e,Ri,Nr,hz,hw,Rat.intCast_sub,Rat.intCast_mul,Rat.intCast_natCast]
 have hch:∀ k i,∃ z:Int,i < n→Dm n (fun j=>(A i j:Rat)*frc ((k:Nat)*x j))=z:=fun k i=>by
  by_cases hi:i < n
  ·obtain ⟨z,hz⟩:=him k i hi; exact ⟨z,fun _=>hz⟩
  ·exact ⟨0,fun h=>absurd h hi⟩
 have hbd:∀ (k:Nat) i (z:Int),i < n→Dm n (fun j=>(A i j:Rat)*frc ((k:Rat)*x j))=z→-((n*M:Nat):Int)≤z∧z≤((n*M:Nat):Int):=by
  intro k i z hi hz;have:=Aip (n:=n) (f:=fun j=>(A i j:Rat)*frc ((k:Rat)*x j)) (M:=M) fun j hj=>by
   have h1:=Aop ((k:Rat)*x j);generalize frc ((k:Rat)*x j)=f at h1;have h2:=hA i j hi hj;have h3:(A i j:Rat)≤((M:Int):Rat):=Rat.intCast_le_intCast.2 (by omega);have h4:((-(M:Int):Int):Rat)≤(A i j:Rat):=Rat.intCast_le_intCast.2 (by omega);rw [Rat.intCast_neg] at h4;rw [Rat.intCast_natCast] at h3 h4;generalize (A i j:Rat)=a at h3 h4;have hM:(0:Rat)≤(M:Rat):=by grind
   generalize (M:Rat)=m at h3 h4 hM;constructor
   ·show -m≤a*f;have p1:0≤(a+m)*f:=Rat.mul_nonneg (by grind) h1.1;have p2:0≤m*(1 - f):=Rat.mul_nonneg hM (by grind);grind
   ·show a*f≤m;have p1:0≤(m - a)*f:=Rat.mul_nonneg (by grind) h1.1;have p2:0≤m*(1 - f):=Rat.mul_nonneg hM (by grind);grind
  rw [hz,← Rat.intCast_natCast,← Rat.intCast_neg] at this;exact ⟨Rat.intCast_le_intCast.1 this.1,Rat.intCast_le_intCast.1 this.2⟩
 have hz:=fun k i=>(hch k i).choose_spec;generalize hzz:(fun (k i:Nat)=>(hch k i).choose)=Z at hz;have hz:∀ k i,i < n→Dm n (fun j=>(A i j:Rat)*frc ((k:Nat)*x j))=Z k i:=fun k i hi=>by rw [← hzz]; exact (hch k i).choose_spec hi
 have hd:∀ k i,i < n→(Z k i+((n*M:Nat):Int)).toNat < 2*(n*M)+1:=fun k i hi=>by
  have:=hbd k i _ hi (hz k i hi); omega
 obtain ⟨k,l,hkl,hl,e⟩:=Ai5 ((2*(n*M)+1) ^ n) (fun k=>Qw (2*(n*M)+1) (fun i=>(Z k i+((n*M:Nat):Int)).toNat) n) fun k _=>Ad9 n (hd k);have he:=Aah n (hd k) (hd l) e;have hq:=hinj (fun t=>frc ((l:Rat)*t) - frc ((k:Rat)*t)) fun i hi=>by
  have a:=hbd k i _ hi (hz k i hi);have b:=hbd l i _ hi (hz l i hi);have h1:Z k i=Z l i:=by have:=he i hi; omega
  have e:(fun j=>(A i j:Rat)*(frc ((l:Rat)*x j) - frc ((k:Rat)*x j)))=fun j=>(A i j:Rat)*frc ((l:Rat)*x j) - (A i j:Rat)*frc ((k:Rat)*x j):=by funext j; grind
  rw [e,Ri,hz l i hi,hz k i hi,h1]; grind
 refine ⟨l - k,by omega,by omega,fun j hj=>⟨((l:Rat)*x j).floor - ((k:Rat)*x j).floor,?_⟩⟩;have h:=hq j hj;unfold frc at h;have c:((l - k:Nat):Rat)=(l:Rat) - (k:Rat):=by
  have:(l:Rat)=((l - k:Nat):Rat)+(k:Rat):=by rw [← Rat.natCast_add]; congr 1; omega
  grind
 rw [c,Rat.intCast_sub];grind
end
section
theorem Uv {α β:Type}(f:α→β→Rat):∀ (l:List α) (k:List β),Au (fun a=>Au (fun b=>f a b) k) l=Au (fun b=>Au (fun a=>f a b) l) k
 | [],k=>(Bv fun _ _=>rfl).symm
 | a::l,k=>by
  show Au (fun b=>f a b) k+Au (fun a=>Au (fun b=>f a b) k) l=Au (fun b=>f a b+Au (fun a=>f a b) l) k;rw [Uv f l k,D1]
theorem V6 {α:Type}{f:α→Rat}:∀ {l:List α},(∀ a∈l,0≤f a)→0≤Au f l
 | [],_=>Rat.le_refl
 | a::l,h=>by
  have h1:=h a (List.mem_cons_self ..);have h2:=V6 fun x hx=>h x (List.mem_cons_of_mem _ hx);show 0≤f a+Au f l;grind
theorem Z5 {α:Type}{f:α→Rat}:∀ {l:List α},(∀ a∈l,0≤f a)→Au f l=0→∀ a∈l,f a=0
 | [],_,_,a,ha=>by cases ha
 | x::l,h,e,a,ha=>by
  have h1:=h x (List.mem_cons_self ..);have h2:=V6 fun y hy=>h y (List.mem_cons_of_mem _ hy);have e':f x+Au f l=0:=e;rcases List.mem_cons.1 ha with rfl | ha
  ·grind
  ·exact Z5 (fun y hy=>h y (List.mem_cons_of_mem _ hy)) (by grind) a ha
theorem Abo (C:CF)(e f:Option Par):As C e f=As C f e:=by
 cases e <;> cases f <;> simp only [As] <;> rw [Ta]
section
variable {P:List Par} {C:CF} {b d z:Option Par→Rat} {k:Rat}
def Kp (k:Rat)(b:Option Par→Rat):Option Par→Rat
 | none=>0
 | some p=>k*b (some p)
def Fv (P:List Par)(C:CF)(k:Rat)(b:Option Par→Rat):Prop:=∀ e∈Ak P,Au (fun f=>As C e f*b f) (Ak P)+Kp k b e=Ay C e
def G9 (P:List Par)(b:Option Par→Rat):Rat:=Au (fun p=>b (some p)*b (some p)) P
def Mz (z b:Option Par→Rat)(P:List Par)(C:CF):Rat:=Au (fun e=>z e*Au (fun f=>As C e f*b f) (Ak P)) (Ak P)
theorem I5 (b:Option Par→Rat):Bm b P C=Mz b b P C:=by
 unfold Bm Mz;exact Bb fun e _=>by rw [← Dr]; exact Bb fun f _=>by grind
theorem Sv (z b:Option Par→Rat):Mz z b P C=Mz b z P C:=by
 unfold Mz;rw [Bb (g:=fun e=>Au (fun f=>z e*(As C e f*b f)) (Ak P)) fun e _=>(Dr _ _).symm,Uv];exact Bb fun f _=>by rw [← Dr]; exact Bb fun e _=>by rw [Abo C e f]; grind
theorem Xm (z w b:Option Par→Rat):Mz (fun e=>z e+w e) b P C=Mz z b P C+Mz w b P C:=by
 unfold Mz;rw [← D1]; exact Bb fun e _=>by grind
theorem Ahc (z b:Option Par→Rat):Bm (fun e=>z e+b e) P C=Bm z P C+2*Mz z b P C+Bm b P C:=by
 rw [I5,I5,I5,Xm,Sv z,Sv b,Xm,Xm,Sv b z]; grind
theorem Gf (f:Option Par→Rat):Au f (Ak P)=f none+Au (fun p=>f (some p)) P:=by
 unfold Ak; show f none+_=_; rw [On]
theorem Fv.bil (h:Fv P C k b)(z:Option Par→Rat):Mz z b P C=Au (fun e=>z e*Ay C e) (Ak P) - k*Au (fun p=>z (some p)*b (some p)) P:=by
 have:Mz z b P C=Au (fun e=>z e*Ay C e + -(z e*Kp k b e)) (Ak P):=Bb fun e he=>by rw [← h e he]; grind
 rw [this,D1];have e2:Au (fun e=>-(z e*Kp k b e)) (Ak P) = -(k*Au (fun p=>z (some p)*b (some p)) P):=by
  rw [Gf,← Dr];have:Au (fun p=>-(z (some p)*Kp k b (some p))) P=Au (fun p=>(-1)*(k*(z (some p)*b (some p)))) P:=Bb fun p _=>by unfold Kp; grind
  rw [this,Dr]; unfold Kp; grind
 rw [e2]; grind
theorem Fv.bias (h:Fv P C k b):Kf b P C=0:=by
 have h1:=h none (by unfold Ak; simp);unfold Kf;rw [Bb (g:=fun f=>As C none f*b f) fun f _=>Rat.mul_comm _ _];have e:Ay C none=C.s Aq:=rfl;rw [e] at h1;unfold Kp at h1;grind
theorem Fv.loss (h:Fv P C k b)(z:Option Par→Rat):sqC (fun e=>z e+b e) P C+k*G9 P (fun e=>z e+b e)=sqC b P C+k*G9 P b+(Bm z P C+k*G9 P z):=by
 have h1:=h.bil z;have h2:Au (fun e=>(z e+b e)*Ay C e) (Ak P)=Au (fun e=>z e*Ay C e) (Ak P)+Au (fun e=>b e*Ay C e) (Ak P):=by
  rw [← D1]; exact Bb fun e _=>by grind
 have h3:G9 P (fun e=>z e+b e)=G9 P z+(Au (fun p=>z (some p)*b (some p)) P*2+G9 P b):=by
  unfold G9; rw [← Ej,← D1,← D1]; exact Bb fun p _=>by grind
 unfold sqC;rw [Ahc,h2,h3,h1];grind
theorem Rn (P:List Par)(b:Option Par→Rat):0≤G9 P b:=V6 fun p _=>by
 rcases Rat.le_total (a:=0) (b:=b (some p)) with h | h
 ·exact Rat.mul_nonneg h h
 ·have:=Rat.mul_nonneg (a:=-b (some p)) (b:=-b (some p)) (by grind) (by grind);grind
theorem Fv.least (h:Fv P C k b)(hk:0≤k)(hp:∀ z,0≤Bm z P C)(d:Option Par→Rat):sqC b P C+k*G9 P b≤sqC d P C+k*G9 P d:=by
 have h1:=h.loss fun e=>d e - b e;have e:(fun e=>d e - b e+b e)=d:=funext fun e=>by grind
 rw [e] at h1;have h2:=hp fun e=>d e - b e;have h3:=Rat.mul_nonneg hk (Rn P fun e=>d e - b e);grind
theorem Aji (hk:0 < k)(hc:0 < C.c)(hp:∀ z,0≤Bm z P C)(hz:∀ e∈Ak P,Au (fun f=>As C e f*z f) (Ak P)+Kp k z e=0):∀ e∈Ak P,z e=0:=by
 have h1:Mz z z P C+k*G9 P z=0:=by
  have:Mz z z P C=Au (fun e=>(-1)*(z e*Kp k z e)) (Ak P):=Bb fun e he=>by have:=hz e he; grind
  rw [this,Dr,Gf];have e2:Au (fun p=>z (some p)*Kp k z (some p)) P=k*G9 P z:=by unfold G9; rw [← Dr]; exact Bb fun p _=>by unfold Kp; grind
  rw [e2]; unfold Kp; grind
 rw [← I5] at h1;have h2:=hp z;have h3:=Rn P z;have h4:=Rat.mul_nonneg (Rat.le_of_lt hk) h3;have h5:G9 P z=0:=by
  have:k*G9 P z=0:=by grind
  rcases Rat.mul_eq_zero.1 this with e | e
  ·rw [e] at hk; exact absurd hk (by decide +kernel)
  ·exact e
 have h6:∀ p∈P,z (some p)=0:=fun p hp=>by
  have:=Z5 (fun q _=>by
   rcases Rat.le_total (a:=0) (b:=z (some q)) with h | h
   ·exact Rat.mul_nonneg h h
   ·have:=Rat.mul_nonneg (a:=-z (some q)) (b:=-z (some q)) (by grind) (by grind);grind) h5 p hp
  rcases Rat.mul_eq_zero.1 this with e | e <;> exact e
 have h7:z none=0:=by
  have:=hz none (by unfold Ak; simp);rw [Gf,Bv fun p hp=>by rw [h6 p hp,Rat.mul_zero]] at this;have e:C.c*z none=0:=by
   have e1:As C none none=C.c:=rfl;rw [e1] at this; unfold Kp at this; grind
  rcases Rat.mul_eq_zero.1 e with e | e
  ·rw [e] at hc; exact absurd hc (by decide +kernel)
  ·exact e
 intro e he;unfold Ak at he;rcases List.mem_cons.1 he with rfl | he
 ·exact h7
 ·obtain ⟨p,hp,rfl⟩:=List.mem_map.1 he; exact h6 p hp
end
theorem Ahu {T:List (List UInt8×Nat)}{F:List Ao}{lab:Int}(hF:Dk T F lab)(h1:-1≤lab)(h2:∀ l:Nat,lab=(l:Int)→l < T.length)(z:Option Par→Rat)(P:List Par):∀ {L:List E7},(∀ y∈L,Cr T y.1)→0≤Bm z P (C8 F lab L):=by
 intro L;induction L using Iv with
 | h0=>exact fun _=>by show 0≤Bm z P (CF.num 0); rw [Ans.norm z P]; exact Rat.le_refl
 | h1 L y ih =>
  intro h;have i1:=ih fun z hz=>h z (List.mem_append_left _ hz);have hy:=h y (by simp);have hlen:=hy.len;rw [F5,Uu];rcases L9 hF hy h1 (fun l hl=>by have:=h2 l hl; omega) with ⟨_,o⟩ | ⟨_,o⟩
  ·rw [o.norm];generalize Ua z P (cfT F lab y.1).s=v;have hw:(0:Rat)≤(y.2.1:Rat):=by
    have:((0:Nat):Rat)≤(y.2.1:Rat):=Rat.natCast_le_natCast.2 (Nat.zero_le _);exact this
   have hv:0≤v*v:=by
    rcases Rat.le_total (a:=0) (b:=v) with h | h
    ·exact Rat.mul_nonneg h h
    ·have:=Rat.mul_nonneg (a:=-v) (b:=-v) (by grind) (by grind);grind
   have:=Rat.mul_nonneg hv hw;grind
  ·rw [o.norm]; grind
end
section
open Go.RowKit Go.MapKept
variable {F:List Ao}{n:Nat}
section
variable {P:Program} [Ba P] {fn:Func} {Post:B0} {st:List KI×S} {u m:PH}
theorem G.storeE {t:TypeId}(sz i:Nat)(m0:PH)(es:List Value)(g n c j:Nat)(e e' x:Value)(h:Al P (adv P st)=.store (some 1) (.pointer (some ⟨g,0+j*sz+i,none⟩)) x)(ha:Ae m0 m (.slice (some ⟨g,0,none⟩) n c) t sz es)(hj:es[j]?=some e)(hi:i < sz)(he:e'.cells.toList=e.cells.toList.set i x)(hx:x.cells = #[x])(hxo:Be x=true)
  (k:∀ m',Ae m0 m' (.slice (some ⟨g,0,none⟩) n c) t sz (es.set j e')→G P fn Post (nx (adv P st) undef) u m'):G P fn Post st u m:=by
 obtain ⟨hok,hh⟩:=ha;obtain ⟨hjl,rfl⟩:=List.getElem?_eq_some_iff.1 hj;rcases hh with ⟨hn,_,_⟩ | ⟨g',cap,rest,h0,rfl,hv,hc,hl,hr⟩
 ·cases hn
 ·simp only [Value.slice.injEq,Option.some.injEq,Addr.mk.injEq] at hv;obtain ⟨⟨rfl,_⟩,rfl,rfl⟩:=hv;have hsz:=(hok _ (List.getElem_mem hjl)).1;have hco:=(hok _ (List.getElem_mem hjl)).2;have hfl:=A2 hok;have hle:j*sz+sz≤es.length*sz:=by
   have:=Nat.mul_le_mul_right sz hjl;rw [Nat.succ_mul] at this;exact this
  have hes':e'.cells.size=sz:=by
   rw [← Array.length_toList,he,List.length_set,Array.length_toList]; exact hsz
  have hok':A3 sz (es.set j e'):=hok.set ⟨hes',fun y hy=>by
   rw [he] at hy;rcases List.mem_or_eq_of_mem_set hy with hy | rfl
   ·exact hco y hy
   ·exact hxo⟩
  refine G.storeM 1 g (0+j*sz+i) t (Az es++rest) x h (Ac _ _ _) (fun y hy=>?_) (by rw [List.length_append,hfl]; omega) (by rw [hx]; rfl) (by rw [hx]; simp [hxo]) ?_
  ·rcases List.mem_append.1 hy with hy | hy
   ·exact Ep hok y hy
   ·exact hr y hy
  ·rw [Dh];have e1:(Az es++rest).take (0+j*sz+i)++x.cells.toList++(Az es++rest).drop (0+j*sz+i+1)=Az (es.set j e')++rest:=by
    have h1:Az (es.set j e')=(Az es).set (j*sz+i) x:=by
     have q1:=Nv (e:=e') hok hes' hjl;have q2:=Nv (e:=es[j]) hok hsz hjl;rw [List.set_getElem_self] at q2;rw [q1,he]
     conv=>rhs; rw [q2]
     have hlt:((Az es).take (j*sz)).length=j*sz:=by rw [List.length_take,hfl]; omega
     have hle2:es[j].cells.toList.length=sz:=by simpa using hsz
     rw [List.append_assoc,List.append_assoc,List.set_append_right _ _ (by omega),hlt,Nat.add_sub_cancel_left,List.set_append_left _ _ (by omega)]
    have h2:(Az es++rest).set (j*sz+i) x=(Az es).set (j*sz+i) x++rest:=List.set_append_left _ _ (by omega);rw [h1,← h2,List.set_eq_take_append_cons_drop,if_pos (by rw [List.length_append]; omega),hx,Nat.zero_add];simp
   rw [e1];refine k _ ⟨hok',.inr ⟨g,c,rest,h0,rfl,by rw [List.length_set],by rw [List.length_set]; exact hc,?_,hr⟩⟩;rw [List.length_append,A2 hok',List.length_set,← hfl,← List.length_append]; exact hl
end
theorem Aps {u:PH}{v:Value}{a:Nat}(h:Ab u v 3 (F.map B6))(hl:F.length≤1000000):Fn0 prog 101 [v,.int .i64 (a:Int)] u fun r _=>r=.bool (F.any fun f=>f.1 == a):=by
 obtain ⟨xa,xc,rfl⟩:=h.opn;rw [List.length_map] at h ⊢;refine Fn0.o func101 ?_;refine G.l (ι:=Nat) (fun i=>[(1,.v (.int .i64 (a:Int))),(7,.v (.slice xa F.length xc)),(8,.v (.int .i64 (F.length:Int))),(9,.v (.int .i64 (i:Int)))]) (fun _=>[])
  (fun i u' m'=>i≤F.length∧(∀ j f,j < i→F[j]?=some f→f.1≠a)∧m'=PH.mt) (fun i=>F.length - i) 0 ⟨by omega,fun j f hj=>by omega,rfl⟩ ?_
 rintro J i hJ u2 m2 l2 ⟨hi,h0,rfl⟩;by_cases hlt:i < F.length
 ·refine G.lT (i:Int) (F.length:Int) ?_;obtain ⟨f,hFi⟩:∃ f,F[i]?=some f:=⟨_,List.getElem?_eq_getElem hlt⟩;obtain ⟨fb,fo,rfl,ef⟩:=Ab.at' (h.mono l2) (j:=i) (e:=B6 f) (by simp [hFi]);obtain ⟨p1,p2,p3⟩:=f;refine G.a fb fo F.length xc i 3 hlt ?_;refine G.lU (some 3) fb (fo+i*3) (.agg #[.int .i64 (p1:Int),.int .i64 (p2:Int),.int .i64 (p3:Int)]) ef ?_;by_cases he:p1=a
  ·refine G.eT (p1:Int) (a:Int) ?_;exact G.r (.bool true) ⟨rfl,by
    rw [List.any_eq_true.2 ⟨_,List.mem_of_getElem? hFi,by simpa using he⟩]⟩
  ·refine G.eF (p1:Int) (a:Int) ?_;refine G.i i ?_;exact G.b (hJ (i+1) _ _ _ cv l2 ⟨by omega,fun j g hj hg=>by
    rcases (by omega:j < i∨j=i) with e | rfl
    ·exact h0 j g e hg
    ·rw [hFi] at hg; cases hg; exact he,rfl⟩ (by omega))
 ·obtain rfl:i=F.length:=by omega
  refine G.lF (F.length:Int) (F.length:Int) ?_;exact G.r (.bool false) ⟨rfl,by
   rw [List.any_eq_false.2 fun f hf=>by
    obtain ⟨j,hj,rfl⟩:=List.getElem_of_mem hf;simpa using h0 j _ hj (List.getElem?_eq_getElem hj)]⟩
def nmB (j:Nat):List UInt8:=[98]++[Uj j]
theorem Ajn {j:Nat}(h:j < 26):Gw (nmB j)=true:=by
 have h2:∀ n:Fin 26,Gw (nmB n.val)=true:=by decide +kernel
 exact h2 ⟨j,h⟩
theorem Alq {l:List Nat}(h1:∀ a∈l,a < n)(h2:∀ (k:Nat) x y,l[k]?=some x→l[k+1]?=some y→x < y):l.length≤n:=by
 have h:∀ k (hk:k < l.length),k≤l[k]:=by
  intro k;induction k with
  | zero=>intro _; omega
  | succ k ih =>
   intro hk;have:=ih (by omega);have:=h2 k _ _ (List.getElem?_eq_getElem (by omega)) (List.getElem?_eq_getElem hk);omega
 rcases Nat.eq_zero_or_pos l.length with e | e
 ·omega
 ·have h3:=h (l.length - 1) (by omega);have h4:=h1 _ (List.getElem_mem (show l.length - 1 < l.length by omega));omega
theorem Ahn {u u':PH}{R0:List Bk}{r:Bk}{a':Option Addr}{c':Nat}(h:Mh u n (R0++[r]))(hl:PH.le u u')(hn:n≤900)(hL:Ab u' (.slice a' (r.2.1++[n]).length c') 1 (Ag (r.2.1++[n]))):Mh u' (n+1) (R0++[(r.1,r.2.1++[n],(a',c'))]):=by
 have hr:r∈R0++[r]:=by simp
 have h0:∀ x∈R0,x∈R0++[r]:=fun x hx=>List.mem_append_left _ hx;have split:∀ x,x∈R0++[(r.1,r.2.1++[n],(a',c'))]→x∈R0∨x=(r.1,r.2.1++[n],(a',c')):=fun x hx=>by
  rcases List.mem_append.1 hx with hx | hx
  ·exact .inl hx
  ·exact .inr (by simpa using hx)
 refine ⟨?_,?_,?_,?_,?_,?_,?_⟩
 ·have:=h.names;rw [List.map_append] at this ⊢;exact this
 ·intro x hx;rcases split x hx with hx | rfl
  ·exact h.ne x (h0 x hx)
  ·simp
 ·intro x hx a ha;rcases split x hx with hx | rfl
  ·have:=h.lt x (h0 x hx) a ha; omega
  ·rcases List.mem_append.1 ha with ha | ha
   ·have:=h.lt r hr a ha; omega
   ·simp at ha; omega
 ·intro x hx;rcases split x hx with hx | rfl
  ·exact h.len x (h0 x hx)
  ·have:=Alq (h.lt r hr) (h.asc r hr);simp only [List.length_append,List.length_singleton]; omega
 ·intro x hx k a b ha hb;rcases split x hx with hx | rfl
  ·exact h.asc x (h0 x hx) k a b ha hb
  ·simp only at ha hb;rcases Nat.lt_or_ge (k+1) r.2.1.length with hk | hk
   ·rw [List.getElem?_append_left (by omega)] at ha hb;exact h.asc r hr k a b ha hb
   ·rw [List.getElem?_append_right hk] at hb;have hk0:k+1 - r.2.1.length=0:=by
     obtain ⟨q,_⟩:=List.getElem?_eq_some_iff.1 hb;simp at q; omega
    rw [hk0] at hb;simp at hb;subst hb;rw [List.getElem?_append_left (by omega)] at ha;exact h.lt r hr a (List.mem_of_getElem? ha)
 ·intro a ha;by_cases e:a=n
  ·subst e; exact ⟨_,by simp; right; rfl,by simp⟩
  ·obtain ⟨x,hx,hax⟩:=h.all a (by omega);rcases List.mem_append.1 hx with hx | hx
   ·exact ⟨x,List.mem_append_left _ hx,hax⟩
   ·simp at hx; subst hx;exact ⟨_,by simp; right; rfl,List.mem_append_left _ hax⟩
 ·intro x hx;rcases split x hx with hx | rfl
  ·exact (h.at' x (h0 x hx)).mono hl
  ·exact hL
theorem Ag5 {u u':PH}{T:List (List UInt8×Nat)}{R R':List Bk}{lab:Int}(ok:Bn u T R F lab)(hT:T.length≤11)(hn:∀ a∈T,a.1≠nmB T.length)(hR:Mh u' (T.length+1) R')(hRl:R'.length=R.length):Bn u' (T++[(nmB T.length,2)]) R' F lab:=by
 have hw:=Ajn (j:=T.length) (by omega);refine ⟨⟨⟨?_,?_⟩,?_⟩,?_,⟨?_,ok.feat.nodup⟩,?_,?_,?_,?_,ok.f2,ok.l1,?_⟩
 ·intro s hs;rw [List.map_append] at hs;rcases List.mem_append.1 hs with hs | hs
  ·exact ok.att.names.word s hs
  ·simp at hs; subst hs; exact hw
 ·rw [List.map_append,List.nodup_append];refine ⟨ok.att.names.nodup,by simp,fun a ha b hb e=>?_⟩;simp at hb;obtain ⟨x,hx,rfl⟩:=List.mem_map.1 ha;exact hn x hx (e.trans hb)
 ·intro a ha;rcases List.mem_append.1 ha with ha | ha
  ·exact ok.att.kind a ha
  ·simp at ha; subst ha; exact ⟨by simp,by simp⟩
 ·rw [List.length_append]; exact hR
 ·intro f hf;obtain ⟨n,k,h1,h2⟩:=ok.feat.ok f hf;exact ⟨n,k,by rw [List.getElem?_append_left (List.getElem?_eq_some_iff.1 h1).1]; exact h1,h2⟩
 ·rw [List.length_append]; simp
 ·rw [List.length_append]; simp; omega
 ·rw [hRl]; exact ok.r1
 ·rw [hRl]; exact ok.r2
 ·intro l hl;obtain ⟨n,h1⟩:=ok.l2 l hl;exact ⟨n,by rw [List.getElem?_append_left (List.getElem?_eq_some_iff.1 h1).1]; exact h1⟩
end
section
open Go.RowKit Go.MapKept
theorem Rs (T:List (List UInt8×Nat)):A3 2 (T.map D0):=by
 intro e he;obtain ⟨x,_,rfl⟩:=List.mem_map.1 he;exact ⟨rfl,fun y hy=>by simp [D0,Value.cells] at hy; rcases hy with rfl | rfl <;> rfl⟩
theorem Aje (R:List Bk):A3 2 (R.map Gb):=by
 intro e he;obtain ⟨x,_,rfl⟩:=List.mem_map.1 he;exact Nk x _ (by simp)
theorem Ane {u:PH}{v:Value}{T:List (List UInt8×Nat)}{R:List Bk}{F:List Ao}{lab:Int}(hX:F1 u v T R F lab)(ok:Bn u T R F lab)(hT:T.length≤11)(hn:∀ a∈T,a.1≠nmB T.length) :
  Fn0 prog 102 [v,.int .i64 2] u fun r u'=>∃ R',F1 u' r (T++[(nmB T.length,2)]) R' F lab∧Bn u' (T++[(nmB T.length,2)]) R' F lab:=by
 obtain ⟨xa,xc,xb,xd,xe,xf,rfl,hTL,hRL,hFL⟩:=hX;have r1:=ok.r1;have r2:=ok.r2;obtain ⟨R0,r,rfl⟩:∃ R0 r,R=R0++[r]:=⟨R.dropLast,R.getLast (fun e=>by rw [e] at r1; simp at r1),(List.dropLast_concat_getLast _).symm⟩;have hrl:=ok.rel.at' r (by simp);have hll:=ok.rel.len r (by simp);refine Fn0.o func102 ?_;refine G.appendL 92 2 24 (.agg #[.string (mkS []),.int .i64 0]) PH.mt [] (T.map D0) (.slice none 0 0) xa T.length xc (by kernel_rfl) rfl rfl (by omega) (Ae.nil _ _ _) hTL (Rs T) (by simp; omega) (by simp; omega) ?_;intro v1 m1 hA1;rw [List.nil_append] at hA1;obtain ⟨a1,c1,rfl⟩:=hA1.shape;rw [List.length_map] at hA1 ⊢;refine G.c call179 (N9 (p:=[98]) (i:=T.length) (by omega) (by simp)) ?_;rintro v2 u2 l2 rfl;refine G.B 92 2 24 (.agg #[.string (mkS []),.int .i64 0]) [.agg #[.string (mkS ([98]++[Uj T.length])),.int .i64 2]] (Rs [(nmB T.length,2)]) ?_;intro g3 u3 l3 e3;refine G.k 92 2 24 (.agg #[.string (mkS []),.int .i64 0]) PH.mt (T.map D0) [D0 (nmB T.length,2)] (.slice a1 T.length c1) g3 0 1 1 hA1 e3 (Rs [(nmB T.length,2)]) ?_;intro v4 m4 hA4;rw [show T.map D0++[D0 (nmB T.length,2)]=(T++[(nmB T.length,2)]).map D0 by rw [List.map_append]; rfl] at hA4;obtain ⟨a4,c4,rfl⟩:=hA4.shape;rw [List.length_map] at hA4 ⊢;refine G.appendL 94 2 40 (.agg #[.string (mkS []),.slice none 0 0]) m4 [] ((R0++[r]).map Gb) (.slice none 0 0) xb (R0++[r]).length xd (by kernel_rfl) rfl rfl (by omega) (Ae.nil _ _ _) (hRL.mono (l2.trans l3)) (Aje _) (by rw [List.length_map]; simp at r2 ⊢; omega) (by rw [List.length_map]; simp at r2 ⊢; omega) ?_;intro v5 m5 hA5;rw [List.nil_append] at hA5;obtain ⟨b5,c5,rfl⟩:=hA5.ptr (by simp);rw [List.length_map] at hA5 ⊢;have hRl:(R0++[r]).length=R0.length+1:=by simp
 refine G.s ((R0++[r]).length:Int) 1 (R0.length:Int) ?_;refine G.a b5 0 (R0++[r]).length c5 R0.length 2 (by omega) ?_;have hel:ElP m5 b5 (0+R0.length*2) (Gb r):=hA5.el (by simp);refine G.f 94 b5 (0+R0.length*2) 1 1 ?_;refine G.lM none b5 (0+R0.length*2+1) (.slice r.2.2.1 r.2.1.length r.2.2.2) (hel.fld (j:=1) (xs:=#[.string (mkS r.1),.slice r.2.2.1 r.2.1.length r.2.2.2]) rfl rfl) ?_;have hil:(Ag r.2.1).length=r.2.1.length:=by simp [Ag]
 refine G.appendL 3 1 8 (.int .i64 0) m5 [] (Ag r.2.1) (.slice none 0 0) r.2.2.1 r.2.1.length r.2.2.2 (by kernel_rfl) rfl rfl (by omega) (Ae.nil _ _ _) (hrl.mono (l2.trans l3)) (Ax _) (by simp [hil]; omega) (by simp [hil]; omega) ?_;intro v6 m6 hA6;rw [List.nil_append] at hA6;obtain ⟨a6,c6,rfl⟩:=hA6.shape;rw [hil] at hA6 ⊢;refine G.buildU 3 1 8 (.int .i64 0) (Ag [T.length]) (by kernel_rfl) (Ax [T.length]) rfl (by omega) (by simp [Ag]) (by simp [Ag]) ?_;intro g7 u7 l7 e7;refine G.append 3 1 8 (.int .i64 0) m5 (Ag r.2.1) (Ag [T.length]) (.slice a6 r.2.1.length c6) g7 0 1 1 (by kernel_rfl) rfl rfl (by omega) hA6 e7 (Ax [T.length]) rfl (by omega) (by simp [hil]; omega) (by simp [hil]; omega) ?_;intro v8 m8 hA8;rw [show Ag r.2.1++Ag [T.length]=Ag (r.2.1++[T.length]) by simp [Ag]] at hA8;obtain ⟨a8,c8,rfl⟩:=hA8.shape;have hil2:(Ag (r.2.1++[T.length])).length=(r.2.1++[T.length]).length:=by simp [Ag]
 rw [hil2] at hA8 ⊢;obtain ⟨mx,hy1,hx1,hput⟩:=At.swap (x:=⟨.slice (some ⟨b5,0,none⟩) (R0++[r]).length c5,94,2,(R0++[r]).map Gb⟩) (y:=⟨.slice a8 (r.2.1++[T.length]).length c8,3,1,Ag (r.2.1++[T.length])⟩) hA8 hA5;refine G.f 94 b5 (0+R0.length*2) 1 1 ?_;refine G.storeE (t:=94) 2 1 mx ((R0++[r]).map Gb) b5 (R0++[r]).length c5 R0.length (Gb r) (Gb (r.1,r.2.1++[T.length],(a8,c8))) (.slice a8 (r.2.1++[T.length]).length c8) (by kernel_rfl) hx1 (by simp) (by omega) rfl rfl rfl ?_;intro m9 hA9;have e9:((R0++[r]).map Gb).set R0.length (Gb (r.1,r.2.1++[T.length],(a8,c8)))=(R0++[(r.1,r.2.1++[T.length],(a8,c8))]).map Gb:=by
  rw [List.map_append,List.map_append,List.set_append_right _ _ (by simp),List.length_map,Nat.sub_self]; rfl
 rw [e9] at hA9;have hlm:PH.le mx m9:=fun g o hg=>hA9.see hg;obtain ⟨my,hz1,hz2⟩:=hput ⟨.slice (some ⟨b5,0,none⟩) (R0++[r]).length c5,94,2,(R0++[(r.1,r.2.1++[T.length],(a8,c8))]).map Gb⟩ m9 hA9;have hl4:PH.le m4 m9:=fun g o hg=>hlm g o (hy1.see hg);refine G.giveP (ma:=m9) (sm:=PH.mt) (by kernel_rfl) (Aii m9).symm (fun g=>.inr rfl) (fun g=>.inl rfl) ?_;intro u10 l10 hm10;have leA:=((l2.trans l3).trans l7).trans l10;have hR':Mh u10 (T.length+1) (R0++[(r.1,r.2.1++[T.length],(a8,c8))]):=Ahn ok.rel leA (by omega) (Ae.list hy1 (hlm.trans hm10));have hlen':(R0++[(r.1,r.2.1++[T.length],(a8,c8))]).length=(R0++[r]).length:=by simp
 exact G.r (.agg #[.slice a4 (T++[(nmB T.length,2)]).length c4,.slice (some ⟨b5,0,none⟩) (R0++[r]).length c5,.slice xe F.length xf,.int .i64 lab]) ⟨rfl,_,⟨_,_,_,_,_,_,by rw [hlen'],Ae.list hA4 (hl4.trans hm10),by rw [hlen']; exact Ae.list hA9 hm10,hFL.mono leA⟩,Ag5 ok hT hn hR' hlen'⟩
end
section
open Go.RowKit Go.MapKept
variable {R:List Bk}{T:List (List UInt8×Nat)}{a:Nat}{lab:Int}{n:List UInt8}{u:PH}
def Af1 (T:List (List UInt8×Nat)):Prop:=∀ a∈T,(∃ j,a.1=nmA j)∨∃ j,j < T.length∧a.1=nmB j
theorem Ain (h:Af1 T)(hT:T.length < 26):∀ a∈T,a.1≠nmB T.length:=by
 intro a ha e;rcases h a ha with ⟨j,hj⟩ | ⟨j,hj,e2⟩
 ·rw [hj] at e;unfold nmA nmB at e;simp at e
 ·rw [e2] at e;unfold nmB at e;simp only [List.cons_append,List.nil_append,List.cons.injEq,and_true,true_and] at e;have h1:=Rk (i:=j) (by omega);have h2:=Rk (i:=T.length) hT;rw [e,h2] at h1;omega
theorem Af1.snoc (h:Af1 T)(k:Nat):Af1 (T++[(nmB T.length,k)]):=by
 intro a ha;rcases List.mem_append.1 ha with ha | ha
 ·rcases h a ha with h1 | ⟨j,hj,e⟩
  ·exact .inl h1
  ·exact .inr ⟨j,by simp; omega,e⟩
 ·simp at ha; subst ha;exact .inr ⟨T.length,by simp,rfl⟩
theorem TOK.nmOK (h:TOK T):Af1 T:=by
 intro a ha;have:a.1∈T.map (·.1):=List.mem_map.2 ⟨a,ha,rfl⟩;rw [h.nm] at this;obtain ⟨j,_,e⟩:=List.mem_map.1 this;exact .inl ⟨j,e.symm⟩
theorem Aea {F:List Ao}(ok:Bn u T R F lab)(ha:T[a]?=some (n,2))(hF:∀ f∈F,f.1≠a):Bn u T R F (a:Int):=by
 refine ⟨ok.att,ok.rel,⟨fun f hf=>?_,ok.feat.nodup⟩,ok.t1,ok.t2,ok.r1,ok.r2,ok.f2,by omega,fun l hl=>?_⟩
 ·obtain ⟨n,k,h1,h2,_⟩:=ok.feat.ok f hf;have:=hF f hf;exact ⟨n,k,h1,h2,by omega⟩
 ·have:l=a:=by omega
  subst this; exact ⟨n,ha⟩
theorem Ai8 (ok:Bn u T R [] lab){a mi:Nat}(ha:T[a]?=some (n,2))(hl:(a:Int)≠lab)(hm:mi≤1):Bn u T R [(a,1,mi)] lab:=by
 refine ⟨ok.att,ok.rel,⟨fun f hf=>?_,by simp⟩,ok.t1,ok.t2,ok.r1,ok.r2,by simp,ok.l1,ok.l2⟩;simp at hf; subst hf;exact ⟨n,2,ha,.inl ⟨rfl,rfl,hm⟩,hl⟩
theorem Wy {s:Src}{ts:List Int}{k:Nat}(most:Nat)(hm1:1≤most)(hm6:most≤6)(h:H0 u s ts)(hk:k≤s.n) :
  Ai prog 45 [s.ptr,.int .i64 (most:Int)] u (s.M k) fun v u' m'=>∃ (T:List (List UInt8×Nat)) (R:List Bk) (F:List Ao) (lab:Int) (k':Nat),F1 u' v T R F lab∧Bn u' T R F lab∧T.length≤8∧0≤lab∧F≠[]∧k'≤s.n∧m'=s.M k'∧F.length≤most:=by
 refine Ai.o func45 ?_;refine G.A call100 (Z1 most hm1 hm6 h hk) ?_;rintro v1 u1 m1 l1 ⟨T,R,F,lab,k1,hX,ok,hT6,hk1,rfl,hTOK,_,hFm⟩ _;rw [C2];have hnm:=hTOK.nmOK;obtain ⟨xa,xc,xb,xd,xe,xf,rfl,hTL,hRL,hFL⟩:=id hX;have ol1:=ok.l1;have hf8:=ok.f2;refine G.joinF (ι:=Int) (fun st=>Xy prog st [.bool false]) (fun z=>[(0,.v s.ptr),(4,.p 0 0),(5,.p 1003 0)])
  (fun z=>[(0,⟨31,[.v (.slice none 0 0),.v (.slice none 0 0),.v (.slice none 0 0),.v (.int .i64 0)]⟩),(1003,⟨31,[.v (.slice xa T.length xc),.v (.slice xb R.length xd),.v (.slice xe F.length xf),.v (.int .i64 z)]⟩)])
  (fun z u' m'=>m'=s.M k1∧Bn u' T R F z) (fun _=>by kernel_rfl) (by kernel_rfl) ?tail ?way
 case way =>
  intro hjoin;by_cases hl:lab < 0
  ·refine G.lT' lab 0 hl ?_;refine G.l (ι:=Nat×Int) (fun i=>[(0,.v s.ptr),(4,.p 0 0),(5,.p 1003 0),(15,.v (.slice xa T.length xc)),(16,.v (.int .i64 (T.length:Int))),(17,.v (.int .i64 (i.1:Int)))])
    (fun i=>[(0,⟨31,[.v (.slice none 0 0),.v (.slice none 0 0),.v (.slice none 0 0),.v (.int .i64 0)]⟩),(1003,⟨31,[.v (.slice xa T.length xc),.v (.slice xb R.length xd),.v (.slice xe F.length xf),.v (.int .i64 i.2)]⟩)])
    (fun i u' m'=>i.1≤T.length∧m'=s.M k1∧Bn u' T R F i.2) (fun i=>T.length - i.1) (0,lab) ⟨by omega,rfl,ok⟩ ?_
   rintro J ⟨i,z⟩ hJ u2 m2 l2 ⟨hi,rfl,ok2⟩;simp only at hi ok2 hJ;by_cases hlt:i < T.length
   ·refine G.lT (i:Int) (T.length:Int) ?_;obtain ⟨x,hTi⟩:∃ x,T[i]?=some x:=⟨_,List.getElem?_eq_getElem hlt⟩;obtain ⟨ba,oa,rfl,ea⟩:=Ab.at' (hTL.mono l2) (j:=i) (e:=D0 x) (by simp [hTi]);obtain ⟨xn,xk⟩:=x;refine G.a ba oa T.length xc i 2 hlt ?_;refine G.lU (some 2) ba (oa+i*2) (.agg #[.string (mkS xn),.int .i64 (xk:Int)]) ea ?_;by_cases h2:xk=2
    ·subst h2;refine G.eT ((2:Nat):Int) 2 ?_;refine G.c call101 (Aps (a:=i) (hFL.mono l2) (by omega)) ?_;rintro v3 u3 l3 rfl;cases hu:F.any fun f=>f.1 == i with
     | true =>
      refine G.i i ?_;exact G.b (hJ (i+1,z) _ _ _ cv (l2.trans l3) ⟨by dsimp only; omega,rfl,ok2.mono l3⟩ (by dsimp only; omega))
     | false =>
      refine G.i i ?_;exact G.b (hJ (i+1,(i:Int)) _ _ _ cv (l2.trans l3) ⟨by dsimp only; omega,rfl,Aea (ok2.mono l3) hTi fun f hf e=>by
       have:=List.any_eq_false.1 hu f hf;simp [e] at this⟩ (by dsimp only; omega))
    ·refine G.eF (xk:Int) 2 ?_;refine G.i i ?_;exact G.b (hJ (i+1,z) _ _ _ cv l2 ⟨by dsimp only; omega,rfl,ok2⟩ (by dsimp only; omega))
   ·obtain rfl:i=T.length:=by omega
    refine G.lF (T.length:Int) (T.length:Int) ?_;exact hjoin z _ _ _ (by kernel_rfl) cv l2 ⟨rfl,ok2⟩
  ·refine G.lF lab 0 ?_;exact hjoin lab _ _ _ (by kernel_rfl) cv (PH.le_refl _) ⟨rfl,ok⟩
 rintro z u2 m2 l2 ⟨rfl,ok2⟩;have hX2:F1 u2 (.agg #[.slice xa T.length xc,.slice xb R.length xd,.slice xe F.length xf,.int .i64 z]) T R F z:=⟨_,_,_,_,_,_,rfl,hTL.mono l2,hRL.mono l2,hFL.mono l2⟩;have hFL2:=hFL.mono l2;clear hX hTL hRL ok hTOK hFL;refine G.joinF (ι:=(List (List UInt8×Nat)×(Option Addr×Nat))×(List Bk×(Option Addr×Nat))×(Option Addr×Nat)×Int) (fun st=>Xy prog st [.bool false]) (fun _=>[(0,.v s.ptr),(4,.p 0 0),(5,.p 1003 0)])
  (fun i=>[(0,⟨31,[.v (.slice none 0 0),.v (.slice none 0 0),.v (.slice none 0 0),.v (.int .i64 0)]⟩),(1003,⟨31,[.v (.slice i.1.2.1 i.1.1.length i.1.2.2),.v (.slice i.2.1.2.1 i.2.1.1.length i.2.1.2.2),.v (.slice i.2.2.1.1 F.length i.2.2.1.2),.v (.int .i64 i.2.2.2)]⟩)])
  (fun i u' m'=>m'=s.M k1∧Bn u' i.1.1 i.2.1.1 F i.2.2.2∧F1 u' (.agg #[.slice i.1.2.1 i.1.1.length i.1.2.2,.slice i.2.1.2.1 i.2.1.1.length i.2.1.2.2,.slice i.2.2.1.1 F.length i.2.2.1.2,.int .i64 i.2.2.2]) i.1.1 i.2.1.1 F i.2.2.2∧Af1 i.1.1∧i.1.1.length≤7∧0≤i.2.2.2) (fun _=>by kernel_rfl) (by kernel_rfl) ?tail2 ?way2
 case way2 =>
  intro hjoin;by_cases hl:z < 0
  ·refine G.lT' z 0 hl ?_;refine G.c call102 (Ane hX2 ok2 (by omega) (Ain hnm (by omega))) ?_;rintro v3 u3 l3 ⟨R',hX3,ok3⟩;obtain ⟨ya,yc,yb,yd,ye,yf,rfl,hTL3,hRL3,hFL3⟩:=id hX3;have hlen:(T++[(nmB T.length,2)]).length=T.length+1:=by simp
   refine G.s ((T++[(nmB T.length,2)]).length:Int) 1 (T.length:Int) ?_;have ok4:Bn u3 (T++[(nmB T.length,2)]) R' F (T.length:Int):=Aea ok3 (n:=nmB T.length) (by simp) fun f hf e=>by
    obtain ⟨n,kd,h1,_⟩:=ok2.feat.ok f hf;have:=(List.getElem?_eq_some_iff.1 h1).1;omega
   exact hjoin ((T++[(nmB T.length,2)],(ya,yc)),(R',(yb,yd)),(ye,yf),(T.length:Int)) _ _ _ (by kernel_rfl) cv l3 ⟨rfl,ok4,⟨_,_,_,_,_,_,rfl,hTL3,hRL3,hFL3⟩,hnm.snoc 2,by dsimp only; omega,by dsimp only; omega⟩
  ·refine G.lF z 0 ?_;exact hjoin ((T,(xa,xc)),(R,(xb,xd)),(xe,xf),z) _ _ _ (by kernel_rfl) cv (PH.le_refl _) ⟨rfl,ok2,hX2,hnm,by dsimp only; omega,by dsimp only; omega⟩
 rintro ⟨⟨T,⟨xa,xc⟩⟩,⟨R,⟨xb,xd⟩⟩,⟨xe,xf⟩,z⟩ u3 m3 l3 ⟨rfl,ok3,hX3,hnm,hT7,hz⟩;simp only at ok3 hX3 hnm hT7 hz;by_cases hF0:F = []
 ·subst hF0;refine G.eT' ((([]:List Ao).length:Nat):Int) 0 rfl ?_;refine G.c call102 (Ane hX3 ok3 (by omega) (Ain hnm (by omega))) ?_;rintro v4 u4 l4 ⟨R',hX4,ok4⟩;obtain ⟨ya,yc,yb,yd,ye,yf,rfl,hTL4,hRL4,hFL4⟩:=id hX4;have hlen:(T++[(nmB T.length,2)]).length=T.length+1:=by simp
  refine G.s ((T++[(nmB T.length,2)]).length:Int) 1 (T.length:Int) ?_;refine G.A call73 (Ia (n:=2) (h.mono (((l1.trans l2).trans l3).trans l4)) hk1 (by omega) (by omega)) ?_;rintro v5 u5 m5 l5 ⟨r,k5,rfl,hr,hk5,rfl⟩ _;rw [C2];refine G.B 144 3 24 (.agg #[.int .i64 0,.int .i64 0,.int .i64 0]) [.agg #[.int .i64 (T.length:Int),.int .i64 1,.int .i64 (r:Int)]] (Hu (T.length,1,r)) ?_;intro g6 u6 l6 e6;have hzl:((T.length:Nat):Int)≠z:=by
   intro e;obtain ⟨n,hn⟩:=ok3.l2 T.length e.symm;have:=(List.getElem?_eq_some_iff.1 hn).1;omega
  have ok6:Bn u6 (T++[(nmB T.length,2)]) R' [(T.length,1,r)] z:=Ai8 (n:=nmB T.length) (ok4.mono (l5.trans l6)) (by simp) hzl (by omega);exact G.r (.agg #[.slice ya (T++[(nmB T.length,2)]).length yc,.slice yb R'.length yd,.slice (some ⟨g6,0,none⟩) 1 1,.int .i64 z]) ⟨_,R',[(T.length,1,r)],z,k5,⟨_,_,_,_,_,_,rfl,hTL4.mono (l5.trans l6),hRL4.mono (l5.trans l6),e6.listP⟩,ok6,by omega,hz,by simp,hk5,rfl,hm1⟩
 ·refine G.eqlF (F.length:Int) 0 (by kernel_rfl) (by
   have:F.length≠0:=fun e=>hF0 (List.length_eq_zero_iff.1 e);omega) ?_
  exact G.r (.agg #[.slice xa T.length xc,.slice xb R.length xd,.slice xe F.length xf,.int .i64 z]) ⟨T,R,F,z,k1,hX3,ok3,by omega,hz,hF0,hk1,rfl,hFm⟩
end
section
open Go.RowKit Go.MapKept
variable {F:List Ao}{L:List E7}{R:List Bk}{T:List (List UInt8×Nat)}{lab:Int}{u:PH}
theorem Ana {n:Nat}(h:n≤8):46656 ^ n*7*100 < 10 ^ 100:=by
 have h1:46656 ^ n≤46656 ^ 8:=Nat.pow_le_pow_right (by omega) h;have h2:46656 ^ 8 < 10 ^ 50:=by decide +kernel
 have h3:(10:Nat) ^ 50*100000 < 10 ^ 100:=by decide +kernel
 omega
theorem S9 (ok:Bn u T R F lab)(hT:T.length≤8)(hL:∀ y∈L,Cr T y.1∧y.2.1≤7)(hl:L.length≤100):CFS (C8 F lab L)∧CFV (C8 F lab L):=by
 obtain ⟨s1,s2⟩:=Wr ok hL;refine ⟨s1.cfs (by omega) ?_,s2⟩;have hp:=Ana hT;have:=Nat.mul_le_mul_right (46656 ^ T.length*7) hl;omega
theorem Nl {v:Value}{a:Option Addr}{c:Nat}(hX:F1 u v T R F lab)(ok:Bn u T R F lab)(hT8:T.length≤8)(hL:Ab u (.slice a L.length c) 2 (L.map Id))(hW:WOK u T L)(hl:L.length≤6) :
  Fn0 prog 21 [v,.slice a L.length c] u fun r u'=>Apm u' r (C8 F lab L) 1530:=by
 have hck:=fun (u':PH) (l:PH.le u u')=>Pf (hX.mono l) (ok.mono l);obtain ⟨xa,xc,xb,xd,xe,xf,rfl,hTL,hRL,hFL⟩:=id hX;have hp8:=Ana hT8;have hall:∀ n,∀ y∈L.take n,Cr T y.1∧y.2.1≤7:=fun n y hy=>by
  obtain ⟨_,q1,_,q2⟩:=hW y (List.mem_of_mem_take hy); exact ⟨q1,q2⟩
 have hcfs:∀ n,CFS (C8 F lab (L.take n)):=fun n=>(S9 ok hT8 (hall n) (by rw [List.length_take]; omega)).1;refine Fn0.o func21 ?_;refine G.c call62 (hck u (PH.le_refl _)) ?_;rintro v1 u1 l1 rfl;refine G.nF 0 0 ?_;refine G.gF (L.length:Int) 2000 ?_;refine G.callO _ _ (by kernel_rfl) call63 (Hi (n:=0) (by omega) (by omega)) ?_;intro v2 u2 m2 l2 k2 _;rw [C2];have n0:(⟨((0:Int):Rat),fun _=>0,fun _=>0⟩:CF)=CF.num 0:=by rw [show ((0:Int):Rat)=0 by decide +kernel]; rfl
 rw [n0] at k2;obtain ⟨b,a2,n,c2,b',a',n',c',g1,g2,rfl⟩:=Ln k2;refine G.l (ι:=Nat×(Bool×SlI)×(Bool×SlI)×Nat×Nat) (fun i=>[(2,.p 0 0),(4,.p 1 0),(7,.p 6001 0),(22,.v (.slice a L.length c)),(23,.v (.int .i64 (L.length:Int))),(24,.v (.int .i64 (i.1:Int)))])
  (fun i=>[(0,⟨31,[.v (.slice xa T.length xc),.v (.slice xb R.length xd),.v (.slice xe F.length xf),.v (.int .i64 lab)]⟩),(1,⟨37,[.v (.string (mkS [])),.v (.slice none 0 0),.v (.slice none 0 0)]⟩),(6001,⟨136,[.v (.bool i.2.1.1),.v (.slice i.2.1.2.1 i.2.1.2.2.1 i.2.1.2.2.2),.v (.bool i.2.2.1.1),.v (.slice i.2.2.1.2.1 i.2.2.1.2.2.1 i.2.2.1.2.2.2),.v (.map (some i.2.2.2.1)),.v (.map (some i.2.2.2.2))]⟩)])
  (fun i u' m'=>i.1≤L.length∧H6 m' u' (.agg #[.bool i.2.1.1,.slice i.2.1.2.1 i.2.1.2.2.1 i.2.1.2.2.2,.bool i.2.2.1.1,.slice i.2.2.1.2.1 i.2.2.1.2.2.1 i.2.2.1.2.2.2,.map (some i.2.2.2.1),.map (some i.2.2.2.2)]) (C8 F lab (L.take i.1)) (255*i.1))
  (fun i=>L.length - i.1) (0,(b,a2,n,c2),(b',a',n',c'),g1,g2) ⟨by omega,k2⟩ ?_
 rintro J ⟨i,⟨b,a2,n,c2⟩,⟨b',a',n',c'⟩,g1,g2⟩ hJ u3 m3 l3 ⟨hi,hC⟩;simp only at hi hC hJ;have le3:=(l1.trans l2).trans l3;by_cases hlt:i < L.length
 ·refine G.lT (i:Int) (L.length:Int) ?_;obtain ⟨y,hLi⟩:∃ y,L[i]?=some y:=⟨_,List.getElem?_eq_getElem hlt⟩;obtain ⟨hS,hT,hw1,hw2⟩:=hW y (List.mem_of_getElem? hLi);obtain ⟨ba,oa,rfl,ea⟩:=Ab.at' (hL.mono le3) (j:=i) (e:=Id y) (by simp [hLi]);obtain ⟨ss,w,ya,yc⟩:=y;simp only at hS hT hw1 hw2;have htk:L.take (i+1)=L.take i++[(ss,w,ya,yc)]:=by rw [List.take_add_one,hLi]; rfl
  have hP:Af5 u (.agg #[.slice xa T.length xc,.slice xb R.length xd,.slice xe F.length xf,.int .i64 lab]) (.slice ya ss.length yc) T R F lab ss:=⟨hX,ok,hS,hT⟩;have hlen:=hT.len;obtain ⟨d1,d2⟩:=Ag1 ok hT;have sK:CFS ((cfT F lab ss).scale (w:Rat)):=(d1.scale (Akk hw2)).cfs (by omega) (by omega);have hsum:C8 F lab (L.take (i+1))=(C8 F lab (L.take i)).add ((cfT F lab ss).scale (w:Rat)):=by rw [htk,F5]
  refine G.a ba oa L.length c i 2 hlt ?_;refine G.lU (some 2) ba (oa+i*2) (.agg #[.slice ya ss.length yc,.int .i64 (w:Int)]) ea ?_;refine G.c call64 (Afu (hP.mono le3)) ?_;rintro v4 u4 l4 rfl;refine G.nF 0 0 ?_;refine G.lF (w:Int) (-1000000000000) ?_;refine G.gF (w:Int) 1000000000000 ?_;refine G.c call66 (Ajz (hP.mono (le3.trans l4)) (by omega)) ?_;rintro v5 u5 l5 ⟨k5,sF⟩;obtain ⟨b5,a5,n5,c5,b5',a5',n5',c5',g51,g52,rfl⟩:=No k5;refine G.c call27 (Pq (z:=(w:Int)) (by omega) (by omega)) ?_;intro v6 u6 l6 k6;rw [Rat.intCast_natCast] at k6;obtain ⟨b6,a6,n6,c6,a6',n6',c6',rfl,_⟩:=k6.opn;have hwb:SB (w:Rat):=(Akk hw2).small (by omega) (by omega);refine G.callA _ _ (by kernel_rfl) (by kernel_rfl) call65 (C2 m3).symm (Sj m3)
   (Ahp (((hC.grow l4).grow l5).grow l6) (k5.mono l6) k6 hwb (hcfs i) sF sK (by rw [← hsum]; exact hcfs (i+1))) ?_
  intro v7 u7 m7 l7 k7 _;rw [← hsum] at k7;rw [C2];obtain ⟨b7,a7,n7,c7,b7',a7',n7',c7',g71,g72,rfl⟩:=Ln k7;refine G.i i ?_;exact G.b (hJ (i+1,(b7,a7,n7,c7),(b7',a7',n7',c7'),g71,g72) _ _ _ cv ((((l3.trans l4).trans l5).trans l6).trans l7) ⟨by dsimp only; omega,k7.congr rfl (by dsimp only; omega)⟩ (by dsimp only; omega))
 ·obtain rfl:i=L.length:=by omega
  refine G.lF (L.length:Int) (L.length:Int) ?_;have hc:=hcfs L.length;rw [List.take_length] at hC hc;refine G.callK _ _ (by kernel_rfl) call67 (Agc hC.i hc (by omega)) ?_;rintro v7 u7 l7 ⟨r,rfl,k7⟩;obtain ⟨e1,f1,h1,e2,f2,h2,rfl⟩:=k7.opn;refine G.drop PH.mt (by kernel_rfl) (PH.mt_le _) ?_;exact G.r (.tuple #[.agg #[.string (mkS (Af (C8 F lab L).c)),.slice e1 f1 h1,.slice e2 f2 h2],.int .i64 0]) ⟨rfl,_,rfl,k7.up (by omega)⟩
end
section
open Go.RowKit Go.MapKept
variable {L:List E7}{u:PH}
structure Oy (u:PH)(T:List (List UInt8×Nat))(R:List Bk)(F:List Ao)(lab:Int)(L:List E7)(xv lv cv pv ev:Value):Prop where
 sch:F1 u xv T R F lab
 ok:Bn u T R F lab
 t8:T.length≤8
 lab0:0≤lab
 f0:F≠[]
 f5:F.length≤5
 rows:Ab u lv 2 (L.map Id)
 wok:WOK u T L
 l6:L.length≤6
 cof:H7 u cv (C8 F lab L) 1530
 prm:Anx u (.tuple #[pv,ev]) F (C8 F lab L)
theorem Aec {F:List Ao}{lab:Int}:∀ p,(C8 F lab L).s p≠0→Aar F lab p:=fun p hp=>by
 obtain ⟨y,hy,hne⟩:=Adn hp;exact (Acc hne).1
theorem WOK.tup {T:List (List UInt8×Nat)}(h:WOK u T L):∀ y∈L,Cr T y.1∧y.2.1≤7:=fun y hy=>by
 obtain ⟨_,q1,_,q2⟩:=h y hy; exact ⟨q1,q2⟩
theorem Aoq {s:Src}{ts:List Int}{k:Nat}(h:H0 u s ts)(hk:k≤s.n) :
  Ai prog 10 [s.ptr] u (s.M k) fun r u' m'=>∃ (T:List (List UInt8×Nat)) (R:List Bk) (F:List Ao) (lab:Int) (L:List E7) (xv lv cv pv ev:Value) (k':Nat),r=.tuple #[xv,lv,cv,pv]∧Oy u' T R F lab L xv lv cv pv ev∧k'≤s.n∧m'=s.M k':=by
 refine Ai.o func10 ?_;refine G.A call45 (Wy 5 (by omega) (by omega) h hk) ?_;rintro v1 u1 m1 l1 ⟨T,R,F,lab,k1,hX,ok,hT8,hlab,hF0,hk1,rfl,hF5⟩ _;rw [C2];obtain ⟨xa,xc,xb,xd,xe,xf,rfl,hTL,hRL,hFL⟩:=id hX;refine G.A call46 (Acr (most:=6) (h.mono l1) hk1 hX ok (by omega)) ?_;rintro v2 u2 m2 l2 ⟨L,k2,hL,hL6,hW,hk2,rfl⟩ _;rw [C2];obtain ⟨la,lc,rfl⟩:=hL.opn;rw [List.length_map] at hL ⊢;refine G.c call21 (Nl (hX.mono l2) (ok.mono l2) hT8 hL hW hL6) ?_;rintro v3 u3 l3 ⟨x3,rfl,k3⟩;obtain ⟨e1,f1,g1,e2,f2,g2,rfl⟩:=k3.opn;obtain ⟨sC,vC⟩:=S9 ok hT8 hW.tup (by omega);refine G.c call24 (Sa (hX.mono (l2.trans l3)) (ok.mono (l2.trans l3)) k3 sC vC (by omega) Aec) ?_;intro v4 u4 l4 k4;obtain ⟨pa,pn,pc,ee,rfl⟩:∃ pa pn pc ee,v4=.tuple #[.slice pa pn pc,.int .i64 ee]:=by
  rcases k4 with ⟨e,_⟩ | ⟨ps,P,e,hP,_⟩
  ·exact ⟨_,_,_,_,e⟩
  ·obtain ⟨pa,pc,rfl⟩:=hP.opn;exact ⟨_,_,_,_,e⟩
 have l24:=(l2.trans l3).trans l4;exact G.r (.tuple #[.agg #[.slice xa T.length xc,.slice xb R.length xd,.slice xe F.length xf,.int .i64 lab],.slice la L.length lc,.agg #[.string (mkS (Af (C8 F lab L).c)),.slice e1 f1 g1,.slice e2 f2 g2],.slice pa pn pc])
  ⟨T,R,F,lab,L,_,_,_,_,.int .i64 ee,k2,rfl,⟨hX.mono l24,ok.mono l24,hT8,hlab,hF0,hF5,hL.mono (l3.trans l4),hW.mono (l3.trans l4),hL6,k3.mono l4,k4⟩,hk2,rfl⟩
end
section
open Go.RowKit Go.MapKept
variable {F:List Ao}{L:List E7}{T:List (List UInt8×Nat)}{lab:Int}
theorem Ann {ss:List (List UInt8)}{p:Par}{i:Nat}{f:Ao}(hF:Dk T F lab)(ht:Cr T ss)(hne:(cfT F lab ss).s p≠0)(hp:p.1=(i:Int))(hf:F[i]?=some f)(hk:f.2.1=2):p.2 = []∨Ac1 p.2=true:=by
 obtain ⟨_,a,q,ha,_⟩:=Acc hne;have hla:a < ss.length:=by
  have:=(List.getElem?_eq_some_iff.1 ha).1;rwa [F3] at this
 have e:=Gq (F:=F) (lab:=lab) (w:=ss[a]) (List.getElem?_eq_getElem hla);rw [ha] at e;have e2:Fg F lab a ss[a]=some (some (p,q)):=(Option.some.inj e).symm;obtain ⟨x,hx,hv⟩:=ht.at hla;generalize ss[a]=w at e2 hv;by_cases hl:(a:Int)=lab
 ·have e4:Fg F lab a w=O7 w:=by unfold Fg; rw [if_pos hl]
  rw [e4] at e2;unfold O7 at e2;split at e2
  ·cases e2
  ·simp only [Option.some.injEq,Prod.mk.injEq] at e2;obtain ⟨rfl,_⟩:=e2;simp only at hp; omega
 ·rcases Ga (F:=F) (w:=w) hl with h1 | ⟨j,g,hg,hga,h1⟩
  ·rw [h1] at e2; cases e2
  ·rw [h1] at e2;have hji:p.1=(j:Int):=by
    unfold Jk at e2;split at e2
    ·cases e2; rfl
    ·split at e2
     ·split at e2 <;> cases e2
     ·cases e2; rfl
   obtain rfl:j=i:=by omega
   rw [hg] at hf; cases hf;unfold Jk at e2;rw [if_pos hk] at e2;simp only [Option.some.injEq,Prod.mk.injEq] at e2;obtain ⟨rfl,_⟩:=e2;obtain ⟨n,k,h1,h2,_⟩:=hF.ok f (List.mem_of_getElem? hg);rw [hga,hx] at h1; cases h1;rcases hv with h | ⟨_,h⟩ | ⟨h,_⟩ | ⟨h,_⟩
   ·exact .inl h
   ·exact .inr h
   ·omega
   ·omega
theorem Ye {α β:Type}{f:α→List β}{n:Nat}:∀ {l:List α},(∀ x∈l,(f x).length≤n)→(l.flatMap f).length≤l.length*n
 | [],_=>by simp
 | x::l,h=>by
  rw [List.flatMap_cons,List.length_append,List.length_cons,Nat.add_mul,Nat.one_mul];have h1:=h x (by simp);have h2:=Ye (l:=l) fun y hy=>h y (by simp [hy]);omega
theorem Al6 {P:List Par}(hF:Dk T F lab)(hT:∀ y∈L,Cr T y.1)(hP:R1 F (C8 F lab L) P):P.length≤F.length*4:=by
 have hsub:P ⊆ (List.range F.length).flatMap fun (i:Nat)=>[((i:Int),([]:List UInt8)),((i:Int),Ack),((i:Int),M0),((i:Int),Tg)]:=fun p hp=>by
  rcases (hP.2 p).1 hp with ⟨i,f,rfl,hf,_⟩ | ⟨hne,i,f,h1,hf,h2⟩
  ·exact List.mem_flatMap.2 ⟨i,by simpa using (List.getElem?_eq_some_iff.1 hf).1,by unfold Iw; simp⟩
  ·refine List.mem_flatMap.2 ⟨i,by simpa using (List.getElem?_eq_some_iff.1 hf).1,?_⟩;obtain ⟨y,hy,hy2⟩:=Adn hne;obtain ⟨p1,p2⟩:=p;simp only at h1;subst h1;rcases Ann hF (hT y hy) hy2 rfl hf h2 with h3 | h3
   ·simp only at h3; subst h3; simp
   ·rcases Alx h3 with h4 | h4 | h4 <;> · simp only at h4; subst h4; simp
 have h1:=List.Nodup.length_le_of_subset (hP.1.nodup Dp) hsub;refine Nat.le_trans h1 ?_;have:=Ye (l:=List.range F.length) (n:=4) (f:=fun (i:Nat)=>[((i:Int),([]:List UInt8)),((i:Int),Ack),((i:Int),M0),((i:Int),Tg)]) fun x _=>by simp
 rw [List.length_range] at this;exact this
theorem Oy.par {u:PH}{R:List Bk}{xv lv cv pv ev:Value}(w:Oy u T R F lab L xv lv cv pv ev) :
  ∃ P,True∧Ab u pv 2 (P.map An)∧P.length≤20∧R1 F (C8 F lab L) P:=by
 have hlen:∀ P,R1 F (C8 F lab L) P→P.length≤20:=fun P hP=>by
  have:=Al6 w.ok.feat (fun y hy=>(w.wok.tup y hy).1) hP;have:=w.f5;omega
 rcases w.prm with ⟨_,P,h1,h2⟩ | ⟨ps,P,h1,h2,h3,h4⟩
 ·have:=hlen P h2; omega
 ·cases h1;exact ⟨P,trivial,h2,hlen P h4,h4⟩
end
end Go.Proofs.YtanfagpabkdmiaaGreatDoor
