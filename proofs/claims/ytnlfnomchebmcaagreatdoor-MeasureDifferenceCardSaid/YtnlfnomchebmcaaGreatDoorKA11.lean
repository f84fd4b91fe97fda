/- Parts of one proof, joined by a program. -/
import Derived.Test.YtnlfnomchebmcaaGreatDoorKA10
set_option linter.unusedVariables false
set_option linter.unusedSimpArgs false
set_option linter.unusedSectionVars false
set_option maxHeartbeats 16000000
namespace Go.Proofs.YtnlfnomchebmcaaGreatDoor
section
open Go.RowKit Go.MapKept
theorem QOK.bs {b:Option Par→Rat}{C:CF}(h:QOK b C)(l:List (Option Par))(hl:l.length≤61):Dn 18 (61*10 ^ 45) (Bd (fun e=>b e*Cs C none e) l) :=
 (M5 fun e _=>((h.b e).mul (h.cell none e)).to (e:=18) (M:=10 ^ 45) (by omega) (by decide +kernel)).mono (Nat.mul_le_mul_right _ hl)
theorem QOK.rs {b:Option Par→Rat}{C:CF}(h:QOK b C)(l:List (Option Par))(hl:l.length≤61):Dn 18 (61*10 ^ 45) (Bd (fun e=>b e*Dp C e) l) :=
 (M5 fun e _=>h.rt e).mono (Nat.mul_le_mul_right _ hl)
theorem Al0 {d N:Nat}{q:Rat}(h:Dn d N q):Dn d N (-q):=by
 obtain ⟨k,e,hk⟩:=h;exact ⟨-k,by rw [Rat.intCast_neg,← e]; grind,by omega⟩
theorem Sm {d N M:Nat}{q r:Rat}(h:Dn d N q)(h':Dn d M r):Dn d (N+M) (q - r):=by
 rw [Rat.sub_eq_add_neg]; exact h.add (Al0 h')
theorem Alh {u:PH}{lv v:Value}{P:List Par}{b:Option Par→Rat}{C:CF}{N:Nat}(hl:Ow u lv P b)(hv:Df u v C N)(hP:P.length≤60)(hq:QOK b C) :
  Fn0 Tryz.prog 71 [lv,v] u fun r u'=>Ap u' r (Cr b P C):=by
 obtain ⟨pa,pc,ca,cc,rfl,hPL,es,hL,hF⟩:=hl.val;have hEl:=Fu P;have hes:es.length=P.length+1:=by rw [hF.1,List.length_map,hEl]
 obtain ⟨b0,a0,n0,c0,b0',a0',n0',c0',g1,g2,rfl,hc⟩:=Kx hv;have hls:Dn 18 (10 ^ 45) (C.s Bh):=(hq.C.s Bh).to (by omega) (by decide +kernel);have z1:C.s Bh - 0=C.s Bh:=by grind
 refine Fn0.o Tryz.func71 ?_;refine G.c Tryz.call79 Mp ?_;rintro v0 u0 l0 rfl;refine G.c Tryz.call38 (Jn Bh (hv.mono l0)) ?_;intro v1 u1 l1 k1;obtain ⟨sb,sa,sn,sc,sb',sa',sn',sc',rfl⟩:=k1.opn;have le1:=l0.trans l1;refine G.l (ι:=Nat×(Bool×SlI)×(Bool×SlI)) (fun i=>[(2,.p 0 0),(3,.p 1 0),(4,.p 2 0),(5,.p 1003 0),(12,.v (.slice ca (P.length+1) cc)),(13,.v (.int .i64 ((P.length+1:Nat):Int))),(14,.v (.int .i64 (i.1:Int)))])
  (fun i=>[(0,⟨113,[.v (.slice pa P.length pc),.v (.slice ca (P.length+1) cc)]⟩),(1,⟨93,[.v (.bool b0),.v (.slice a0 n0 c0),.v (.bool b0'),.v (.slice a0' n0' c0'),.v (.map (some g1)),.v (.map (some g2))]⟩),(2,⟨89,[.v (.bool false),.v (.slice none 0 0),.v (.bool false),.v (.slice none 0 0)]⟩),(1003,⟨89,[.v (.bool i.2.1.1),.v (.slice i.2.1.2.1 i.2.1.2.2.1 i.2.1.2.2.2),.v (.bool i.2.2.1),.v (.slice i.2.2.2.1 i.2.2.2.2.1 i.2.2.2.2.2)]⟩)])
  (fun i u' m'=>i.1≤P.length+1∧Ap u' (.agg #[.bool i.2.1.1,.slice i.2.1.2.1 i.2.1.2.2.1 i.2.1.2.2.2,.bool i.2.2.1,.slice i.2.2.2.1 i.2.2.2.2.1 i.2.2.2.2.2]) (C.s Bh - Bd (fun e=>b e*Cs C none e) ((Bw P).take i.1))∧m'=PH.mt) (fun i=>P.length+1 - i.1) (0,(sb,sa,sn,sc),(sb',sa',sn',sc')) ⟨by omega,by show Ap _ _ (C.s Bh - 0); rw [z1]; exact k1,rfl⟩ ?_
 rintro J ⟨i,⟨sb,sa,sn,sc⟩,⟨sb',sa',sn',sc'⟩⟩ hJ u2 m2 l2 ⟨hi,k2,rfl⟩;simp only at hi k2 hJ;have le2:=le1.trans l2;by_cases hlt:i < P.length+1
 ·refine G.lT (i:Int) ((P.length+1:Nat):Int) ?_;obtain ⟨e,hEi⟩:∃ e,(Bw P)[i]?=some e:=⟨_,List.getElem?_eq_getElem (by omega)⟩;have hE0:(Bw P)[0]?=some none:=rfl;have hps:=hq.bs ((Bw P).take i) (by rw [List.length_take]; omega);have hbt:Dn 18 (10 ^ 45) (b e*Cs C none e):=((hq.b e).mul (hq.cell none e)).to (by omega) (by decide +kernel);have hstep:C.s Bh - Bd (fun e=>b e*Cs C none e) ((Bw P).take (i+1))=C.s Bh - Bd (fun e=>b e*Cs C none e) ((Bw P).take i) - b e*Cs C none e:=by rw [D1 hEi,Lh]; grind
  obtain ⟨x,hx,hfx⟩:=hF.2 i (b e) (by rw [List.getElem?_map,hEi]; rfl);obtain ⟨fb,fo,rfl,ef⟩:=Ad.at' (hL.mono le2) (j:=i) (e:=x) hx;have hfx:=hfx.mono le2;obtain ⟨xb,xa,xn,xc,xb',xa',xn',xc',rfl⟩:=hfx.opn;refine G.a fb fo (P.length+1) cc i 4 hlt ?_;refine G.lU (some 4) fb (fo+i*4) (.agg #[.bool xb,.slice xa xn xc,.bool xb',.slice xa' xn' xc']) ef ?_;refine G.c Tryz.call103 (Sc (i:=0) (hl.mono le2) (hv.mono le2) (by omega) hE0 hEi) ?_;intro v4 u4 l4 k4;obtain ⟨b4,a4,n4,c4,b4',a4',n4',c4',rfl⟩:=k4.opn;refine G.c Tryz.call70 (Dm (hfx.mono l4) k4 ((hq.b e).szb (by omega) (by decide +kernel)) ((hq.cell none e).szb (by omega) (by decide +kernel))) ?_;intro v5 u5 l5 k5;obtain ⟨b5,a5,n5,c5,b5',a5',n5',c5',rfl⟩:=k5.opn;refine G.c Tryz.call48 (Ns (k2.mono (l4.trans l5)) k5 ((Sm hls hps).szb (by omega) (by decide +kernel)) (hbt.szb (by omega) (by decide +kernel))) ?_;intro v7 u7 l7 k7;rw [← hstep] at k7;obtain ⟨b7,a7,n7,c7,b7',a7',n7',c7',rfl⟩:=k7.opn;refine G.i i ?_;exact G.b (hJ (i+1,(b7,a7,n7,c7),(b7',a7',n7',c7')) _ _ _ cv (((l2.trans l4).trans l5).trans l7) ⟨by dsimp only; omega,k7,rfl⟩ (by dsimp only; omega))
 ·obtain rfl:i=P.length+1:=by omega
  refine G.lF ((P.length+1:Nat):Int) ((P.length+1:Nat):Int) ?_;rw [List.take_of_length_le (by omega)] at k2;exact G.r (.agg #[.bool sb,.slice sa sn sc,.bool sb',.slice sa' sn' sc']) ⟨rfl,k2⟩
theorem QOK.nm {b:Option Par→Rat}{C:CF}(h:QOK b C){P:List Par}(hP:P.length≤60):Dn 18 (61*(61*10 ^ 45)) (Fp b P C) :=
 h.outer hP (Bw P) (by rw [Fu]; omega)
theorem sq0 {u:PH}{lv v:Value}{P:List Par}{b:Option Par→Rat}{C:CF}{N:Nat}(hl:Ow u lv P b)(hv:Df u v C N)(hP:P.length≤60)(hq:QOK b C) :
  Fn0 Tryz.prog 72 [lv,v] u fun r u'=>Ap u' r (sqC b P C):=by
 obtain ⟨pa,pc,ca,cc,rfl,hPL,es,hL,hF⟩:=hl.val;have hEl:=Fu P;have hes:es.length=P.length+1:=by rw [hF.1,List.length_map,hEl]
 obtain ⟨b0,a0,n0,c0,b0',a0',n0',c0',g1,g2,rfl,hc⟩:=Kx hv;have hlt2:Dn 18 (10 ^ 45) (C.t (Ar Bh Bh)):=(hq.C.t _).to (by omega) (by decide +kernel);have hnm:=hq.nm hP;refine Fn0.o Tryz.func72 ?_;refine G.c Tryz.call49 (Anp hl hv hP hq) ?_;intro v1 u1 l1 k1;obtain ⟨b1,a1,n1,c1,b1',a1',n1',c1',rfl⟩:=k1.opn;refine G.c Tryz.call79 Mp ?_;rintro v2 u2 l2 rfl;refine G.c Tryz.call79 Mp ?_;rintro v3 u3 l3 rfl;have le3:=(l1.trans l2).trans l3;refine G.c Tryz.call94 (N5 Bh Bh (hv.mono le3)) ?_;intro v4 u4 l4 k4;obtain ⟨b4,a4,n4,c4,b4',a4',n4',c4',rfl⟩:=k4.opn;refine G.c Tryz.call69 (Ef (k1.mono ((l2.trans l3).trans l4)) k4 (hnm.szb (by omega) (by decide +kernel)) (hlt2.szb (by omega) (by decide +kernel))) ?_;intro v5 u5 l5 k5;have le5:=(le3.trans l4).trans l5;have hA:Dn 18 (61*(61*10 ^ 45)+10 ^ 45) (Fp b P C+C.t (Ar Bh Bh)):=hnm.add hlt2;have hfin:Fp b P C+C.t (Ar Bh Bh) - 2*Bd (fun e=>b e*Dp C e) (Bw P)=sqC b P C:=rfl;generalize Fp b P C+C.t (Ar Bh Bh)=A at k5 hA hfin;obtain ⟨sb,sa,sn,sc,sb',sa',sn',sc',rfl⟩:=k5.opn;have z1:A - 2*0=A:=by grind
 refine G.l (ι:=Nat×(Bool×SlI)×(Bool×SlI)) (fun i=>[(2,.p 0 0),(3,.p 1 0),(4,.p 2 0),(5,.p 1008 0),(18,.v (.slice ca (P.length+1) cc)),(19,.v (.int .i64 ((P.length+1:Nat):Int))),(20,.v (.int .i64 (i.1:Int)))])
  (fun i=>[(0,⟨113,[.v (.slice pa P.length pc),.v (.slice ca (P.length+1) cc)]⟩),(1,⟨93,[.v (.bool b0),.v (.slice a0 n0 c0),.v (.bool b0'),.v (.slice a0' n0' c0'),.v (.map (some g1)),.v (.map (some g2))]⟩),(2,⟨89,[.v (.bool false),.v (.slice none 0 0),.v (.bool false),.v (.slice none 0 0)]⟩),(1008,⟨89,[.v (.bool i.2.1.1),.v (.slice i.2.1.2.1 i.2.1.2.2.1 i.2.1.2.2.2),.v (.bool i.2.2.1),.v (.slice i.2.2.2.1 i.2.2.2.2.1 i.2.2.2.2.2)]⟩)])
  (fun i u' m'=>i.1≤P.length+1∧Ap u' (.agg #[.bool i.2.1.1,.slice i.2.1.2.1 i.2.1.2.2.1 i.2.1.2.2.2,.bool i.2.2.1,.slice i.2.2.2.1 i.2.2.2.2.1 i.2.2.2.2.2]) (A - 2*Bd (fun e=>b e*Dp C e) ((Bw P).take i.1))∧m'=PH.mt) (fun i=>P.length+1 - i.1) (0,(sb,sa,sn,sc),(sb',sa',sn',sc')) ⟨by omega,by show Ap _ _ (A - 2*0); rw [z1]; exact k5,rfl⟩ ?_
 rintro J ⟨i,⟨sb,sa,sn,sc⟩,⟨sb',sa',sn',sc'⟩⟩ hJ u6 m6 l6 ⟨hi,k6,rfl⟩;simp only at hi k6 hJ;have le6:=le5.trans l6;by_cases hlt:i < P.length+1
 ·refine G.lT (i:Int) ((P.length+1:Nat):Int) ?_;obtain ⟨e,hEi⟩:∃ e,(Bw P)[i]?=some e:=⟨_,List.getElem?_eq_getElem (by omega)⟩;have hps:=hq.rs ((Bw P).take i) (by rw [List.length_take]; omega);have hbt:=hq.rt e;have hd1:=Sm hA hps.two;have hd2:=Sm hd1 hbt;have hstep:A - 2*Bd (fun e=>b e*Dp C e) ((Bw P).take (i+1))=A - 2*Bd (fun e=>b e*Dp C e) ((Bw P).take i) - b e*Dp C e - b e*Dp C e:=by rw [D1 hEi,Lh]; grind
  obtain ⟨x,hx,hfx⟩:=hF.2 i (b e) (by rw [List.getElem?_map,hEi]; rfl);obtain ⟨fb,fo,rfl,ef⟩:=Ad.at' (hL.mono le6) (j:=i) (e:=x) hx;have hfx:=hfx.mono le6;obtain ⟨xb,xa,xn,xc,xb',xa',xn',xc',rfl⟩:=hfx.opn;refine G.a fb fo (P.length+1) cc i 4 hlt ?_;refine G.lU (some 4) fb (fo+i*4) (.agg #[.bool xb,.slice xa xn xc,.bool xb',.slice xa' xn' xc']) ef ?_;refine G.c Tryz.call136 (Alx (hl.mono le6) (hv.mono le6) (by omega) hEi) ?_;intro v7 u7 l7 k7;obtain ⟨b7,a7,n7,c7,b7',a7',n7',c7',rfl⟩:=k7.opn;refine G.c Tryz.call70 (Dm (hfx.mono l7) k7 ((hq.b e).szb (by omega) (by decide +kernel)) ((hq.right e).szb (by omega) (by decide +kernel))) ?_;intro v8 u8 l8 k8;obtain ⟨b8,a8,n8,c8,b8',a8',n8',c8',rfl⟩:=k8.opn;refine G.c Tryz.call48 (Ns (k6.mono (l7.trans l8)) k8 (hd1.szb (by omega) (by decide +kernel)) (hbt.szb (by omega) (by decide +kernel))) ?_;intro v9 u9 l9 k9;obtain ⟨b9,a9,n9,c9,b9',a9',n9',c9',rfl⟩:=k9.opn;refine G.c Tryz.call48 (Ns k9 (k8.mono l9) (hd2.szb (by omega) (by decide +kernel)) (hbt.szb (by omega) (by decide +kernel))) ?_;intro v10 u10 l10 k10;rw [← hstep] at k10;obtain ⟨bx,ax,nx',cx,bx',ax',nx'',cx',rfl⟩:=k10.opn;refine G.i i ?_;exact G.b (hJ (i+1,(bx,ax,nx',cx),(bx',ax',nx'',cx')) _ _ _ cv ((((l6.trans l7).trans l8).trans l9).trans l10) ⟨by dsimp only; omega,k10,rfl⟩ (by dsimp only; omega))
 ·obtain rfl:i=P.length+1:=by omega
  refine G.lF ((P.length+1:Nat):Int) ((P.length+1:Nat):Int) ?_;rw [List.take_of_length_le (by omega),hfin] at k6;exact G.r (.agg #[.bool sb,.slice sa sn sc,.bool sb',.slice sa' sn' sc']) ⟨rfl,k6⟩
end
section
open Go.RowKit Go.MapKept Go.Shelf Go.Sort
theorem Nh (L:List Par):Aw (L.map Ak)=L.flatMap Au:=by
 unfold Aw;rw [List.flatMap_map];rfl
theorem Er (L:List Par):(L.flatMap Au).length=L.length*2:=by
 induction L with
 | nil=>rfl
 | cons x L ih=>rw [List.flatMap_cons,List.length_append,ih,F0,List.length_cons,Nat.add_mul]; omega
theorem Wz {L L':List Par}(hl:L'.length=L.length)(rest:List Value):putCells id 0 (flatK Au 2 L'.toArray) (L.flatMap Au++rest).toArray=(L'.flatMap Au++rest).toArray:=by
 have h1:=Er L;have h2:=Er L';have hs:(flatK Au 2 L'.toArray).size=L'.length*2:=by rw [size_flatK]; simp
 apply Array.ext_getElem?;intro t;unfold putCells;rw [Array.getElem?_mapIdx,List.getElem?_toArray,List.getElem?_toArray,hs];by_cases ht:t < L'.length*2
 ·rw [List.getElem?_append_left (by omega),List.getElem?_append_left (by omega),Mx F0 L' t ht];have:(L.flatMap Au)[t]?=some (L.flatMap Au)[t]:=List.getElem?_eq_getElem (by omega);rw [this];simp only [Option.map_some,Nat.zero_le,Nat.zero_add,true_and,if_pos ht,id,Nat.sub_zero];rw [get_flatK Au 2 _ t (by simpa using ht)]
 ·rw [List.getElem?_append_right (by omega),List.getElem?_append_right (by omega),h1,h2,hl];cases hr:rest[t - L.length*2]? with
  | none=>rfl
  | some x =>
   simp only [Option.map_some,Nat.zero_le,Nat.zero_add,true_and];rw [if_neg (by omega)]
theorem Zb (L:List Par):A9 2 (L.map Ak):=by
 intro e he;obtain ⟨x,_,rfl⟩:=List.mem_map.1 he;exact ⟨rfl,fun y hy=>by simp [Ak,Value.cells] at hy; rcases hy with rfl | rfl <;> rfl⟩
theorem Aga {u m0 m:PH}{v:Value}{L:List Par}(hA:Af m0 m v 44 2 (L.map Ak))(hnd:L.Nodup)(hl:L.length≤1000000) :
  Ae Tryz.prog 171 [v,.func (.func 172) #[] #[]] u m fun r u' m'=>r=.tuple #[]∧Af m0 m' v 44 2 ((C1 A4 L).map Ak):=by
 have hp:=Eh (c:=A4) L;have hpl:(C1 A4 L).length=L.length:=hp.length_eq;intro w hg;obtain ⟨hok,h⟩:=hA;rcases h with ⟨rfl,he,rfl⟩ | ⟨g,cap,rest,hm0,rfl,rfl,hcap,hlen,hrest⟩
 ·have hL:L = []:=by simpa using he
  subst hL;refine (AnyF.slices_SortFunc_none Tryz.sortPar none 0 _ w).mono ?_;rintro e w' ⟨rfl,rfl⟩;exact ⟨_,u,m,rfl,hg,⟨Nat.le_refl _,fun _ _ _=>rfl,fun _ _=>rfl,fun _ _ h=>h,⟨rfl,rfl⟩,fun f=>f.elim⟩,rfl,by
   have e:C1 A4 ([]:List Par) = []:=List.length_eq_zero_iff.1 hpl;rw [e]; exact Af.nil _ _ _⟩
 ·rw [List.length_map] at hcap ⊢;rw [Nh] at hlen hg;have hgb:w.heap[g]?=some (.cells (L.flatMap Au++rest).toArray 44 (0,0)):=hg.pm g _ (Ab _ _ _);have hH:HoldsK Au 2 w g 0 L.toArray:=Pd (enc:=Au) (k:=2) F0 hgb (by
   show (L.flatMap Au++rest).take (L.length*2)=_;rw [List.take_append_of_le_length (by rw [Er]; omega),List.take_of_length_le (by rw [Er]; omega)])
  have hgl:g < w.heap.size:=Ax hgb;have hcon:=AnyQ.slices_SortFunc_total Tryz.sortPar 2 (fun w=>by kernel_rfl) (fun w=>by kernel_rfl) Au (fun _=>rfl) (fun x v hv=>by simp at hv; rcases hv with rfl | rfl <;> rfl) A4 Dd.swo 172 #[] g 0 cap L.toArray w Tryz.call172 (Sf g 0 _ w) hH hgl (by simp; omega) Dd.tot
  change Calls Tryz.prog 171 _ _ _ at hcon;simp only [List.size_toArray] at hcon;refine Calls.mono hcon ?_;rintro e w' ⟨rfl,nn,os,rfl⟩;change Ajw _ _ _ (sortWorldK Au 2 w g 0 nn (C1 A4 L).toArray os);obtain ⟨w',hw'⟩:∃ w',w'=sortWorldK Au 2 w g 0 nn (C1 A4 L).toArray os:=⟨_,rfl⟩;have hheap:w'.heap=w.heap.modify g (onCells (putCells id 0 (flatK Au 2 (C1 A4 L).toArray)))++os:=by rw [hw']; rfl
  have hos:w'.os=w.os∧w'.output=w.output:=by rw [hw']; exact ⟨rfl,rfl⟩
  rw [← hw'];have hsz:w.heap.size≤w'.heap.size:=by rw [hheap,Array.size_append,Array.size_modify]; omega
  have hold:∀ k,k < w.heap.size→k≠g→w'.heap[k]?=w.heap[k]?:=fun k hk hne=>by
   rw [hheap,Array.getElem?_append_left (by rw [Array.size_modify]; exact hk),Array.getElem?_modify,if_neg (fun e=>hne e.symm)]
  have hnew:w'.heap[g]?=some (.cells ((C1 A4 L).flatMap Au++rest).toArray 44 (0,0)):=by
   rw [hheap,Array.getElem?_append_left (by rw [Array.size_modify]; exact hgl),Array.getElem?_modify,if_pos rfl,hgb];show some (Obj.cells (putCells id 0 _ _) _ _)=_;rw [Wz hpl]
  have hug:u g=none:=(hg.ap g).resolve_right (by rw [Ab]; simp);have hpar:=Zb (C1 A4 L);refine ⟨_,fun k=>if k < w.heap.size then u k else w'.heap[k]?,m0.upd g (.cells (Aw ((C1 A4 L).map Ak)++rest).toArray 44 (0,0)),rfl,⟨?_,?_,?_,?_⟩,⟨hsz,?_,?_,?_,hos,fun f=>f.elim⟩,rfl,hpar,.inr ⟨g,cap,rest,hm0,rfl,by rw [List.length_map,hpl],by rw [List.length_map,hpl]; exact hcap,?_,hrest⟩⟩
  ·intro k o hk;simp only at hk;split at hk
   ·rename_i hlt;have hne:k≠g:=fun e=>by subst e; rw [hug] at hk; cases hk
    rw [hold k hlt hne]; exact hg.pu k o hk
   ·exact hk
  ·intro k o hk;by_cases e:k=g
   ·subst e;rw [Ab] at hk; cases hk;rw [hnew,Nh]
   ·rw [Ac _ _ e] at hk;have:=hg.pm k o (by rw [Ac _ _ e]; exact hk);rw [hold k (Ax this) e]; exact this
  ·intro k;simp only;by_cases hlt:k < w.heap.size
   ·rw [if_pos hlt];rcases hg.ap k with h | h
    ·exact .inl h
    ·by_cases e:k=g
     ·subst e; rw [Ab] at h; cases h
     ·right; rw [Ac _ _ e] at h ⊢; exact h
   ·right;have e:k≠g:=fun e=>by omega
    rw [Ac _ _ e];have:=hg.pm.none (g:=k) (by show w.heap.size≤k; omega);rw [Ac _ _ e] at this;exact this
  ·intro k cs t fr j z hk hj;simp only;by_cases hlt:k < w.heap.size
   ·rw [if_pos hlt];by_cases e:k=g
    ·subst e;rw [hnew] at hk;cases hk;exfalso;have hmem:Value.int .u64 z∈(C1 A4 L).flatMap Au++rest:=by
      rw [List.getElem?_toArray] at hj;exact List.mem_of_getElem? hj
     have hall:∀ x∈(C1 A4 L).flatMap Au++rest,Bf x=true:=fun x hx=>by
      rcases List.mem_append.1 hx with h | h
      ·rw [← Nh] at h; exact E3 hpar x h
      ·exact hrest x h
     have:=hall _ hmem;cases this
    ·rw [hold k hlt e] at hk;exact hg.cl k cs t fr j z hk hj
   ·rw [if_neg hlt]; exact hk
  ·intro k hk hmk;refine hold k hk fun e=>?_;subst e;simp only at hmk;rw [Ab] at hmk; cases hmk
  ·intro k hk;simp only;exact if_pos hk
  ·intro k hk hmk;by_cases e:k=g
   ·subst e; simp only at hmk; rw [Ab] at hmk; cases hmk
   ·simp only at hmk; rw [Ac _ _ e] at hmk ⊢; exact hmk
  ·rw [Nh,List.length_append,Er,hpl];rw [List.length_append,Er] at hlen;exact hlen
end
section
open Go.RowKit Go.MapKept
def Xj (F:List Am)(lab:Int)(p:Par):Prop:=(p.1 = -1∧0≤lab∧p.2 = [])∨(∃ (k:Nat) (f:Am),p.1=(k:Int)∧F[k]?=some f∧(f.2.1=2∨p.2 = []))
theorem Ahn {u:PH}{v:Value}{T:List (List UInt8×Nat)}{R:List Bn}{F:List Am}{lab:Int}{p:Par}(hX:D5 u v T R F lab)(ok:Bi u T R F lab)(hp:Xj F lab p) :
  Fn0 Tryz.prog 169 [v,Ak p] u fun r _=>r=.bool true:=by
 obtain ⟨xa,xc,xb,xd,xe,xf,rfl,hTL,hRL,hFL⟩:=hX;have hf8:=ok.f2;refine Fn0.o Tryz.func169 ?_;rcases hp with ⟨h1,h2,h3⟩ | ⟨k,f,h1,hf,h3⟩
 ·refine G.eT' p.1 (-1) h1 ?_;refine G.hT' lab 0 h2 ?_;refine G.q p.2 [] h3 ?_;exact G.r (.bool true) ⟨rfl,rfl⟩
 ·obtain ⟨p1,p2⟩:=p;simp only at h1 h3;subst h1;have hk:=(List.getElem?_eq_some_iff.1 hf).1;obtain ⟨bb,ob,rfl,eb⟩:=Ad.at' hFL (j:=k) (e:=Bt f) (by simp [hf]);obtain ⟨f1,f2,f3⟩:=f;simp only at h3;refine G.eF (k:Int) (-1) ?_;refine G.hF (k:Int) (F.length:Int) ?_;refine G.a bb ob F.length xf k 3 hk ?_;refine G.f 118 bb (ob+k*3) 1 1 ?_;refine G.lU none bb (ob+k*3+1) (.int .i64 (f2:Int)) (eb.fld (j:=1) (xs:=#[.int .i64 (f1:Int),.int .i64 (f2:Int),.int .i64 (f3:Int)]) rfl rfl) ?_;by_cases h2:f2=2
  ·refine G.eT (f2:Int) 2 ?_;exact G.r (.bool true) ⟨rfl,rfl⟩
  ·refine G.eF (f2:Int) 2 ?_;refine G.q p2 [] (h3.resolve_left h2) ?_;exact G.r (.bool true) ⟨rfl,rfl⟩
theorem Aj9 {u m:PH}{b:Nat}{v:Value}{T:List (List UInt8×Nat)}{R:List Bn}{F:List Am}{lab:Int}{x:Par×Rat}(hb:ElP m b 0 v)(hX:D5 u v T R F lab)(ok:Bi u T R F lab)(hp:Xj F lab x.1) :
  FnK Tryz.prog 168 [A3 x,.pointer (some ⟨b,0,none⟩)] u m fun v _=>v=.bool false:=by
 have hbel:=Ahn hX ok hp;obtain ⟨xa,xc,xb,xd,xe,xf,rfl,hTL,hRL,hFL⟩:=hX;refine FnK.of Tryz.func168 (by kernel_rfl) (by kernel_rfl) ?_;refine G.lM (some 4) b 0 (.agg #[.slice xa T.length xc,.slice xb R.length xd,.slice xe F.length xf,.int .i64 lab]) hb ?_;refine G.c Tryz.call169 hbel ?_;rintro v1 u1 l1 rfl;exact G.r (.bool false) ⟨rfl,rfl⟩
theorem Aho {u m:PH}{v cap:Value}{T:List (Par×Rat)}{fid:Nat}(h:Ad u v 3 (T.map A3))(hl:T.length≤1000000)
  (hcall:∀ args w,(callFunc fid args).run Tryz.prog w=.ok (.enter fid args) w) (hf:∀ p∈T,∀ u',PH.le u u'→FnK Tryz.prog fid [A3 p,cap] u' m fun v _=>v=.bool false) :
  FnK Tryz.prog 203 [v,.func (.func fid) #[] #[cap]] u m fun v' _=>v'=.int .i64 (-1):=by
 obtain ⟨a,c,rfl⟩:=h.opn;rw [List.length_map] at h ⊢;refine FnK.of Tryz.func203 (by kernel_rfl) (by kernel_rfl) ?_;refine G.l (ι:=Nat) (fun i=>[(0,.v (.slice a T.length c)),(1,.v (.func (.func fid) #[] #[cap])),(7,.v (.int .i64 (T.length:Int))),(8,.v (.int .i64 (i:Int)))]) (fun _=>[])
  (fun i u' m'=>i≤T.length∧m'=m) (fun i=>T.length - i) 0 ⟨by omega,rfl⟩ ?_
 rintro J i hJ u1 m1 l1 ⟨hi,rfl⟩;by_cases hlt:i < T.length
 ·refine G.lT (i:Int) (T.length:Int) ?_;have hTi:T[i]?=some T[i]:=List.getElem?_eq_getElem hlt;obtain ⟨ba,oa,rfl,ea⟩:=Ad.at' (h.mono l1) (j:=i) (e:=A3 T[i]) (by simp [hTi]);refine G.a ba oa T.length c i 3 (by omega) ?_;refine G.lU (some 3) ba (oa+i*3) (A3 T[i]) ea ?_;refine G.callK fid [A3 T[i],cap] (by kernel_rfl) hcall (hf T[i] (List.getElem_mem hlt) u1 l1) ?_;rintro v2 u2 l2 rfl;refine G.i i ?_;exact G.b (hJ (i+1) _ _ _ cv (l1.trans l2) ⟨by omega,rfl⟩ (by omega))
 ·obtain rfl:i=T.length:=by omega
  refine G.lF (T.length:Int) (T.length:Int) ?_;exact G.r (.int .i64 (-1)) ⟨rfl,rfl⟩
theorem Xf {u m:PH}{v cap:Value}{T:List (Par×Rat)}{fid:Nat}(h:Ad u v 3 (T.map A3))(hl:T.length≤1000000)
  (hcall:∀ args w,(callFunc fid args).run Tryz.prog w=.ok (.enter fid args) w) (hf:∀ p∈T,∀ u',PH.le u u'→FnK Tryz.prog fid [A3 p,cap] u' m fun v _=>v=.bool false) :
  FnK Tryz.prog 147 [v,.func (.func fid) #[] #[cap]] u m fun v' _=>v'=.bool false:=by
 obtain ⟨a,c,rfl⟩:=h.opn;refine FnK.of Tryz.func147 (by kernel_rfl) (by kernel_rfl) ?_;refine G.callK _ _ (by kernel_rfl) Tryz.call203 (Aho h hl hcall hf) ?_;rintro v1 u1 l1 rfl;refine G.hF (-1) 0 ?_;exact G.r (.bool false) ⟨rfl,rfl⟩
def C2 (F:List Am)(n:Nat):List Nat:=(List.range n).filter fun i=>(F.getD i (0,0,0)).2.1 == 1
theorem Ado {F:List Am}{n:Nat}{f:Am}(hf:F[n]?=some f):C2 F (n+1)=if f.2.1=1 then C2 F n++[n] else C2 F n:=by
 unfold C2;rw [List.range_succ,List.filter_append];have e:(F.getD n (0,0,0))=f:=by simp [List.getD_eq_getElem?_getD,hf]
 by_cases h:f.2.1=1
 ·rw [if_pos h,List.filter_cons_of_pos (by rw [e]; simp [h])]; rfl
 ·rw [if_neg h,List.filter_cons_of_neg (by rw [e]; simp [h])]; simp
theorem Xm (F:List Am)(n:Nat):(C2 F n).length≤n:=by
 unfold C2;exact Nat.le_trans (List.length_filter_le _ _) (by simp)
theorem Qy {F:List Am}{n i:Nat}:i∈C2 F n↔i < n∧(F.getD i (0,0,0)).2.1=1:=by
 unfold C2; simp [List.mem_filter]
theorem Abi (F:List Am)(n:Nat):(C2 F n).Nodup:=List.nodup_range.filter _
theorem Y8 {u:PH}{v:Value}{T:List (List UInt8×Nat)}{R:List Bn}{F:List Am}{lab:Int}(hX:D5 u v T R F lab)(ok:Bi u T R F lab) :
  Fn0 Tryz.prog 170 [v] u fun r u'=>Ad u' r 1 (Ai (C2 F F.length)):=by
 have hck:=R6 hX ok;obtain ⟨xa,xc,xb,xd,xe,xf,rfl,hTL,hRL,hFL⟩:=hX;have hf8:=ok.f2;refine Fn0.o Tryz.func170 ?_;refine G.c Tryz.call115 hck ?_;rintro v1 u1 l1 rfl;refine G.nF 0 0 ?_;refine G.l (ι:=Nat×(Option Addr×Nat)) (fun i=>[(3,.v (.slice i.2.1 (C2 F i.1).length i.2.2)),(10,.v (.slice xe F.length xf)),(11,.v (.int .i64 (F.length:Int))),(12,.v (.int .i64 (i.1:Int)))]) (fun _=>[])
  (fun i u' m'=>i.1≤F.length∧Af PH.mt m' (.slice i.2.1 (C2 F i.1).length i.2.2) 3 1 (Ai (C2 F i.1))) (fun i=>F.length - i.1) (0,(none,0)) ⟨by omega,Af.nil _ _ _⟩ ?_
 rintro J ⟨i,⟨na,nc⟩⟩ hJ u2 m2 l2 ⟨hi,hA⟩;simp only at hi hA hJ;have le2:=l1.trans l2;have hnl:=Xm F i;by_cases hlt:i < F.length
 ·refine G.lT (i:Int) (F.length:Int) ?_;obtain ⟨f,hFi⟩:∃ f,F[i]?=some f:=⟨_,List.getElem?_eq_getElem hlt⟩;have hs:=Ado hFi;obtain ⟨fb,fo,rfl,ef⟩:=Ad.at' (hFL.mono le2) (j:=i) (e:=Bt f) (by simp [hFi]);obtain ⟨p1,p2,p3⟩:=f;simp only at hs;refine G.a fb fo F.length xf i 3 hlt ?_;refine G.lU (some 3) fb (fo+i*3) (.agg #[.int .i64 (p1:Int),.int .i64 (p2:Int),.int .i64 (p3:Int)]) ef ?_;by_cases h1:p2=1
  ·rw [if_pos h1] at hs;refine G.eT (p2:Int) 1 ?_;refine G.buildU 3 1 8 (.int .i64 0) (Ai [i]) (by kernel_rfl) (Az [i]) rfl (by omega) (by simp [Ai]) (by simp [Ai]) ?_;intro g3 u3 l3 e3;refine G.append 3 1 8 (.int .i64 0) PH.mt (Ai (C2 F i)) (Ai [i]) (.slice na (C2 F i).length nc) g3 0 1 1 (by kernel_rfl) rfl rfl (by omega) hA e3 (Az [i]) rfl (by omega) (by simp [Ai]; omega) (by simp [Ai]; omega) ?_;intro v4 m4 hA4;have e4:Ai (C2 F i)++Ai [i]=Ai (C2 F (i+1)):=by rw [hs]; simp [Ai]
   rw [e4] at hA4;obtain ⟨a4,c4,rfl⟩:=hA4.shape;have e5:(Ai (C2 F (i+1))).length=(C2 F (i+1)).length:=by simp [Ai]
   rw [e5] at hA4 ⊢;refine G.i i ?_;exact G.b (hJ (i+1,(a4,c4)) _ _ _ cv (l2.trans l3) ⟨by dsimp only; omega,hA4⟩ (by dsimp only; omega))
  ·rw [if_neg h1] at hs;refine G.eF (p2:Int) 1 ?_;refine G.i i ?_;rw [← hs] at hA ⊢;exact G.b (hJ (i+1,(na,nc)) _ _ _ cv l2 ⟨by dsimp only; omega,hA⟩ (by dsimp only; omega))
 ·obtain rfl:i=F.length:=by omega
  refine G.lF (F.length:Int) (F.length:Int) ?_;refine G.give _ _ _ (by kernel_rfl) hA (fun g=>.inl rfl) ?_;intro u3 l3 hL;exact G.r (.slice na (C2 F F.length).length nc) ⟨rfl,hL⟩
end
section
open Go.RowKit Go.MapKept Go.Sort
def L8 (F:List Am)(p:Par):Bool:=decide (0≤p.1) && (F.getD p.1.toNat (0,0,0)).2.1 == 2
def Hc (F:List Am)(A:List (Par×Rat))(n:Nat):List Par:=((A.take n).map (·.1)).filter (L8 F)
theorem Afc {F:List Am}{A:List (Par×Rat)}{n:Nat}{x:Par×Rat}(h:A[n]?=some x):Hc F A (n+1)=if L8 F x.1=true then Hc F A n++[x.1] else Hc F A n:=by
 unfold Hc;have e:A.take (n+1)=A.take n++[x]:=by rw [List.take_add_one,h]; rfl
 rw [e,List.map_append,List.filter_append];by_cases hh:L8 F x.1=true
 ·rw [if_pos hh,List.map_cons,List.filter_cons_of_pos hh]; rfl
 ·rw [if_neg hh,List.map_cons,List.filter_cons_of_neg hh]; simp
theorem Ag2 (F:List Am)(A:List (Par×Rat))(n:Nat):(Hc F A n).length≤A.length:=by
 unfold Hc;refine Nat.le_trans (List.length_filter_le _ _) ?_;rw [List.length_map,List.length_take]; omega
def I2 (i:Nat):Par:=((i:Int),[])
def Hs (F:List Am):List Par:=(C2 F F.length).map I2
theorem E2 (p:Par):A9 2 [Ak p]:=Zb [p]
theorem Yq {F:List Am}{A:List (Par×Rat)}(hA:(A.map (·.1)).Nodup):(Hs F++Hc F A A.length).Nodup:=by
 refine List.nodup_append.2 ⟨?_,?_,?_⟩
 ·unfold Hs;refine List.Pairwise.map _ (fun a b hne e=>?_) (Abi F F.length);unfold I2 at e;simp only [Prod.mk.injEq,and_true] at e;exact hne (by omega)
 ·unfold Hc;rw [List.take_length];exact hA.filter _
 ·intro a ha b hb e;subst e;unfold Hs at ha;obtain ⟨i,hi,rfl⟩:=List.mem_map.1 ha;unfold Hc at hb;have h2:=(List.mem_filter.1 hb).2;unfold L8 I2 at h2;simp only [Bool.and_eq_true,beq_iff_eq,decide_eq_true_eq,Int.toNat_natCast] at h2;have h1:=(Qy.1 hi).2;omega
theorem Ad0 {F:List Am}{A:List (Par×Rat)}{C:CF}(hA:Can A4 C.s A){p:Par}:p∈Hs F++Hc F A A.length↔(∃ (i:Nat) (f:Am),p=I2 i∧F[i]?=some f∧f.2.1=1)∨(C.s p≠0∧∃ (i:Nat) (f:Am),p.1=(i:Int)∧F[i]?=some f∧f.2.1=2):=by
 have hmem:p∈A.map (·.1)↔C.s p≠0:=by
  constructor
  ·intro h;obtain ⟨x,hx,rfl⟩:=List.mem_map.1 h;obtain ⟨h1,h2⟩:=hA.val x hx;rw [← h1]; exact h2
  ·intro h;exact Classical.byContradiction fun hh=>h (hA.out p hh)
 rw [List.mem_append];refine or_congr ?_ ?_
 ·unfold Hs;rw [List.mem_map];constructor
  ·rintro ⟨i,hi,rfl⟩;obtain ⟨h1,h2⟩:=Qy.1 hi;refine ⟨i,F[i],rfl,List.getElem?_eq_getElem h1,?_⟩;rw [List.getD_eq_getElem?_getD,List.getElem?_eq_getElem h1,Option.getD_some] at h2;exact h2
  ·rintro ⟨i,f,rfl,hf,h1⟩;refine ⟨i,Qy.2 ⟨(List.getElem?_eq_some_iff.1 hf).1,?_⟩,rfl⟩;rw [List.getD_eq_getElem?_getD,hf,Option.getD_some]; exact h1
 ·unfold Hc;rw [List.take_length,List.mem_filter,hmem];refine and_congr Iff.rfl ?_;unfold L8;simp only [Bool.and_eq_true,beq_iff_eq,decide_eq_true_eq];constructor
  ·rintro ⟨h1,h2⟩;have hlt:p.1.toNat < F.length:=by
    rcases Nat.lt_or_ge p.1.toNat F.length with h | h
    ·exact h
    ·rw [List.getD_eq_getElem?_getD,List.getElem?_eq_none h] at h2; simp at h2
   rw [List.getD_eq_getElem?_getD,List.getElem?_eq_getElem hlt,Option.getD_some] at h2;exact ⟨p.1.toNat,F[p.1.toNat],by omega,List.getElem?_eq_getElem hlt,h2⟩
  ·rintro ⟨i,f,h1,hf,h2⟩;refine ⟨by omega,?_⟩;rw [h1,Int.toNat_natCast,List.getD_eq_getElem?_getD,hf,Option.getD_some]; exact h2
abbrev S2 (F:List Am)(C:CF)(L:List Par):Prop :=
 Dx A4 L∧∀ p,p∈L↔(∃ (i:Nat) (f:Am),p=I2 i∧F[i]?=some f∧f.2.1=1)∨(C.s p≠0∧∃ (i:Nat) (f:Am),p.1=(i:Int)∧F[i]?=some f∧f.2.1=2)
theorem S2.eq {F:List Am}{C:CF}{L L':List Par}(h:S2 F C L)(h':S2 F C L'):L=L' :=
 Yg Dd h.1 h'.1 fun p=>(h.2 p).trans (h'.2 p).symm
def Am4 (u:PH)(r:Value)(F:List Am)(C:CF):Prop :=
 (r=.tuple #[.slice none 0 0,.int .i64 3]∧∃ L,24 < L.length∧S2 F C L)∨∃ (ps:Value) (L:List Par),r=.tuple #[ps,.int .i64 0]∧Ad u ps 2 (L.map Ak)∧L.length≤24∧S2 F C L
theorem Q2 {u:PH}{v w:Value}{T:List (List UInt8×Nat)}{R:List Bn}{F:List Am}{lab:Int}{C:CF}{K:Nat}(hX:D5 u v T R F lab)(ok:Bi u T R F lab)(hC:Hb u w C K)(sC:CFS C)(vC:CFV C)(hK:K≤100000)(hb:∀ p,C.s p≠0→Xj F lab p) :
  Fn0 Tryz.prog 100 [v,w] u fun r u'=>Am4 u' r F C:=by
 have hck:=fun (u':PH) (l:PH.le u u')=>R6 (hX.mono l) (ok.mono l);have hvd:=fun (u':PH) (l:PH.le u u')=>Abw (hC.mono l) sC vC (by omega);obtain ⟨xa,xc,xb,xd,xe,xf,rfl,hTL,hRL,hFL⟩:=id hX;obtain ⟨A,Q,a1,c1,a2,c2,rfl,hA,hQ,cA,cQ,kA,kQ⟩:=hC;have hf8:=ok.f2;refine Fn0.o Tryz.func100 ?_;refine G.c Tryz.call115 (hck u (PH.le_refl _)) ?_;rintro v1 u1 l1 rfl;refine G.nF 0 0 ?_;refine G.c Tryz.call87 (hvd u1 l1) ?_;rintro v2 u2 l2 rfl;have le2:=l1.trans l2;refine G.pub 0 30 [.slice xa T.length xc,.slice xb R.length xd,.slice xe F.length xf,.int .i64 lab] (by kernel_rfl) (by kernel_rfl) ?_;intro b hb1 hb2;have hcb:∀ (m':PH),m' b=some (.cells [Value.slice xa T.length xc,.slice xb R.length xd,.slice xe F.length xf,.int .i64 lab].toArray 30 (0,0))→ElP m' b 0 (.agg #[.slice xa T.length xc,.slice xb R.length xd,.slice xe F.length xf,.int .i64 lab]):=fun m' h=>Ww (xs:=[.slice xa T.length xc,.slice xb R.length xd,.slice xe F.length xf,.int .i64 lab]) h rfl;obtain ⟨mb,hmb⟩:∃ mb:PH,mb=PH.mt.upd b (.cells [Value.slice xa T.length xc,.slice xb R.length xd,.slice xe F.length xf,.int .i64 lab].toArray 30 (0,0)):=⟨_,rfl⟩;have hmbb:mb b=some (.cells [Value.slice xa T.length xc,.slice xb R.length xd,.slice xe F.length xf,.int .i64 lab].toArray 30 (0,0)):=by rw [hmb]; exact Ab _ _ _
 rw [← hmb];refine G.callK _ _ (by kernel_rfl) Tryz.call147 (Xf (cap:=.pointer (some ⟨b,0,none⟩)) (hA.mono le2) (by omega) Tryz.call168 fun x hx u' l'=>Aj9 (hcb mb hmbb) (hX.mono (le2.trans l')) (ok.mono (le2.trans l')) (hb x.1 (by obtain ⟨q1,q2⟩:=cA.val x hx; rw [← q1]; exact q2))) ?_;rintro v3 u3 l3 rfl;have le3:=le2.trans l3;refine G.lM (some 4) b 0 (.agg #[.slice xa T.length xc,.slice xb R.length xd,.slice xe F.length xf,.int .i64 lab]) (hcb mb hmbb) ?_;refine G.c Tryz.call170 (Y8 (hX.mono le3) (ok.mono le3)) ?_;intro v4 u4 l4 hN;obtain ⟨na,nc,rfl⟩:=hN.opn;have hni:(Ai (C2 F F.length)).length=(C2 F F.length).length:=by simp [Ai]
 rw [hni] at hN ⊢;have hnl:=Xm F F.length;have le4:=le3.trans l4;refine G.l (ι:=Nat×(Option Addr×Nat)) (fun i=>[(2,.v (.pointer (some ⟨b,0,none⟩))),(3,.p 1 0),(6,.v (.slice i.2.1 ((C2 F F.length).take i.1).length i.2.2)),(28,.v (.slice na (C2 F F.length).length nc)),(29,.v (.int .i64 ((C2 F F.length).length:Int))),(30,.v (.int .i64 (i.1:Int)))])
  (fun _=>[(1,⟨36,[.v (.string (mkS (Ag C.c))),.v (.slice a1 A.length c1),.v (.slice a2 Q.length c2)]⟩)])
  (fun i u' m'=>i.1≤(C2 F F.length).length∧Af mb m' (.slice i.2.1 ((C2 F F.length).take i.1).length i.2.2) 44 2 ((((C2 F F.length).take i.1).map I2).map Ak)) (fun i=>(C2 F F.length).length - i.1) (0,(none,0)) ⟨by omega,Af.nil _ _ _⟩ ?_
 rintro J ⟨i,⟨pa,pc⟩⟩ hJ u5 m5 l5 ⟨hi,hP⟩;simp only at hi hP hJ;have le5:=le4.trans l5;by_cases hlt:i < (C2 F F.length).length
 ·refine G.lT (i:Int) ((C2 F F.length).length:Int) ?_;obtain ⟨k,hk⟩:∃ k,(C2 F F.length)[i]?=some k:=⟨_,List.getElem?_eq_getElem hlt⟩;have htk:(C2 F F.length).take (i+1)=(C2 F F.length).take i++[k]:=by rw [List.take_add_one,hk]; rfl
  obtain ⟨bb,ob,rfl,eb⟩:=Ad.at' (hN.mono l5) (j:=i) (e:=.int .i64 (k:Int)) (by simp [Ai,hk]);have htl:((C2 F F.length).take i).length=i:=by rw [List.length_take]; omega
  refine G.a bb ob (C2 F F.length).length nc i 1 hlt ?_;refine G.lU none bb (ob+i*1) (.int .i64 (k:Int)) eb ?_;refine G.B 44 2 24 (.agg #[.int .i64 0,.string (mkS [])]) [.agg #[.int .i64 (k:Int),.string (mkS [])]] (E2 (I2 k)) ?_;intro g6 u6 l6 e6;refine G.k 44 2 24 (.agg #[.int .i64 0,.string (mkS [])]) mb _ [Ak (I2 k)] _ g6 0 1 1 hP e6 (E2 (I2 k)) ?_;intro v7 m7 hA7;have e7:(((C2 F F.length).take i).map I2).map Ak++[Ak (I2 k)]=(((C2 F F.length).take (i+1)).map I2).map Ak:=by rw [htk]; simp
  rw [e7] at hA7;obtain ⟨a7,c7,rfl⟩:=hA7.shape;rw [List.length_map,List.length_map] at hA7 ⊢;refine G.i i ?_;exact G.b (hJ (i+1,(a7,c7)) _ _ _ cv (l5.trans l6) ⟨by dsimp only; omega,hA7⟩ (by dsimp only; omega))
 obtain rfl:i=(C2 F F.length).length:=by omega
 refine G.lF ((C2 F F.length).length:Int) ((C2 F F.length).length:Int) ?_;clear hJ;rw [List.take_length] at hP ⊢;have hP0:Af mb m5 (.slice pa (Hs F++Hc F A 0).length pc) 44 2 ((Hs F++Hc F A 0).map Ak):=by
  have e1:Hc F A 0 = []:=rfl;have e2:(Hs F).length=(C2 F F.length).length:=by unfold Hs; simp
  rw [e1,List.append_nil,e2]; exact hP
 have e0:(C2 F F.length).length=(Hs F++Hc F A 0).length:=by
  have e1:Hc F A 0 = []:=rfl;have e2:(Hs F).length=(C2 F F.length).length:=by unfold Hs; simp
  rw [e1,List.append_nil,e2]
 rw [e0];have hnp:(Hs F).length≤8:=by unfold Hs; rw [List.length_map]; omega
 refine G.l (ι:=Nat×(Option Addr×Nat)) (fun i=>[(2,.v (.pointer (some ⟨b,0,none⟩))),(6,.v (.slice i.2.1 (Hs F++Hc F A i.1).length i.2.2)),(41,.v (.slice a1 A.length c1)),(42,.v (.int .i64 (A.length:Int))),(43,.v (.int .i64 (i.1:Int)))]) (fun _=>[])
  (fun i u' m'=>i.1≤A.length∧Af mb m' (.slice i.2.1 (Hs F++Hc F A i.1).length i.2.2) 44 2 ((Hs F++Hc F A i.1).map Ak)) (fun i=>A.length - i.1) (0,(pa,pc)) ⟨by omega,hP0⟩ ?_
 clear hP hP0 e0;rintro J ⟨i,⟨pa,pc⟩⟩ hJ u6 m6 l6 ⟨hi,hP⟩;simp only at hi hP hJ;have le6:=le5.trans l6;have hhl:=Ag2 F A i;by_cases hlt:i < A.length
 ·refine G.lT (i:Int) (A.length:Int) ?_;obtain ⟨x,hAi⟩:∃ x,A[i]?=some x:=⟨_,List.getElem?_eq_getElem hlt⟩;have hs:=Afc (F:=F) hAi;have hbel:Xj F lab x.1:=hb x.1 (by obtain ⟨q1,q2⟩:=cA.val x (List.mem_of_getElem? hAi); rw [← q1]; exact q2);obtain ⟨ba,oa,rfl,ea⟩:=Ad.at' (hA.mono le6) (j:=i) (e:=A3 x) (by simp [hAi]);obtain ⟨⟨p1,p2⟩,q⟩:=x;simp only at hs hbel;refine G.a ba oa A.length c1 i 3 hlt ?_;refine G.lU (some 3) ba (oa+i*3) (.agg #[.int .i64 p1,.string (mkS p2),.string (mkS (Ag q))]) ea ?_;have step:∀ {u7:PH},PH.le u6 u7→L8 F (p1,p2)=false→True:=fun _ _=>trivial;by_cases h0:0≤p1
  ·refine G.hT' p1 0 h0 ?_;obtain ⟨k,f,hk1,hkf⟩:∃ (k:Nat) (f:Am),p1=(k:Int)∧F[k]?=some f:=by
    rcases hbel with ⟨h1,_⟩ | ⟨k,f,h1,hf,_⟩
    ·simp only at h1; omega
    ·exact ⟨k,f,h1,hf⟩
   subst hk1;have hkl:=(List.getElem?_eq_some_iff.1 hkf).1;have hmb6:m6 b=some (.cells [Value.slice xa T.length xc,.slice xb R.length xd,.slice xe F.length xf,.int .i64 lab].toArray 30 (0,0)):=hP.see hmbb;refine G.f 30 b 0 2 2 ?_;refine G.lM none b (0+2) (.slice xe F.length xf) ((hcb m6 hmb6).fld (j:=2) (xs:=#[.slice xa T.length xc,.slice xb R.length xd,.slice xe F.length xf,.int .i64 lab]) rfl rfl) ?_;obtain ⟨fb,fo,rfl,ef⟩:=Ad.at' (hFL.mono le6) (j:=k) (e:=Bt f) (by simp [hkf]);refine G.a fb fo F.length xf k 3 hkl ?_;obtain ⟨f1,f2,f3⟩:=f;refine G.f 118 fb (fo+k*3) 1 1 ?_;refine G.lU none fb (fo+k*3+1) (.int .i64 (f2:Int)) (ef.fld (j:=1) (xs:=#[.int .i64 (f1:Int),.int .i64 (f2:Int),.int .i64 (f3:Int)]) rfl rfl) ?_;have hot:L8 F ((k:Int),p2)=(f2 == 2):=by
    unfold L8;simp only [Int.toNat_natCast,List.getD_eq_getElem?_getD,hkf,Option.getD_some];rw [decide_eq_true (by omega)]; rfl
   rw [hot] at hs;by_cases h2:f2=2
   ·rw [if_pos (by simpa using h2)] at hs;refine G.eT (f2:Int) 2 ?_;refine G.B 44 2 24 (.agg #[.int .i64 0,.string (mkS [])]) [.agg #[.int .i64 (k:Int),.string (mkS p2)]] (E2 ((k:Int),p2)) ?_;intro g7 u7 l7 e7;refine G.k 44 2 24 (.agg #[.int .i64 0,.string (mkS [])]) mb _ [Ak ((k:Int),p2)] _ g7 0 1 1 hP e7 (E2 ((k:Int),p2)) ?_;intro v8 m8 hA8;have e8:(Hs F++Hc F A i).map Ak++[Ak ((k:Int),p2)]=(Hs F++Hc F A (i+1)).map Ak:=by rw [hs]; simp
    rw [e8] at hA8;obtain ⟨a8,c8,rfl⟩:=hA8.shape;rw [List.length_map] at hA8 ⊢;refine G.i i ?_;exact G.b (hJ (i+1,(a8,c8)) _ _ _ cv (l6.trans l7) ⟨by dsimp only; omega,hA8⟩ (by dsimp only; omega))
   ·rw [if_neg (by simpa using h2)] at hs;refine G.eF (f2:Int) 2 ?_;refine G.i i ?_;rw [← hs] at hP ⊢;exact G.b (hJ (i+1,(pa,pc)) _ _ _ cv l6 ⟨by dsimp only; omega,hP⟩ (by dsimp only; omega))
  ·refine G.hF' p1 0 h0 ?_;have hot:L8 F (p1,p2)=false:=by
    unfold L8;rw [decide_eq_false h0]; rfl
   rw [hot,if_neg (by simp)] at hs;refine G.i i ?_;rw [← hs] at hP ⊢;exact G.b (hJ (i+1,(pa,pc)) _ _ _ cv l6 ⟨by dsimp only; omega,hP⟩ (by dsimp only; omega))
 obtain rfl:i=A.length:=by omega
 refine G.lF (A.length:Int) (A.length:Int) ?_;clear hJ;have hnd:(Hs F++Hc F A A.length).Nodup:=Yq (cA.srt.nodup Dd);have hmm:∀ p,p∈Hs F++Hc F A A.length↔_:=fun p=>Ad0 (F:=F) cA (p:=p);have hll:(Hs F++Hc F A A.length).length≤1000000:=by rw [List.length_append]; omega
 generalize Hs F++Hc F A A.length=L at hP hnd hmm hll;by_cases h24:24 < L.length
 ·refine G.gT (L.length:Int) 24 ?_;refine G.drop PH.mt (by kernel_rfl) (PH.mt_le _) ?_;exact G.r (.tuple #[.slice none 0 0,.int .i64 3]) ⟨rfl,.inl ⟨rfl,C1 A4 L,by rw [(Eh (c:=A4) L).length_eq]; exact h24,Il Dd hnd,fun p=>(Eh (c:=A4) L).mem_iff.trans (hmm p)⟩⟩
 ·refine G.gF (L.length:Int) 24 ?_;refine G.callA _ _ (by kernel_rfl) (by kernel_rfl) Tryz.call171 (Ci m6).symm (Rn m6) (Aga hP hnd hll) ?_;rintro v7 u7 m7 l7 ⟨rfl,hS⟩ _;rw [Ci];have hp:=Eh (c:=A4) L;have hsl:(C1 A4 L).length=L.length:=hp.length_eq;refine G.give _ _ _ (by kernel_rfl) hS (fun g=>.inl rfl) ?_;intro u8 l8 hL8;refine G.drop PH.mt (by kernel_rfl) (PH.mt_le _) ?_;exact G.r (.tuple #[.slice pa L.length pc,.int .i64 0]) ⟨rfl,.inr ⟨_,C1 A4 L,rfl,hL8,by omega,Il Dd hnd,fun p=>hp.mem_iff.trans (hmm p)⟩⟩
end
section
open Go.RowKit Go.MapKept
def Ft (F:List Am)(A:List (Par×Rat))(i:Nat):List Par:=if (F.getD i (0,0,0)).2.1=1 then [I2 i] else (A.map (·.1)).filter fun p=>p.1 == (i:Int)
def Fx (F:List Am)(A:List (Par×Rat))(n:Nat):List Par:=(List.range n).flatMap (Ft F A)
theorem Po (F:List Am)(A:List (Par×Rat))(n:Nat):Fx F A (n+1)=Fx F A n++Ft F A n:=by
 unfold Fx;rw [List.range_succ,List.flatMap_append]; simp
theorem O3 {F:List Am}{A:List (Par×Rat)}{i:Nat}{p:Par}(h:p∈Ft F A i):p.1=(i:Int):=by
 unfold Ft at h;split at h
 ·simp at h; subst h; rfl
 ·have:=(List.mem_filter.1 h).2;simpa using this
theorem Ah6 {F:List Am}{A:List (Par×Rat)}{n:Nat}{p:Par}(h:p∈Fx F A n):0≤p.1∧p.1 < (n:Int):=by
 unfold Fx at h;obtain ⟨i,hi,hp⟩:=List.mem_flatMap.1 h;have:=O3 hp;simp at hi;omega
theorem Agv {p q:Par}(h:p.1 < q.1):A4 p q < 0:=by
 unfold A4 Mk;rw [if_pos h,if_pos (by omega)]; omega
theorem Tz {F:List Am}{A:List (Par×Rat)}(hA:Dx A4 (A.map (·.1))):∀ n,Dx A4 (Fx F A n)
 | 0=>List.Pairwise.nil
 | n+1=>by
  rw [Po];refine List.pairwise_append.2 ⟨Tz hA n,?_,fun p hp q hq=>?_⟩
  ·unfold Ft;split
   ·exact List.pairwise_singleton _ _
   ·exact hA.filter _
  ·have h1:=Ah6 hp;have h2:=O3 hq;exact Agv (by omega)
theorem Ah0 {F:List Am}{A:List (Par×Rat)}{C:CF}(hA:Can A4 C.s A)(hk:∀ f∈F,f.2.1=1∨f.2.1=2){p:Par}:p∈Fx F A F.length↔(∃ (i:Nat) (f:Am),p=I2 i∧F[i]?=some f∧f.2.1=1)∨(C.s p≠0∧∃ (i:Nat) (f:Am),p.1=(i:Int)∧F[i]?=some f∧f.2.1=2):=by
 have hmem:p∈A.map (·.1)↔C.s p≠0:=by
  constructor
  ·intro h;obtain ⟨x,hx,rfl⟩:=List.mem_map.1 h;obtain ⟨h1,h2⟩:=hA.val x hx;rw [← h1]; exact h2
  ·intro h;exact Classical.byContradiction fun hh=>h (hA.out p hh)
 unfold Fx;rw [List.mem_flatMap];constructor
 ·rintro ⟨i,hi,hp⟩;have hil:i < F.length:=by simpa using hi
  have hFi:F[i]?=some F[i]:=List.getElem?_eq_getElem hil;have e:F.getD i (0,0,0)=F[i]:=by simp [List.getD_eq_getElem?_getD,hFi]
  have h1:=O3 hp;unfold Ft at hp;rw [e] at hp;split at hp
  ·rename_i h; simp at hp; exact .inl ⟨i,F[i],hp,hFi,h⟩
  ·rename_i h;exact .inr ⟨hmem.1 (List.mem_filter.1 hp).1,i,F[i],h1,hFi,(hk _ (List.getElem_mem hil)).resolve_left h⟩
 ·rintro (⟨i,f,rfl,hf,h1⟩ | ⟨h0,i,f,h1,hf,h2⟩)
  ·have e:F.getD i (0,0,0)=f:=by simp [List.getD_eq_getElem?_getD,hf]
   refine ⟨i,by simpa using (List.getElem?_eq_some_iff.1 hf).1,?_⟩;unfold Ft;rw [e,if_pos h1]; simp
  ·have e:F.getD i (0,0,0)=f:=by simp [List.getD_eq_getElem?_getD,hf]
   refine ⟨i,by simpa using (List.getElem?_eq_some_iff.1 hf).1,?_⟩;unfold Ft;rw [e,if_neg (by omega)];exact List.mem_filter.2 ⟨hmem.2 h0,by simpa using h1⟩
theorem Ahw {F:List Am}{A:List (Par×Rat)}(n:Nat):(Fx F A n).length≤n*(A.length+1):=by
 induction n with
 | zero=>exact Nat.zero_le _
 | succ n ih =>
  rw [Po,List.length_append,Nat.add_mul,Nat.one_mul];have:(Ft F A n).length≤A.length+1:=by
   unfold Ft;split
   ·simp
   ·refine Nat.le_trans (List.length_filter_le _ _) ?_;rw [List.length_map]; omega
  omega
def F6 (A:List (Par×Rat))(i n:Nat):List Par:=((A.take n).map (·.1)).filter fun p=>p.1 == (i:Int)
theorem Abk {A:List (Par×Rat)}{i n:Nat}{x:Par×Rat}(h:A[n]?=some x):F6 A i (n+1)=if x.1.1=(i:Int) then F6 A i n++[x.1] else F6 A i n:=by
 unfold F6;have e:A.take (n+1)=A.take n++[x]:=by rw [List.take_add_one,h]; rfl
 rw [e,List.map_append,List.filter_append];by_cases hh:x.1.1=(i:Int)
 ·rw [if_pos hh,List.map_cons,List.filter_cons_of_pos (by simpa using hh)]; rfl
 ·rw [if_neg hh,List.map_cons,List.filter_cons_of_neg (by simpa using hh)]; simp
theorem Adp (A:List (Par×Rat))(i n:Nat):(F6 A i n).length≤A.length:=by
 unfold F6;refine Nat.le_trans (List.length_filter_le _ _) ?_;rw [List.length_map,List.length_take]; omega
theorem Zy {u:PH}{v w:Value}{T:List (List UInt8×Nat)}{R:List Bn}{F:List Am}{lab:Int}{C:CF}{K:Nat}(hX:D5 u v T R F lab)(ok:Bi u T R F lab)(hC:Hb u w C K)(sC:CFS C)(vC:CFV C)(hK:K≤10000)(hb:∀ p,C.s p≠0→Xj F lab p) :
  Fn0 Tryz.prog 36 [v,w] u fun r u'=>Am4 u' r F C:=by
 have hck:=fun (u':PH) (l:PH.le u u')=>Pi (hX.mono l) (ok.mono l);have hvd:=fun (u':PH) (l:PH.le u u')=>Z6 (hC.mono l) sC vC (by omega);have hkd:∀ f∈F,f.2.1=1∨f.2.1=2:=fun f hf=>by
  obtain ⟨n,k,_,h2,_⟩:=ok.feat.ok f hf;rcases h2 with ⟨h2,_⟩ | ⟨h2,_⟩
  ·exact .inl h2
  ·exact .inr h2
 obtain ⟨xa,xc,xb,xd,xe,xf,rfl,hTL,hRL,hFL⟩:=id hX;obtain ⟨A,Q,a1,c1,a2,c2,rfl,hA,hQ,cA,cQ,kA,kQ⟩:=hC;have hf8:=ok.f2;have hRl:∀ n,n≤8→(Fx F A n).length≤100000:=fun n hn=>by
  have:=Ahw (F:=F) (A:=A) n;have h2:n*(A.length+1)≤8*(A.length+1):=Nat.mul_le_mul_right _ hn;omega
 refine Fn0.o Tryz.func36 ?_;refine G.c Tryz.call74 (hck u (PH.le_refl _)) ?_;rintro v1 u1 l1 rfl;refine G.nF 0 0 ?_;refine G.c Tryz.call86 (hvd u1 l1) ?_;rintro v2 u2 l2 rfl;have le2:=l1.trans l2;refine G.l (ι:=Nat×(Option Addr×Nat)) (fun i=>[(2,.p 0 0),(3,.p 1 0),(7,.v (.slice i.2.1 (Fx F A i.1).length i.2.2)),(26,.v (.slice xe F.length xf)),(27,.v (.int .i64 (F.length:Int))),(28,.v (.int .i64 (i.1:Int)))])
  (fun _=>[(0,⟨30,[.v (.slice xa T.length xc),.v (.slice xb R.length xd),.v (.slice xe F.length xf),.v (.int .i64 lab)]⟩),(1,⟨36,[.v (.string (mkS (Ag C.c))),.v (.slice a1 A.length c1),.v (.slice a2 Q.length c2)]⟩)])
  (fun i u' m'=>i.1≤F.length∧Af PH.mt m' (.slice i.2.1 (Fx F A i.1).length i.2.2) 44 2 ((Fx F A i.1).map Ak)) (fun i=>F.length - i.1) (0,(none,0)) ⟨by omega,Af.nil _ _ _⟩ ?_
 rintro J ⟨i,⟨pa,pc⟩⟩ hJ u3 m3 l3 ⟨hi,hP⟩;simp only at hi hP hJ;have le3:=le2.trans l3;have hln:=hRl i (by omega);by_cases hlt:i < F.length
 ·refine G.lT (i:Int) (F.length:Int) ?_;obtain ⟨f,hFi⟩:∃ f,F[i]?=some f:=⟨_,List.getElem?_eq_getElem hlt⟩;have hgd:F.getD i (0,0,0)=f:=by simp [List.getD_eq_getElem?_getD,hFi]
  have hs:=Po F A i;obtain ⟨fb,fo,rfl,ef⟩:=Ad.at' (hFL.mono le3) (j:=i) (e:=Bt f) (by simp [hFi]);obtain ⟨f1,f2,f3⟩:=f;refine G.a fb fo F.length xf i 3 hlt ?_;refine G.lU (some 3) fb (fo+i*3) (.agg #[.int .i64 (f1:Int),.int .i64 (f2:Int),.int .i64 (f3:Int)]) ef ?_;by_cases hk1:f2=1
  ·have hp:Ft F A i = [I2 i]:=by unfold Ft; rw [hgd,if_pos hk1]
   rw [hp] at hs;refine G.eT (f2:Int) 1 ?_;refine G.B 44 2 24 (.agg #[.int .i64 0,.string (mkS [])]) [.agg #[.int .i64 (i:Int),.string (mkS [])]] (E2 (I2 i)) ?_;intro g6 u6 l6 e6;refine G.k 44 2 24 (.agg #[.int .i64 0,.string (mkS [])]) PH.mt ((Fx F A i).map Ak) [Ak (I2 i)] _ g6 0 1 1 hP e6 (E2 (I2 i)) ?_;intro v7 m7 hA7;rw [show (Fx F A i).map Ak++[Ak (I2 i)]=(Fx F A (i+1)).map Ak by rw [hs]; simp] at hA7;obtain ⟨a7,c7,rfl⟩:=hA7.shape;rw [List.length_map] at hA7 ⊢;refine G.i i ?_;exact G.b (hJ (i+1,(a7,c7)) _ _ _ cv (l3.trans l6) ⟨by dsimp only; omega,hA7⟩ (by dsimp only; omega))
  ·have hp:Ft F A i=F6 A i A.length:=by unfold Ft F6; rw [hgd,if_neg hk1,List.take_length]
   rw [hp] at hs;refine G.eF (f2:Int) 1 ?_;have hP0:Af PH.mt m3 (.slice pa (Fx F A i++F6 A i 0).length pc) 44 2 ((Fx F A i++F6 A i 0).map Ak):=by
    rw [show F6 A i 0 = [] from rfl,List.append_nil]; exact hP
   have e0:(Fx F A i).length=(Fx F A i++F6 A i 0).length:=by rw [show F6 A i 0 = [] from rfl,List.append_nil]
   rw [e0];refine G.l (ι:=Nat×(Option Addr×Nat)) (fun n=>[(2,.p 0 0),(3,.p 1 0),(7,.v (.slice n.2.1 (Fx F A i++F6 A i n.1).length n.2.2)),(8,.v (.int .i64 (i:Int))),(26,.v (.slice (some ⟨fb,fo,none⟩) F.length xf)),(27,.v (.int .i64 (F.length:Int))),(28,.v (.int .i64 (i:Int))),(42,.v (.slice a1 A.length c1)),(43,.v (.int .i64 (A.length:Int))),(44,.v (.int .i64 (n.1:Int)))])
    (fun _=>[(0,⟨30,[.v (.slice xa T.length xc),.v (.slice xb R.length xd),.v (.slice (some ⟨fb,fo,none⟩) F.length xf),.v (.int .i64 lab)]⟩),(1,⟨36,[.v (.string (mkS (Ag C.c))),.v (.slice a1 A.length c1),.v (.slice a2 Q.length c2)]⟩)])
    (fun n u' m'=>n.1≤A.length∧Af PH.mt m' (.slice n.2.1 (Fx F A i++F6 A i n.1).length n.2.2) 44 2 ((Fx F A i++F6 A i n.1).map Ak)) (fun n=>A.length - n.1) (0,(pa,pc)) ⟨by omega,hP0⟩ ?_
   clear hP hP0 e0;rintro J2 ⟨n,⟨pa,pc⟩⟩ hJ2 u4 m4 l4 ⟨hn,hP⟩;simp only at hn hP hJ2;have hpl:=Adp A i n;by_cases hnl:n < A.length
   ·refine G.lT (n:Int) (A.length:Int) ?_;obtain ⟨x,hAn⟩:∃ x,A[n]?=some x:=⟨_,List.getElem?_eq_getElem hnl⟩;have hps:=Abk (i:=i) hAn;obtain ⟨ba,oa,rfl,ea⟩:=Ad.at' (hA.mono (le3.trans l4)) (j:=n) (e:=A3 x) (by simp [hAn]);obtain ⟨⟨p1,p2⟩,q⟩:=x;simp only at hps;refine G.a ba oa A.length c1 n 3 hnl ?_;refine G.lU (some 3) ba (oa+n*3) (.agg #[.int .i64 p1,.string (mkS p2),.string (mkS (Ag q))]) ea ?_;by_cases he:p1=(i:Int)
    ·rw [if_pos he] at hps;refine G.eT' p1 (i:Int) he ?_;refine G.B 44 2 24 (.agg #[.int .i64 0,.string (mkS [])]) [.agg #[.int .i64 p1,.string (mkS p2)]] (E2 (p1,p2)) ?_;intro g6 u6 l6 e6;refine G.k 44 2 24 (.agg #[.int .i64 0,.string (mkS [])]) PH.mt ((Fx F A i++F6 A i n).map Ak) [Ak (p1,p2)] _ g6 0 1 1 hP e6 (E2 (p1,p2)) ?_;intro v7 m7 hA7;rw [show (Fx F A i++F6 A i n).map Ak++[Ak (p1,p2)]=(Fx F A i++F6 A i (n+1)).map Ak by rw [hps]; simp] at hA7;obtain ⟨a7,c7,rfl⟩:=hA7.shape;rw [List.length_map] at hA7 ⊢;refine G.i n ?_;exact G.b (hJ2 (n+1,(a7,c7)) _ _ _ cv (l4.trans l6) ⟨by dsimp only; omega,hA7⟩ (by dsimp only; omega))
    ·rw [if_neg he] at hps;refine G.eF' p1 (i:Int) he ?_;refine G.i n ?_;rw [← hps] at hP ⊢;exact G.b (hJ2 (n+1,(pa,pc)) _ _ _ cv l4 ⟨by dsimp only; omega,hP⟩ (by dsimp only; omega))
   ·obtain rfl:n=A.length:=by omega
    refine G.lF (A.length:Int) (A.length:Int) ?_;refine G.i i ?_;rw [← hs] at hP ⊢;exact G.b (hJ (i+1,(pa,pc)) _ _ _ cv (l3.trans l4) ⟨by dsimp only; omega,hP⟩ (by dsimp only; omega))
 obtain rfl:i=F.length:=by omega
 refine G.lF (F.length:Int) (F.length:Int) ?_;clear hJ;have hmm:∀ p,p∈Fx F A F.length↔_:=fun p=>Ah0 (F:=F) cA hkd (p:=p);have hsrt:Dx A4 (Fx F A F.length):=Tz cA.srt _;generalize hLL:Fx F A F.length=L at hP hmm hsrt hln;have hin:∀ x∈A,(x.1.1 = -1∧0≤lab∧x.1.2 = [])∨(0≤x.1.1∧x.1∈L):=fun x hx=>by
  obtain ⟨q1,q2⟩:=cA.val x hx;have hne:C.s x.1≠0:=by rw [← q1]; exact q2
  rcases hb x.1 hne with h | ⟨k,f,h1,hf,h3⟩
  ·exact .inl h
  ·refine .inr ⟨by omega,(hmm x.1).2 ?_⟩;rcases hkd f (List.mem_of_getElem? hf) with h4 | h4
   ·refine .inl ⟨k,f,?_,hf,h4⟩;obtain ⟨⟨p1,p2⟩,q⟩:=x;simp only at h1 h3;rw [h1,h3.resolve_left (by omega)]; rfl
   ·exact .inr ⟨hne,k,f,h1,hf,h4⟩
 refine G.l (ι:=Nat) (fun i=>[(2,.p 0 0),(7,.v (.slice pa L.length pc)),(61,.v (.slice a1 A.length c1)),(62,.v (.int .i64 (A.length:Int))),(63,.v (.int .i64 (i:Int)))])
  (fun _=>[(0,⟨30,[.v (.slice xa T.length xc),.v (.slice xb R.length xd),.v (.slice xe F.length xf),.v (.int .i64 lab)]⟩)])
  (fun i u' m'=>i≤A.length∧m'=m3) (fun i=>A.length - i) 0 ⟨by omega,rfl⟩ ?_
 rintro J i hJ u4 m4 l4 ⟨hi4,rfl⟩;have le4:=le3.trans l4;by_cases hlt4:i < A.length
 ·refine G.lT (i:Int) (A.length:Int) ?_;obtain ⟨x,hAi⟩:∃ x,A[i]?=some x:=⟨_,List.getElem?_eq_getElem hlt4⟩;have hx:=hin x (List.mem_of_getElem? hAi);obtain ⟨ba,oa,rfl,ea⟩:=Ad.at' (hA.mono le4) (j:=i) (e:=A3 x) (by simp [hAi]);obtain ⟨⟨p1,p2⟩,q⟩:=x;simp only at hx;refine G.a ba oa A.length c1 i 3 hlt4 ?_;refine G.lU (some 3) ba (oa+i*3) (.agg #[.int .i64 p1,.string (mkS p2),.string (mkS (Ag q))]) ea ?_;rcases hx with ⟨h1,h2,h3⟩ | ⟨h1,h2⟩
  ·refine G.eT' p1 (-1) h1 ?_;refine G.hT' lab 0 h2 ?_;refine G.q p2 [] h3 ?_;refine G.i i ?_;exact G.b (hJ (i+1) _ _ _ cv l4 ⟨by omega,rfl⟩ (by omega))
  ·refine G.eF p1 (-1) ?_;refine G.l (ι:=Nat×Bool) (fun n=>[(2,.p 0 0),(7,.v (.slice pa L.length pc)),(13,.p 21002 0),(14,.v (.bool n.2)),(61,.v (.slice (some ⟨ba,oa,none⟩) A.length c1)),(62,.v (.int .i64 (A.length:Int))),(63,.v (.int .i64 (i:Int))),(82,.v (.slice pa L.length pc)),(83,.v (.int .i64 (L.length:Int))),(84,.v (.int .i64 (n.1:Int)))])
    (fun _=>[(0,⟨30,[.v (.slice xa T.length xc),.v (.slice xb R.length xd),.v (.slice xe F.length xf),.v (.int .i64 lab)]⟩),(21002,⟨107,[.v (.int .i64 p1),.v (.string (mkS p2)),.v (.string (mkS (Ag q)))]⟩)])
    (fun n u' m'=>n.1≤L.length∧m'=m4∧n.2=(L.take n.1).any fun y=>decide (y=(p1,p2))) (fun n=>L.length - n.1) (0,false) ⟨by omega,rfl,rfl⟩ ?_
   rintro J2 ⟨n,fnd⟩ hJ2 u5 m5 l5 ⟨hn,rfl,hf⟩;simp only at hn hf hJ2;by_cases hnl:n < L.length
   ·refine G.lT (n:Int) (L.length:Int) ?_;obtain ⟨y,hLn⟩:∃ y,L[n]?=some y:=⟨_,List.getElem?_eq_getElem hnl⟩;have hany:((L.take (n+1)).any fun y=>decide (y=(p1,p2)))=(((L.take n).any fun y=>decide (y=(p1,p2))) || decide (y=(p1,p2))):=by
     rw [List.take_add_one,hLn,List.any_append]; simp
    obtain ⟨gs,cs,hgc⟩:=hP.ptr (fun e=>by
     have:L.length=0:=by simpa using congrArg List.length e
     omega)
    simp only [Value.slice.injEq] at hgc;obtain ⟨rfl,_,rfl⟩:=hgc;have hel:ElP m5 gs (0+n*2) (Ak y):=hP.el (by rw [List.getElem?_map,hLn]; rfl);refine G.a gs 0 L.length pc n 2 hnl ?_;refine G.lM (some 2) gs (0+n*2) (.agg #[.int .i64 y.1,.string (mkS y.2)]) hel ?_;cases fnd with
    | true =>
     refine G.i n ?_;rw [← hf,Bool.true_or] at hany;exact G.b (hJ2 (n+1,true) _ _ _ cv l5 ⟨by dsimp only; omega,rfl,hany.symm⟩ (by dsimp only; omega))
    | false =>
     rw [← hf,Bool.false_or] at hany;by_cases he:y=(p1,p2)
     ·rw [decide_eq_true he] at hany;refine G.eqAgg 44 #[.int .i64 y.1,.string (mkS y.2)] #[.int .i64 p1,.string (mkS p2)] true (by kernel_rfl) (by kernel_rfl) (by kernel_rfl) (fun w=>by rw [← decide_eq_true he]; exact Ba.eq y (p1,p2) w) ?_;refine G.i n ?_;exact G.b (hJ2 (n+1,true) _ _ _ cv l5 ⟨by dsimp only; omega,rfl,hany.symm⟩ (by dsimp only; omega))
     ·rw [decide_eq_false he] at hany;refine G.eqAgg 44 #[.int .i64 y.1,.string (mkS y.2)] #[.int .i64 p1,.string (mkS p2)] false (by kernel_rfl) (by kernel_rfl) (by kernel_rfl) (fun w=>by rw [← decide_eq_false he]; exact Ba.eq y (p1,p2) w) ?_;refine G.i n ?_;exact G.b (hJ2 (n+1,false) _ _ _ cv l5 ⟨by dsimp only; omega,rfl,hany.symm⟩ (by dsimp only; omega))
   ·obtain rfl:n=L.length:=by omega
    refine G.lF (L.length:Int) (L.length:Int) ?_;have hall:((L.take L.length).any fun y=>decide (y=(p1,p2)))=true:=by
     rw [List.take_length]; exact List.any_eq_true.2 ⟨_,h2,by simp⟩
    rw [hall] at hf;subst hf;refine G.i i ?_;exact G.b (hJ (i+1) _ _ _ cv (l4.trans l5) ⟨by omega,rfl⟩ (by omega))
 obtain rfl:i=A.length:=by omega
 refine G.lF (A.length:Int) (A.length:Int) ?_;by_cases h24:24 < L.length
 ·refine G.gT (L.length:Int) 24 ?_;refine G.drop PH.mt (by kernel_rfl) (PH.mt_le _) ?_;exact G.r (.tuple #[.slice none 0 0,.int .i64 3]) ⟨rfl,.inl ⟨rfl,L,h24,hsrt,hmm⟩⟩
 ·refine G.gF (L.length:Int) 24 ?_;refine G.give _ _ _ (by kernel_rfl) hP (fun g=>.inl rfl) ?_;intro u8 l8 hL8;exact G.r (.tuple #[.slice pa L.length pc,.int .i64 0]) ⟨rfl,.inr ⟨_,L,rfl,hL8,by omega,hsrt,hmm⟩⟩
end
section
variable [Cb]
open Go.RowKit
section
variable {P:Program} {id:Nat} {ops:Array Oper} {dr:Bool} {Fin:S→PH→PH→Prop} {c:Cx} {Q:Exit→Act→World→Prop}
theorem Ob.wpAny3 {s0:S}(hL0:K3 s0)(hE:(List.range ops.size).all (Hw ops)=true)(hF:∀ s u m ρ a w,Fin s u m→Rel c s u m ρ a w→Q .normal a w){p q r:Nat}{post:List Nat}(hpost:∀ y∈post,bef ops ops.size y p=true)(hrq:bef ops ops.size r q=true)(hpq:dir ops p q=false)(hpr:dir ops p r=false) :
  ∀ (n:Nat) (pre:List Nat) (listed:Array Bool) {s:S} {u m:PH} {ρ:Nat→Nat} {a:Act} {w:World},pre.length+(post.length+3)=n→H9 ops listed (pre++p::q::r::post) →
   (pre++p::post).Pairwise (fun x y=>Eu ops s0 x y=true)→(pre++q::r::post).Pairwise (fun x y=>Eu ops s0 x y=true)→Ev ops s0 s →
   Ob P id ops true (fun s u m=>Ob P id ops true Fin (p::q::r::post) s u m∧Ob P id ops true (fun s u m=>Ob P id ops true Fin (p::r::post) s u m∧Ob P id ops true Fin (r::p::post) s u m) [q] s u m) pre s u m→Rel c s u m ρ a w→Go.wpAny P .any ops Q n listed a w:=by
 intro n;induction n with
 | zero=>intro pre listed s u m ρ a w hlen; omega
 | succ n ih =>
  intro pre listed s u m ρ a w hlen hLeft hP1 hP2 hag hO hr;refine ⟨fun hnil=>?_,fun i hi=>?_⟩
  ·exfalso;cases pre with
   | nil =>
    have:=hLeft.first hE fun x hx=>by
     simp only [List.mem_cons] at hx;rcases hx with rfl | rfl | hx
     ·exact hpq
     ·exact hpr
     ·exact Dq (List.rel_of_pairwise_cons hP1 hx)
    rw [hnil] at this; cases this
   | cons t T' =>
    have:=H9.first (t:=t) (T:=T'++p::q::r::post) hLeft hE fun x hx=>by
     simp only [List.mem_append,List.mem_cons] at hx;rcases hx with hx | rfl | rfl | rfl | hx
     ·exact Dq (List.rel_of_pairwise_cons hP1 (by simp [hx]))
     ·exact Dq (List.rel_of_pairwise_cons hP1 (by simp))
     ·exact Dq (List.rel_of_pairwise_cons hP2 (by simp))
     ·exact Dq (List.rel_of_pairwise_cons hP2 (by simp))
     ·exact Dq (List.rel_of_pairwise_cons hP1 (by simp [hx]))
    rw [hnil] at this; cases this
  ·obtain ⟨h1,h2,o,ho,hpre⟩:=Ov.1 hi;have hm:=(hLeft.mem i h1).1 h2;simp only [List.mem_append,List.mem_cons] at hm;rcases hm with hm | hm | hm | hm | hm
   ·obtain ⟨A,B,rfl⟩:=List.append_of_mem hm;have hLeft':H9 ops listed (A++i::(B++p::q::r::post)):=by
     rw [List.append_assoc] at hLeft; exact hLeft
    have hP1':(A++i::(B++p::post)).Pairwise (fun x y=>Eu ops s0 x y=true):=by
     rw [List.append_assoc] at hP1; exact hP1
    have hP2':(A++i::(B++q::r::post)).Pairwise (fun x y=>Eu ops s0 x y=true):=by
     rw [List.append_assoc] at hP2; exact hP2
    have hsw:=hLeft'.swaps (A:=A) (s0:=s0) (fun x hx=>by simp [hx]) ho hpre fun x hx=>(List.pairwise_append.1 hP1').2.2 x hx i (by simp);have hO':=Ob.bubble hL0 A hsw hr.lv hag hO;refine wpOp_mono (fun a' w' ⟨s',u',m',ρ',r1,ra,r2⟩=>?_) (hO'.step (Q:=Q) hr);refine ih (A++B) _ (by simp at hlen ⊢; omega) (by rw [List.append_assoc]; exact hLeft'.next ho hpre) ?_ ?_ (hag.trans ra) r2 r1
    ·rw [List.append_assoc];exact hP1'.sublist (List.Sublist.append_left (List.sublist_cons_self i _) A)
    ·rw [List.append_assoc];exact hP2'.sublist (List.Sublist.append_left (List.sublist_cons_self i _) A)
   ·subst hm;have hsw:=hLeft.swaps (A:=pre) (s0:=s0) (fun x hx=>by simp [hx]) ho hpre fun x hx=>(List.pairwise_append.1 hP1).2.2 x hx i (by simp);have hO':=Ob.bubble hL0 pre hsw hr.lv hag (Ob.append (l2:=i::q::r::post) (hO.fin fun s u m h=>h.1));refine wpOp_mono (fun a' w' ⟨s',u',m',ρ',r1,ra,r2⟩=>?_) (hO'.step (Q:=Q) hr);exact (hLeft.next ho hpre).any hL0 hE hF (by simp; omega) hP2 (hag.trans ra) r2 r1
   ·subst hm;have hLeft':H9 ops listed (pre++i::p::r::post):=hLeft.perm ((List.Perm.swap i p (r::post)).append_left pre);have hsw:=hLeft'.swaps (A:=pre) (s0:=s0) (fun x hx=>by simp [hx]) ho hpre fun x hx=>(List.pairwise_append.1 hP2).2.2 x hx i (by simp);have hO':=Ob.bubble (B:=[]) hL0 pre hsw hr.lv hag (Ob.append (l2:=[i]) (hO.fin fun s u m h=>h.2));refine wpOp_mono (fun a' w' ⟨s',u',m',ρ',r1,ra,r2⟩=>?_) (hO'.step (Q:=Q) hr);rw [List.append_nil] at r2;exact Ob.wpAny2 hL0 hE hF hpost hpr n pre _ (by omega) (hLeft'.next ho hpre) hP1 (hP2.sublist (List.Sublist.append_left (List.sublist_cons_self i _) pre)) (hag.trans ra) r2 r1
   ·exfalso;subst hm;exact hLeft.no (x:=q) (by simp) (Gi hLeft.cl ops.size i (fun o' ho'=>by rw [ho] at ho'; obtain rfl:=Option.some.inj ho'; exact hpre) hrq)
   ·exfalso;exact hLeft.no (x:=p) (by simp) (Gi hLeft.cl ops.size i (fun o' ho'=>by rw [ho] at ho'; obtain rfl:=Option.some.inj ho'; exact hpre) (hpost i hm))
def Af3 (ops:Array Oper)(s:S)(pre:List Nat)(p q r:Nat)(post:List Nat):Bool :=
 Nat.beq (pre.length+(post.length+3)) ops.size && (List.range ops.size).all (fun i=>(pre++p::q::r::post).contains i) && (pre++p::q::r::post).all (fun i=>Nat.blt i ops.size) && K0 ops s (pre++p::post) && K0 ops s (pre++q::r::post) &&
  (List.range ops.size).all (Hw ops) && post.all (fun y=>bef ops ops.size y p) && !dir ops p q && !dir ops p r && !Nat.beq p q && !Nat.beq p r && bef ops ops.size r q
end
section
variable {P:Program} {fn:Func} {Post:B4}
theorem Sym.reg_three (hm:P.follows .mixedOrders=true){id:Nat}{ops:Array Oper}{pre post:List Nat}{p q r:Nat}{s:S}(hB:Af3 ops s pre p q r post=true){k:List KI}{u m:PH}
  (h:Ob P id ops true (fun s u m=>Ob P id ops true (Oi P fn Post k) (p::q::r::post) s u m∧Ob P id ops true (fun s u m=>Ob P id ops true (Oi P fn Post k) (p::r::post) s u m∧Ob P id ops true (Oi P fn Post k) (r::p::post) s u m) [q] s u m) pre s u m):Oi P fn Post (.code (.region id ops true)::k) s u m:=by
 intro c ρ a w hm0 hr;simp only [Hy,Exit.then];unfold Af3 at hB;simp only [Bool.and_eq_true,Bool.not_eq_true'] at hB;obtain ⟨⟨⟨⟨⟨⟨⟨⟨⟨⟨⟨b1,b2⟩,b3⟩,b4⟩,b5⟩,b6⟩,b7⟩,b8⟩,b9⟩,b10⟩,b11⟩,b12⟩:=hB;have b1:=Nat.eq_of_beq_eq_true b1;rw [List.all_eq_true] at b2 b3 b7;have P1:=Eb b4;have P2:=Eb b5;have n1:=Fv P1;have n2:=Fv P2;have hne:p≠q:=fun e=>by rw [e] at b10; simp at b10
 have hne2:p≠r:=fun e=>by rw [e] at b11; simp at b11
 refine wp_region_any hm ?_;refine Ob.wpAny3 (c:=c) hr.lv b6 (fun s u m ρ a w hf hr=>hf c ρ a w hm0 hr) b7 b12 b8 b9 _ pre _ b1 ⟨by simp,fun i hi=>?_,fun i hi=>Nat.blt_eq ▸ b3 i hi,?_,fun i hi=>?_⟩ P1 P2 (Ev.refl _ _) h hr.drew
 ·have:=b2 i (by simpa using hi);rw [List.contains_iff_mem] at this;simp only [Array.getD_eq_getD_getElem?,Array.getElem?_replicate,hi,if_true,Option.getD_some];exact ⟨fun _=>this,fun _=>trivial⟩
 ·rw [List.nodup_append] at n1 n2 ⊢;simp only [List.nodup_cons,List.mem_cons] at n1 n2 ⊢;obtain ⟨a1,⟨a2,a3⟩,a4⟩:=n1;obtain ⟨c1,c2,c4⟩:=n2;refine ⟨a1,⟨fun e=>?_,c2⟩,fun x hx y hy=>?_⟩
  ·rcases e with e | e | e
   ·exact hne e
   ·exact hne2 e
   ·exact a2 e
  ·rcases hy with rfl | hy
   ·exact a4 x hx _ (.inl rfl)
   ·exact c4 x hx _ hy
 ·exfalso;simp only [Array.getD_eq_getD_getElem?] at hi;by_cases hlt:i < ops.size
  ·simp [hlt] at hi
  ·rw [Array.getElem?_eq_none (by simp; omega)] at hi; simp at hi
def Ah7 (P:Program)(pre:List Nat)(p q r:Nat)(post:List Nat)(st:List KI×S):Bool:=match st with
 | (.code (.region id ops true)::k,s)=>Af3 ops s pre p q r post && (Pw P id ops pre s).isSome
 | _=>false
end
section rules
variable {P:Program} [Bb P] {fn:Func} {Post:B4} {st:List KI×S} {u m:PH}
theorem Yu (e:TypeId)(sz bt:Nat)(z:Value)(es:List Value)(ho:A9 sz es)(hzs:z.cells.size=sz)(hsz:0 < sz)(hn0:0 < es.length)(hb:es.length*sz≤16777216)(env:Operand→Value)(o:Oper)(hview:A6 P env o.op=.buildS (some (e,sz,bt,z)) es.length (es.zipIdx.map fun p=>(p.2,p.1)))(w:World)(hgd:Bx u m w) :
  Ei P env o w fun v' w'=>∃ u' m',Bx u' m' w'∧B0 u m w u' m' w'∧(m'=m∧∃ g,v'=.slice (some ⟨g,0,none⟩) es.length es.length∧Ez u' g 0 sz es):=by
 obtain ⟨t,qs,e1,e2,hi⟩:=Fj hview;obtain ⟨dst,opp,type,pos,after,guard⟩:=o;simp only at e1; subst e1;obtain ⟨hu,i,hi1,hi2,rfl,rfl⟩:=Dr hi;obtain ⟨g1,g2,g3,g4⟩:=hgd.newU (.cells (Aw es).toArray e (0,0));have hfl:=A2 ho;have hne:es.length*i.size≠0:=by have:=Nat.mul_pos hn0 hsz; omega
 have hfill:=Og es 0 ((Array.range (es.length*i.size)).map (z.cells[· % z.cells.size]!)) ho (by simp);have e0:((Array.range (es.length*i.size)).map (z.cells[· % z.cells.size]!)).toList.drop (es.length*i.size) = []:=by
  apply List.drop_eq_nil_of_le; simp
 simp only [Nat.zero_mul,List.take_zero,List.nil_append,Nat.zero_add,e0,List.append_nil] at hfill;refine Bq (w':=w.alloc (.cells (Aw es).toArray e (0,0))) (v:=.slice (some ⟨w.heap.size,0,none⟩) es.length es.length) ?_ ⟨_,m,g1,g2,rfl,_,rfl,?_⟩
 ·simp only [execOp,e2];simp [Instr.buildSlice,run_underlying hu,sizeOf,typeInfo,zeroValue,hi1,hi2,hne,hfill,newRow,show ¬ 16777216 < es.length*i.size by omega]
 ·intro j x hj ii y hy;refine ⟨_,_,_,Ab _ _ _,?_⟩;rw [List.getElem?_toArray,Nat.zero_add];exact G4 ho hj hy
theorem G.three (pre:List Nat)(p q r:Nat)(post:List Nat)(e:TypeId)(sz bt:Nat)(z:Value)(es:List Value)(h:Ah7 P pre p q r post (adv P st)=true)(hq:Al P (Kj P pre (q::p::r::post) (adv P st))=.buildS (some (e,sz,bt,z)) es.length (es.zipIdx.map fun p=>(p.2,p.1)))(ho:A9 sz es)(hzs:z.cells.size=sz)(hsz:0 < sz)(hn0:0 < es.length)(hb:es.length*sz≤16777216)
  (k1:G P fn Post (Kj P pre (p::q::r::post) (adv P st)) u m)
  (k2:∀ g u',PH.le u u'→Ez u' g 0 sz es→G P fn Post (nx (Kj P pre (q::p::r::post) (adv P st)) (.slice (some ⟨g,0,none⟩) es.length es.length)) u' m∧G P fn Post (nx (Kj P pre (q::r::p::post) (adv P st)) (.slice (some ⟨g,0,none⟩) es.length es.length)) u' m):G P fn Post st u m:=by
 refine G.stp ⟨?_⟩;generalize adv P st=st' at h hq k1 k2;unfold Ah7 at h;split at h
 ·rename_i id ops k s;rw [Bool.and_eq_true] at h;obtain ⟨h1,h2⟩:=h;obtain ⟨s',hs'⟩:=Option.isSome_iff_exists.1 h2;have e0:∀ l,Kj P pre l (.code (.region id ops true)::k,s)=(.reg id ops true l::k,s'):=fun l=>by unfold Kj; simp only [hs']
  rw [e0] at k1 hq;rw [e0,e0] at k2;obtain ⟨id',ops',dr',i',l',kk',s'',o,e1,ho',hg,hd,hv,hs,hview,hnx⟩:=Hx hq (by simp);simp only [Prod.mk.injEq,List.cons.injEq,KI.reg.injEq] at e1;obtain ⟨⟨⟨rfl,rfl,rfl,rfl,rfl⟩,rfl⟩,rfl⟩:=e1;refine Sym.reg_three Bb.mx h1 (Ob.autos hs' ⟨k1.out,?_⟩);refine Ob.big (K:=fun v' u' m'=>m'=m∧∃ g,v'=.slice (some ⟨g,0,none⟩) es.length es.length∧Ez u' g 0 sz es) ho' hg hd hv hs (by
   obtain ⟨t,qs,e2,_⟩:=Fj hview;rw [e2]; rfl) (fun v u' m' hK=>.inl (by rw [hK.1]; exact PH.le_refl _)) (fun w hgd=>Yu e sz bt z es ho hzs hsz hn0 hb _ o hview w hgd) (fun v u' m' hle hK=>?_)
  obtain ⟨rfl,g,rfl,hE⟩:=hK;obtain ⟨c1,c2⟩:=k2 g u' hle hE;have n1:nx (.reg id ops true (q::p::r::post)::k,s') (.slice (some ⟨g,0,none⟩) es.length es.length)=(.reg id ops true (p::r::post)::k,s'.put o.dst (.v (.slice (some ⟨g,0,none⟩) es.length es.length))):=by
   unfold nx; simp only [ho']
  have n2:nx (.reg id ops true (q::r::p::post)::k,s') (.slice (some ⟨g,0,none⟩) es.length es.length)=(.reg id ops true (r::p::post)::k,s'.put o.dst (.v (.slice (some ⟨g,0,none⟩) es.length es.length))):=by
   unfold nx; simp only [ho']
  rw [n1] at c1;rw [n2] at c2;exact .nil ⟨c1.out,c2.out⟩
 ·cases h
end rules
end
section
open Go.RowKit Go.MapKept
structure Kg (u:PH)(v:Value)(m0:Rat)(M:List (Par×Rat)):Prop where
 val:∃ a c,v=.agg #[.string (mkS (Ag m0)),.slice a M.length c]∧Ad u (.slice a M.length c) 3 (M.map A3)
theorem Kg.mono {u u':PH}{v:Value}{m0:Rat}{M:List (Par×Rat)}(h:Kg u v m0 M)(hl:PH.le u u'):Kg u' v m0 M:=by
 obtain ⟨a,c,e,h1⟩:=h.val;exact ⟨a,c,e,h1.mono hl⟩
structure Fh (P:List Par)(m0:Rat)(M:List (Par×Rat)):Prop where
 c:SmR m0
 t:∀ x∈M,SmR x.2
 srt:Dx A4 (M.map (·.1))
 sub:∀ x∈M,x.1∈P
 len:M.length≤P.length
def cfE (m0:Rat)(M:List (Par×Rat)):Option Par→Rat
 | none=>m0
 | some p=>A5 p M
theorem Vz {u:PH}{v:Value}{P:List Par}(hP:Ad u v 2 (P.map Ak))(hs:Dx A4 P)(hl:P.length≤1000000) :
  Fn0 Tryz.prog 122 [v] u fun r _=>r=.bool true:=by
 obtain ⟨pa,pc,rfl⟩:=hP.opn;rw [List.length_map] at hP ⊢;refine Fn0.o Tryz.func122 ?_;refine G.l (ι:=Nat) (fun i=>[(0,.v (.slice pa P.length pc)),(3,.v (.int .i64 (i:Int)))]) (fun _=>[])
  (fun i u' m'=>1≤i∧m'=PH.mt) (fun i=>P.length - i) 1 ⟨by omega,rfl⟩ ?_
 rintro J i hJ u2 m2 l2 ⟨hi,rfl⟩;by_cases hlt:i < P.length
 ·refine G.lT (i:Int) (P.length:Int) ?_;have hP2:=hP.mono l2;have hPi:P[i]?=some P[i]:=List.getElem?_eq_getElem hlt;have hPj:P[i - 1]?=some (P[i - 1]'(by omega)):=List.getElem?_eq_getElem (by omega);have hcm:A4 (P[i - 1]'(by omega)) P[i] < 0:=List.pairwise_iff_getElem.1 hs (i - 1) i (by omega) hlt (by omega);obtain ⟨ba,oa,e0,ea⟩:=Ad.at' hP2 (j:=i) (e:=Ak P[i]) (by simp [hPi]);obtain ⟨ba',oa',e0',eb⟩:=Ad.at' hP2 (j:=i - 1) (e:=Ak (P[i - 1]'(by omega))) (by simp [hPj]);rw [e0] at e0';cases e0';subst e0;refine G.s (i:Int) 1 ((i - 1:Nat):Int) ?_;refine G.a ba oa P.length pc (i - 1) 2 (by omega) ?_;refine G.lU (some 2) ba (oa+(i - 1)*2) (Ak (P[i - 1]'(by omega))) eb ?_;refine G.a ba oa P.length pc i 2 hlt ?_;refine G.lU (some 2) ba (oa+i*2) (Ak P[i]) ea ?_;refine G.c Tryz.call153 (T2 _ _ true (decide_eq_true hcm)) ?_;rintro v3 u3 l3 rfl;refine G.i i ?_;exact G.b (hJ (i+1) _ _ _ cv (l2.trans l3) ⟨by omega,rfl⟩ (by omega))
 ·refine G.lF (i:Int) (P.length:Int) ?_;exact G.r (.bool true) ⟨rfl,rfl⟩
theorem Rj {u:PH}{v:Value}{m0:Rat}{M:List (Par×Rat)}(h:Kg u v m0 M)(hl:M.length≤100000) :
  Fn0 Tryz.prog 120 [v] u fun r u'=>Ad u' r 2 ((M.map (·.1)).map Ak):=by
 obtain ⟨a,c,rfl,hM⟩:=h.val;refine Fn0.o Tryz.func120 ?_;refine G.l (ι:=Nat×(Option Addr×Nat)) (fun i=>[(3,.v (.slice i.2.1 (M.take i.1).length i.2.2)),(7,.v (.slice a M.length c)),(8,.v (.int .i64 (M.length:Int))),(9,.v (.int .i64 (i.1:Int)))]) (fun _=>[])
  (fun i u' m'=>i.1≤M.length∧Af PH.mt m' (.slice i.2.1 (M.take i.1).length i.2.2) 44 2 (((M.take i.1).map (·.1)).map Ak)) (fun i=>M.length - i.1) (0,(none,0)) ⟨by omega,Af.nil _ _ _⟩ ?_
 rintro J ⟨i,⟨pa,pc⟩⟩ hJ u2 m2 l2 ⟨hi,hA⟩;simp only at hi hA hJ;by_cases hlt:i < M.length
 ·refine G.lT (i:Int) (M.length:Int) ?_;obtain ⟨x,hMi⟩:∃ x,M[i]?=some x:=⟨_,List.getElem?_eq_getElem hlt⟩;have htk:=D1 hMi;have htl:(M.take i).length=i:=by rw [List.length_take]; omega
  obtain ⟨ba,oa,rfl,ea⟩:=Ad.at' (hM.mono l2) (j:=i) (e:=A3 x) (by simp [hMi]);refine G.a ba oa M.length c i 3 hlt ?_;refine G.lU (some 3) ba (oa+i*3) (.agg #[.int .i64 x.1.1,.string (mkS x.1.2),.string (mkS (Ag x.2))]) ea ?_;refine G.B 44 2 24 (.agg #[.int .i64 0,.string (mkS [])]) [.agg #[.int .i64 x.1.1,.string (mkS x.1.2)]] (E2 x.1) ?_;intro g6 u6 l6 e6;refine G.k 44 2 24 (.agg #[.int .i64 0,.string (mkS [])]) PH.mt (((M.take i).map (·.1)).map Ak) [Ak x.1] _ g6 0 1 1 hA e6 (E2 x.1) ?_;intro v7 m7 hA7;rw [show ((M.take i).map (·.1)).map Ak++[Ak x.1]=((M.take (i+1)).map (·.1)).map Ak by rw [htk]; simp] at hA7;obtain ⟨a7,c7,rfl⟩:=hA7.shape;rw [List.length_map,List.length_map] at hA7 ⊢;refine G.i i ?_;exact G.b (hJ (i+1,(a7,c7)) _ _ _ cv (l2.trans l6) ⟨by dsimp only; omega,hA7⟩ (by dsimp only; omega))
 ·obtain rfl:i=M.length:=by omega
  refine G.lF (M.length:Int) (M.length:Int) ?_;rw [List.take_length] at hA ⊢;refine G.give _ _ _ (by kernel_rfl) hA (fun g=>.inl rfl) ?_;intro u3 l3 hL;exact G.r (.slice pa M.length pc) ⟨rfl,hL⟩
theorem Aip {u:PH}{x:Par×Rat}(h:Tx x.2):Fn0 Tryz.prog 187 [A3 x] u fun r _=>r=.bool false:=by
 refine Fn0.o Tryz.func187 ?_;refine G.c Tryz.call146 (Ho h) ?_;rintro v1 u1 l1 rfl;exact G.r (.bool false) ⟨rfl,rfl⟩
theorem Px {u:PH}{v:Value}{m0:Rat}{M:List (Par×Rat)}(h:Kg u v m0 M)(hl:M.length≤100000)(h0:Tx m0)(ht:∀ x∈M,Tx x.2) :
  Fn0 Tryz.prog 121 [v] u fun r _=>r=.bool true:=by
 obtain ⟨a,c,rfl,hM⟩:=h.val;refine Fn0.o Tryz.func121 ?_;refine G.c Tryz.call146 (Ho h0) ?_;rintro v1 u1 l1 rfl;refine G.c Tryz.call147 (Q3 (hM.mono l1) (by omega) Tryz.call187 fun x hx u' _=>Aip (ht x hx)) ?_;rintro v2 u2 l2 rfl;exact G.r (.bool true) ⟨rfl,rfl⟩
def cfL (m0:Rat)(P:List Par)(L:List (Par×Rat)):List (List UInt8):=Ag m0::P.map fun p=>Ag (A5 p L)
theorem Ab0 (m0:Rat)(P:List Par)(L:List (Par×Rat)):(cfL m0 P L).length=P.length+1:=by unfold cfL; simp
theorem Ahv {m0:Rat}{P:List Par}{L:List (Par×Rat)}{x:Par×Rat}{k:Nat}(hk:P[k]?=some x.1)(hn:P.Nodup)(hx:x.1∉L.map (·.1)):(cfL m0 P L).set (k+1) (Ag x.2)=cfL m0 P (L++[x]):=by
 have:=Aef hk hn hx;unfold Abh at this;rw [List.set_cons_succ] at this;unfold cfL;rw [List.set_cons_succ,(List.cons.inj this).2]
theorem Aj3 (m0:Rat)(P:List Par)(M:List (Par×Rat)):cfL m0 P M=((Bw P).map (cfE m0 M)).map Ag:=by
 unfold cfL Bw;rw [List.map_cons,List.map_cons,List.map_map,List.map_map]; rfl
theorem Fh.tx {P:List Par}{m0:Rat}{M:List (Par×Rat)}(h:Fh P m0 M):Tx m0∧∀ x∈M,Tx x.2:=⟨h.c.tx,fun x hx=>(h.t x hx).tx⟩
theorem Ahx {u:PH}{pv v:Value}{P:List Par}{m0:Rat}{M:List (Par×Rat)}(hP:Ad u pv 2 (P.map Ak))(hs:Dx A4 P)(hl:P.length≤10000)(h:Kg u v m0 M)(ok:Fh P m0 M) :
  Fn0 Tryz.prog 101 [pv,v] u fun r u'=>∃ lv,r=.tuple #[lv,.int .i64 0]∧Ab7 u' lv (((Bw P).map (cfE m0 M)).map Ag):=by
 have hMl:=ok.len;have hasc:=fun (u':PH) (l:PH.le u u')=>Vz (hP.mono l) hs (by omega);have hnum:=fun (u':PH) (l:PH.le u u')=>Px (h.mono l) (by omega) ok.tx.1 ok.tx.2;have hpar:=fun (u':PH) (l:PH.le u u')=>Rj (h.mono l) (by omega);have hnd:=hs.nodup Dd;have hMn:=ok.srt.nodup Dd;obtain ⟨pa,pc,rfl⟩:=hP.opn;obtain ⟨a,c,rfl,hM⟩:=h.val;rw [List.length_map] at hP hasc ⊢;refine Fn0.o Tryz.func101 ?_;refine G.c Tryz.call122 (hasc u (PH.le_refl _)) ?_;rintro v1 u1 l1 rfl;refine G.c Tryz.call121 (hnum u1 l1) ?_;rintro v2 u2 l2 rfl;have le2:=l1.trans l2;refine G.c Tryz.call120 (hpar u2 le2) ?_;intro v3 u3 l3 k3;obtain ⟨a3,c3,rfl⟩:=Ad.opn k3;refine G.c Tryz.call122 (Vz k3 ok.srt (by rw [List.length_map]; omega)) ?_;rintro v4 u4 l4 rfl;have le4:=(le2.trans l3).trans l4;have hd0:(cfL m0 P []).map nmV = [Value.string (mkS (Ag m0))]++List.replicate P.length (Value.string (mkS [48])):=by
  have:=Ag7 P;unfold Abh at this;unfold cfL;rw [(List.cons.inj this).2,List.map_cons,List.map_replicate]; rfl
 have hcl:((cfL m0 P []).map nmV).length=P.length+1:=by rw [List.length_map,Ab0]
 have hne:(cfL m0 P []).map nmV≠[]:=by unfold cfL; simp
 refine G.joinF (ι:=Nat×Nat) (fun st=>Xp Tryz.prog (Kj Tryz.prog [0,1,4,5] [2,3,6,7,8] (adv Tryz.prog st)) [undef,undef,undef,undef]) (fun i=>[(0,.v (.slice pa P.length pc)),(3,.p 0 0),(6,.v (.slice (some ⟨i.1,0,none⟩) (P.length+1) i.2))]) (fun _=>[(0,⟨52,[.v (.string (mkS (Ag m0))),.v (.slice a M.length c)]⟩)])
  (fun i u' m'=>Af PH.mt m' (.slice (some ⟨i.1,0,none⟩) (P.length+1) i.2) 32 1 ((cfL m0 P []).map nmV)) (fun _=>by kernel_rfl) (by kernel_rfl) ?tail ?way
 case way =>
  intro hjoin;refine G.three [0,1,4,5] 2 3 6 [7,8] 32 1 16 (.string (mkS [])) [.string (mkS [48])] (by kernel_rfl) (by kernel_rfl) (Dl [[48]]) rfl (by omega) (by simp) (by simp) ?_ ?_
  ·refine G.buildM 32 1 16 (.string (mkS [])) [.string (mkS (Ag m0))] (by kernel_rfl) (Dl [Ag m0]) rfl (by omega) (by simp) (by simp) ?_;intro g5 m5 hA5;refine G.B 32 1 16 (.string (mkS [])) [.string (mkS [48])] (Dl [[48]]) ?_;intro g6 u6 l6 e6;refine G.c Tryz.call173 (Qx (n:=P.length) e6.listP (Dl [[48]]) (by omega)) ?_;intro v7 u7 l7 k7;obtain ⟨a7,c7,rfl⟩:=Ad.opn k7;refine G.appendL 32 1 16 (.string (mkS [])) PH.mt [.string (mkS (Ag m0))] (List.replicate P.length (.string (mkS [48]))) _ a7 _ c7 (by kernel_rfl) rfl rfl (by omega) hA5 k7 ((Dl [[48]]).replicate _) (by simp; omega) (by simp; omega) ?_;intro v8 m8 hA8;rw [← hd0] at hA8;obtain ⟨b8,c8,rfl⟩:=hA8.ptr hne;rw [hcl] at hA8 ⊢;exact hjoin (b8,c8) _ _ _ (by kernel_rfl) cv (l6.trans l7) hA8
  ·intro g6 u6 l6 e6;refine ⟨?_,?_⟩
   ·refine G.buildM 32 1 16 (.string (mkS [])) [.string (mkS (Ag m0))] (by kernel_rfl) (Dl [Ag m0]) rfl (by omega) (by simp) (by simp) ?_;intro g5 m5 hA5;refine G.c Tryz.call173 (Qx (n:=P.length) e6.listP (Dl [[48]]) (by omega)) ?_;intro v7 u7 l7 k7;obtain ⟨a7,c7,rfl⟩:=Ad.opn k7;refine G.appendL 32 1 16 (.string (mkS [])) PH.mt [.string (mkS (Ag m0))] (List.replicate P.length (.string (mkS [48]))) _ a7 _ c7 (by kernel_rfl) rfl rfl (by omega) hA5 k7 ((Dl [[48]]).replicate _) (by simp; omega) (by simp; omega) ?_;intro v8 m8 hA8;rw [← hd0] at hA8;obtain ⟨b8,c8,rfl⟩:=hA8.ptr hne;rw [hcl] at hA8 ⊢;exact hjoin (b8,c8) _ _ _ (by kernel_rfl) cv (l6.trans l7) hA8
   ·refine G.c Tryz.call173 (Qx (n:=P.length) e6.listP (Dl [[48]]) (by omega)) ?_;intro v7 u7 l7 k7;obtain ⟨a7,c7,rfl⟩:=Ad.opn k7;refine G.buildM 32 1 16 (.string (mkS [])) [.string (mkS (Ag m0))] (by kernel_rfl) (Dl [Ag m0]) rfl (by omega) (by simp) (by simp) ?_;intro g5 m5 hA5;refine G.appendL 32 1 16 (.string (mkS [])) PH.mt [.string (mkS (Ag m0))] (List.replicate P.length (.string (mkS [48]))) _ a7 _ c7 (by kernel_rfl) rfl rfl (by omega) hA5 k7 ((Dl [[48]]).replicate _) (by simp; omega) (by simp; omega) ?_;intro v8 m8 hA8;rw [← hd0] at hA8;obtain ⟨b8,c8,rfl⟩:=hA8.ptr hne;rw [hcl] at hA8 ⊢;exact hjoin (b8,c8) _ _ _ (by kernel_rfl) cv (l6.trans l7) hA8
 rintro ⟨b8,c8⟩ u7 m8 l7 hA8;simp only at hA8;have le7:=le4.trans l7;refine G.l (ι:=Nat) (fun i=>[(0,.v (.slice pa P.length pc)),(6,.v (.slice (some ⟨b8,0,none⟩) (P.length+1) c8)),(32,.v (.slice a M.length c)),(33,.v (.int .i64 (M.length:Int))),(34,.v (.int .i64 (i:Int)))]) (fun _=>[])
  (fun i u' m'=>i≤M.length∧Af PH.mt m' (.slice (some ⟨b8,0,none⟩) (P.length+1) c8) 32 1 ((cfL m0 P (M.take i)).map nmV)) (fun i=>M.length - i) 0 ⟨by omega,hA8⟩ ?_
 rintro J i hJ u9 m9 l9 ⟨hi,hA⟩;have le9:=le7.trans l9;by_cases hlt:i < M.length
 ·refine G.lT (i:Int) (M.length:Int) ?_;obtain ⟨x,hMi⟩:∃ x,M[i]?=some x:=⟨_,List.getElem?_eq_getElem hlt⟩;have hxm:=List.mem_of_getElem? hMi;have htk:=D1 hMi;obtain ⟨k,hk,hkx⟩:=List.getElem_of_mem (ok.sub x hxm);have hkx':P[k]?=some x.1:=by rw [List.getElem?_eq_getElem hk,hkx]
  have hnew:x.1∉(M.take i).map (·.1):=by
   intro hm;obtain ⟨y,hy,hye⟩:=List.mem_map.1 hm;obtain ⟨j,hj,rfl⟩:=List.getElem_of_mem hy;rw [List.length_take] at hj;have:=Nm hMn (i:=j) (j:=i) (x:=x.1) (by rw [List.getElem?_map,List.getElem?_eq_getElem (by omega)]; simp only [Option.map_some]; rw [← hye,List.getElem_take]) (by rw [List.getElem?_map,hMi]; rfl);omega
  obtain ⟨ba,oa,rfl,ea⟩:=Ad.at' (hM.mono le9) (j:=i) (e:=A3 x) (by simp [hMi]);refine G.a ba oa M.length c i 3 hlt ?_;refine G.lU (some 3) ba (oa+i*3) (.agg #[.int .i64 x.1.1,.string (mkS x.1.2),.string (mkS (Ag x.2))]) ea ?_;refine G.c Tryz.call174 (Aks (p:=x.1) (hP.mono le9) hkx' (fun j hj e=>by have:=Nm hnd e hkx'; omega) (by omega)) ?_;rintro v10 u10 l10 rfl;refine G.hT (k:Int) 0 ?_;refine G.i k ?_;refine G.a b8 0 (P.length+1) c8 (k+1) 1 (by omega) ?_;refine G.storeA 1 PH.mt _ b8 (P.length+1) c8 (k+1) (.string (mkS (Ag x.2))) (by kernel_rfl) hA (by rw [List.length_map,Ab0]; omega) rfl (by simp [Value.cells,Bf]) ?_;intro m11 hA11;have e11:((cfL m0 P (M.take i)).map nmV).set (k+1) (.string (mkS (Ag x.2)))=(cfL m0 P (M.take (i+1))).map nmV:=by
   rw [htk,← Ahv hkx' hnd hnew,List.map_set]; rfl
  rw [e11] at hA11;refine G.i i ?_;exact G.b (hJ (i+1) _ _ _ cv (l9.trans l10) ⟨by omega,hA11⟩ (by omega))
 ·obtain rfl:i=M.length:=by omega
  refine G.lF (M.length:Int) (M.length:Int) ?_;rw [List.take_length] at hA;refine G.give _ _ _ (by kernel_rfl) hA (fun g=>.inl rfl) ?_;intro u10 l10 hL;have hL2:Ab7 u10 (.slice (some ⟨b8,0,none⟩) (P.length+1) c8) (((Bw P).map (cfE m0 M)).map Ag):=by
   rw [← Aj3]; exact hL
  exact G.r (.tuple #[.slice (some ⟨b8,0,none⟩) (P.length+1) c8,.int .i64 0]) ⟨rfl,_,rfl,hL2⟩
end
section
open Go.RowKit Go.MapKept
def Yy (F:List Am)(p:Par):Prop:=∃ (k:Nat) (f:Am),p.1=(k:Int)∧F[k]?=some f∧(p.2 = []∨(f.2.1=2∧Gc p.2=true))
theorem Aem {u:PH}{v:Value}{T:List (List UInt8×Nat)}{R:List Bn}{F:List Am}{lab:Int}{p:Par}(hX:D5 u v T R F lab)(ok:Bi u T R F lab)(hp:Yy F p) :
  Fn0 Tryz.prog 125 [v,Ak p] u fun r _=>r=.bool true:=by
 obtain ⟨xa,xc,xb,xd,xe,xf,rfl,hTL,hRL,hFL⟩:=hX;have hf8:=ok.f2;obtain ⟨k,f,h1,hf,h3⟩:=hp;obtain ⟨p1,p2⟩:=p;simp only at h1 h3;subst h1;have hk:=(List.getElem?_eq_some_iff.1 hf).1;obtain ⟨bb,ob,rfl,eb⟩:=Ad.at' hFL (j:=k) (e:=Bt f) (by simp [hf]);obtain ⟨f1,f2,f3⟩:=f;simp only at h3;refine Fn0.o Tryz.func125 ?_;refine G.lF (k:Int) 0 ?_;refine G.hF (k:Int) (F.length:Int) ?_;by_cases hc:p2 = []
 ·refine G.q p2 [] hc ?_;exact G.r (.bool true) ⟨rfl,rfl⟩
 ·obtain ⟨h2,hw⟩:=h3.resolve_left hc;refine G.w p2 [] hc ?_;refine G.a bb ob F.length xf k 3 hk ?_;refine G.f 118 bb (ob+k*3) 1 1 ?_;refine G.lU none bb (ob+k*3+1) (.int .i64 (f2:Int)) (eb.fld (j:=1) (xs:=#[.int .i64 (f1:Int),.int .i64 (f2:Int),.int .i64 (f3:Int)]) rfl rfl) ?_;refine G.eT (f2:Int) 2 ?_;refine G.c Tryz.call189 (Acp hw) ?_;rintro v1 u1 l1 rfl;exact G.r (.bool true) ⟨rfl,rfl⟩
theorem Aiw {u m:PH}{b:Nat}{v:Value}{T:List (List UInt8×Nat)}{R:List Bn}{F:List Am}{lab:Int}{p:Par}(hb:ElP m b 0 v)(hX:D5 u v T R F lab)(ok:Bi u T R F lab)(hp:Yy F p) :
  FnK Tryz.prog 124 [Ak p,.pointer (some ⟨b,0,none⟩)] u m fun v _=>v=.bool false:=by
 have hbel:=Aem hX ok hp;obtain ⟨xa,xc,xb,xd,xe,xf,rfl,hTL,hRL,hFL⟩:=hX;refine FnK.of Tryz.func124 (by kernel_rfl) (by kernel_rfl) ?_;refine G.lM (some 4) b 0 (.agg #[.slice xa T.length xc,.slice xb R.length xd,.slice xe F.length xf,.int .i64 lab]) hb ?_;refine G.c Tryz.call125 hbel ?_;rintro v1 u1 l1 rfl;exact G.r (.bool false) ⟨rfl,rfl⟩
theorem Afl {u m:PH}{v cap:Value}{P:List Par}{fid:Nat}(h:Ad u v 2 (P.map Ak))(hl:P.length≤1000000)
  (hcall:∀ args w,(callFunc fid args).run Tryz.prog w=.ok (.enter fid args) w) (hf:∀ p∈P,∀ u',PH.le u u'→FnK Tryz.prog fid [Ak p,cap] u' m fun v _=>v=.bool false) :
  FnK Tryz.prog 188 [v,.func (.func fid) #[] #[cap]] u m fun v' _=>v'=.int .i64 (-1):=by
 obtain ⟨a,c,rfl⟩:=h.opn;rw [List.length_map] at h ⊢;refine FnK.of Tryz.func188 (by kernel_rfl) (by kernel_rfl) ?_;refine G.l (ι:=Nat) (fun i=>[(0,.v (.slice a P.length c)),(1,.v (.func (.func fid) #[] #[cap])),(7,.v (.int .i64 (P.length:Int))),(8,.v (.int .i64 (i:Int)))]) (fun _=>[])
  (fun i u' m'=>i≤P.length∧m'=m) (fun i=>P.length - i) 0 ⟨by omega,rfl⟩ ?_
 rintro J i hJ u1 m1 l1 ⟨hi,rfl⟩;by_cases hlt:i < P.length
 ·refine G.lT (i:Int) (P.length:Int) ?_;have hPi:P[i]?=some P[i]:=List.getElem?_eq_getElem hlt;obtain ⟨ba,oa,rfl,ea⟩:=Ad.at' (h.mono l1) (j:=i) (e:=Ak P[i]) (by simp [hPi]);refine G.a ba oa P.length c i 2 (by omega) ?_;refine G.lU (some 2) ba (oa+i*2) (Ak P[i]) ea ?_;refine G.callK fid [Ak P[i],cap] (by kernel_rfl) hcall (hf P[i] (List.getElem_mem hlt) u1 l1) ?_;rintro v2 u2 l2 rfl;refine G.i i ?_;exact G.b (hJ (i+1) _ _ _ cv (l1.trans l2) ⟨by omega,rfl⟩ (by omega))
 ·obtain rfl:i=P.length:=by omega
  refine G.lF (P.length:Int) (P.length:Int) ?_;exact G.r (.int .i64 (-1)) ⟨rfl,rfl⟩
theorem Xq {u m:PH}{v cap:Value}{P:List Par}{fid:Nat}(h:Ad u v 2 (P.map Ak))(hl:P.length≤1000000)
  (hcall:∀ args w,(callFunc fid args).run Tryz.prog w=.ok (.enter fid args) w) (hf:∀ p∈P,∀ u',PH.le u u'→FnK Tryz.prog fid [Ak p,cap] u' m fun v _=>v=.bool false) :
  FnK Tryz.prog 123 [v,.func (.func fid) #[] #[cap]] u m fun v' _=>v'=.bool false:=by
 obtain ⟨a,c,rfl⟩:=h.opn;refine FnK.of Tryz.func123 (by kernel_rfl) (by kernel_rfl) ?_;refine G.callK _ _ (by kernel_rfl) Tryz.call188 (Afl h hl hcall hf) ?_;rintro v1 u1 l1 rfl;refine G.hF (-1) 0 ?_;exact G.r (.bool false) ⟨rfl,rfl⟩
theorem Ve {u:PH}{v mv:Value}{T:List (List UInt8×Nat)}{R:List Bn}{F:List Am}{lab:Int}{P:List Par}{m0:Rat}{M:List (Par×Rat)}(hX:D5 u v T R F lab)(ok:Bi u T R F lab)(h:Kg u mv m0 M)(hm:Fh P m0 M)(hP:P.length≤10000)(hpar:∀ p∈P,Yy F p) :
  Fn0 Tryz.prog 63 [v,mv] u fun r _=>r=.bool true:=by
 have hMl:=hm.len;have hck:=fun (u':PH) (l:PH.le u u')=>R6 (hX.mono l) (ok.mono l);have hnum:=fun (u':PH) (l:PH.le u u')=>Px (h.mono l) (by omega) hm.tx.1 hm.tx.2;have hprm:=fun (u':PH) (l:PH.le u u')=>Rj (h.mono l) (by omega);obtain ⟨xa,xc,xb,xd,xe,xf,rfl,hTL,hRL,hFL⟩:=id hX;obtain ⟨a,c,rfl,hM⟩:=h.val;refine Fn0.o Tryz.func63 ?_;refine G.c Tryz.call120 (hprm u (PH.le_refl _)) ?_;intro v1 u1 l1 k1;obtain ⟨a1,c1,rfl⟩:=Ad.opn k1;refine G.pub 0 30 [.slice xa T.length xc,.slice xb R.length xd,.slice xe F.length xf,.int .i64 lab] (by kernel_rfl) (by kernel_rfl) ?_;intro b hb1 hb2;have hcb:ElP (PH.mt.upd b (.cells [Value.slice xa T.length xc,.slice xb R.length xd,.slice xe F.length xf,.int .i64 lab].toArray 30 (0,0))) b 0 (.agg #[.slice xa T.length xc,.slice xb R.length xd,.slice xe F.length xf,.int .i64 lab]):=Ww (xs:=[.slice xa T.length xc,.slice xb R.length xd,.slice xe F.length xf,.int .i64 lab]) (Ab _ _ _) rfl;refine G.lM (some 4) b 0 (.agg #[.slice xa T.length xc,.slice xb R.length xd,.slice xe F.length xf,.int .i64 lab]) hcb ?_;refine G.c Tryz.call115 (hck u1 l1) ?_;rintro v2 u2 l2 rfl;refine G.eT' 0 0 rfl ?_;refine G.c Tryz.call121 (hnum u2 (l1.trans l2)) ?_;rintro v3 u3 l3 rfl;refine G.c Tryz.call122 (Vz ((k1.mono l2).mono l3) hm.srt (by rw [List.length_map]; omega)) ?_;rintro v4 u4 l4 rfl;have le4:=((l1.trans l2).trans l3).trans l4;refine G.callK _ _ (by kernel_rfl) Tryz.call123 (Xq (cap:=.pointer (some ⟨b,0,none⟩)) (((k1.mono l2).mono l3).mono l4) (by rw [List.length_map]; omega) Tryz.call124 fun p hp u' l'=>Aiw hcb (hX.mono (le4.trans l')) (ok.mono (le4.trans l')) (hpar p (by
  obtain ⟨x,hx,rfl⟩:=List.mem_map.1 hp;exact hm.sub x hx))) ?_
 rintro v5 u5 l5 rfl;refine G.drop PH.mt (by kernel_rfl) (PH.mt_le _) ?_;exact G.r (.bool true) ⟨rfl,rfl⟩
end
section
open Go.RowKit Go.MapKept
structure Hk (u:PH)(v cv:Value)(T:List (List UInt8×Nat))(R:List Bn)(F:List Am)(lab:Int)(C:CF)(K k:Nat)(P:List Par):Prop where
 sch:D5 u v T R F lab
 ok:Bi u T R F lab
 cof:Hb u cv C K
 sC:CFS C
 vC:CFV C
 K:K≤10000
 bel:∀ p,C.s p≠0→Xj F lab p
 mom:Ht C k
 prm:S2 F C P
 p24:P.length≤24
 lab0:0≤lab
 d:CFD 16 (10 ^ 39) C
theorem Hk.mono {u u':PH}{v cv:Value}{T:List (List UInt8×Nat)}{R:List Bn}{F:List Am}{lab:Int}{C:CF}{K k:Nat}{P:List Par}(h:Hk u v cv T R F lab C K k P)(hl:PH.le u u'):Hk u' v cv T R F lab C K k P :=
 ⟨h.sch.mono hl,h.ok.mono hl,h.cof.mono hl,h.sC,h.vC,h.K,h.bel,h.mom,h.prm,h.p24,h.lab0,h.d⟩
theorem Hk.par {u:PH}{v cv:Value}{T:List (List UInt8×Nat)}{R:List Bn}{F:List Am}{lab:Int}{C:CF}{K k:Nat}{P:List Par}(h:Hk u v cv T R F lab C K k P):∀ p∈P,Yy F p:=fun p hp=>by
 rcases (h.prm.2 p).1 hp with ⟨i,f,rfl,hf,_⟩ | ⟨hne,i,f,h1,hf,h2⟩
 ·exact ⟨i,f,rfl,hf,.inl rfl⟩
 ·refine ⟨i,f,h1,hf,?_⟩;rcases (h.vC.s p hne).cat with h3 | h3
  ·exact .inl h3
  ·exact .inr ⟨h2,h3⟩
theorem CFD.to {d e N M:Nat}{F:CF}(h:CFD d N F)(h1:d≤e)(h2:N*12 ^ (e - d)≤M):CFD e M F:=⟨h.c.to h1 h2,fun p=>(h.s p).to h1 h2,fun q=>(h.t q).to h1 h2⟩
theorem An9 {q n d j:Rat}(h2:q=n*j)(hi:d*j=1):q*d=n:=by rw [h2]; grind
theorem Dn.smr {q:Rat}(h:SmR q):Dn 1 108 q:=by
 obtain ⟨k,hk⟩:=h.den;refine ⟨q.num*(k:Int),?_,?_⟩
 ·have h1:q*(q.den:Rat)=(q.num:Rat):=by
   have h2:q=(q.num:Rat) / (((q.den:Int)):Rat):=by rw [← Rat.divInt_eq_div,Rat.num_divInt_den]
   have hi:=Rat.mul_inv_cancel _ (Ph q.den_pos);rw [Rat.intCast_natCast,Rat.div_def] at h2;exact An9 h2 hi
  show q*((12 ^ 1:Nat):Rat)=_;rw [show (12 ^ 1:Nat)=12 from rfl,hk,Rat.natCast_mul,Rat.intCast_mul,Rat.intCast_natCast,← h1]; grind
 ·rw [Int.natAbs_mul,Int.natAbs_natCast];have h1:=h.num;have h2:k≤12:=by
   have:=h.le;have:0 < q.den:=q.den_pos;rcases Nat.eq_zero_or_pos k with h0 | h0
   ·omega
   ·exact Nat.le_of_dvd (by omega) ⟨q.den,by rw [Nat.mul_comm]; exact hk⟩
  exact Nat.mul_le_mul h1 h2
theorem T9 {P:List Par}{m0:Rat}{M:List (Par×Rat)}(h:Fh P m0 M):∀ e,Dn 1 108 (cfE m0 M e)
 | none=>Dn.smr h.c
 | some p=>by
  show Dn 1 108 (A5 p M);by_cases hp:p∈M.map (·.1)
  ·obtain ⟨x,hx,rfl⟩:=List.mem_map.1 hp;have e:A5 x.1 M=x.2:=Gj (h.srt.nodup Dd) hx;rw [e]; exact Dn.smr (h.t x hx)
  ·rw [Gn hp]; exact Dn.zero _ _
theorem Hk.qok {u:PH}{v cv:Value}{T:List (List UInt8×Nat)}{R:List Bn}{F:List Am}{lab:Int}{C:CF}{K k:Nat}{P:List Par}(h:Hk u v cv T R F lab C K k P){m0:Rat}{M:List (Par×Rat)}(hm:Fh P m0 M):QOK (cfE m0 M) C :=
 ⟨fun e=>(T9 hm e).mono (by omega),h.d⟩
end
section
open Go.RowKit Go.MapKept
section
variable {P:Program} [Bb P] {fn:Func} {Post:B4} {st:List KI×S} {u m:PH}
theorem G.storeE {t:TypeId}(sz i:Nat)(m0:PH)(es:List Value)(g n c j:Nat)(e e' x:Value)(h:Al P (adv P st)=.store (some 1) (.pointer (some ⟨g,0+j*sz+i,none⟩)) x)(ha:Af m0 m (.slice (some ⟨g,0,none⟩) n c) t sz es)(hj:es[j]?=some e)(hi:i < sz)(he:e'.cells.toList=e.cells.toList.set i x)(hx:x.cells = #[x])(hxo:Bf x=true)
  (k:∀ m',Af m0 m' (.slice (some ⟨g,0,none⟩) n c) t sz (es.set j e')→G P fn Post (nx (adv P st) undef) u m'):G P fn Post st u m:=by
 obtain ⟨hok,hh⟩:=ha;obtain ⟨hjl,rfl⟩:=List.getElem?_eq_some_iff.1 hj;rcases hh with ⟨hn,_,_⟩ | ⟨g',cap,rest,h0,rfl,hv,hc,hl,hr⟩
 ·cases hn
 ·simp only [Value.slice.injEq,Option.some.injEq,Addr.mk.injEq] at hv;obtain ⟨⟨rfl,_⟩,rfl,rfl⟩:=hv;have hsz:=(hok _ (List.getElem_mem hjl)).1;have hco:=(hok _ (List.getElem_mem hjl)).2;have hfl:=A2 hok;have hle:j*sz+sz≤es.length*sz:=by
   have:=Nat.mul_le_mul_right sz hjl;rw [Nat.succ_mul] at this;exact this
  have hes':e'.cells.size=sz:=by
   rw [← Array.length_toList,he,List.length_set,Array.length_toList]; exact hsz
  have hok':A9 sz (es.set j e'):=hok.set ⟨hes',fun y hy=>by
   rw [he] at hy;rcases List.mem_or_eq_of_mem_set hy with hy | rfl
   ·exact hco y hy
   ·exact hxo⟩
  refine G.storeM 1 g (0+j*sz+i) t (Aw es++rest) x h (Ab _ _ _) (fun y hy=>?_) (by rw [List.length_append,hfl]; omega) (by rw [hx]; rfl) (by rw [hx]; simp [hxo]) ?_
  ·rcases List.mem_append.1 hy with hy | hy
   ·exact E3 hok y hy
   ·exact hr y hy
  ·rw [B1];have e1:(Aw es++rest).take (0+j*sz+i)++x.cells.toList++(Aw es++rest).drop (0+j*sz+i+1)=Aw (es.set j e')++rest:=by
    have h1:Aw (es.set j e')=(Aw es).set (j*sz+i) x:=by
     have q1:=N4 (e:=e') hok hes' hjl;have q2:=N4 (e:=es[j]) hok hsz hjl;rw [List.set_getElem_self] at q2;rw [q1,he]
     conv=>rhs; rw [q2]
     have hlt:((Aw es).take (j*sz)).length=j*sz:=by rw [List.length_take,hfl]; omega
     have hle2:es[j].cells.toList.length=sz:=by simpa using hsz
     rw [List.append_assoc,List.append_assoc,List.set_append_right _ _ (by omega),hlt,Nat.add_sub_cancel_left,List.set_append_left _ _ (by omega)]
    have h2:(Aw es++rest).set (j*sz+i) x=(Aw es).set (j*sz+i) x++rest:=List.set_append_left _ _ (by omega);rw [h1,← h2,List.set_eq_take_append_cons_drop,if_pos (by rw [List.length_append]; omega),hx,Nat.zero_add];simp
   rw [e1];refine k _ ⟨hok',.inr ⟨g,c,rest,h0,rfl,by rw [List.length_set],by rw [List.length_set]; exact hc,?_,hr⟩⟩;rw [List.length_append,A2 hok',List.length_set,← hfl,← List.length_append]; exact hl
end
theorem Anq {u:PH}{v:Value}{F:List Am}{a:Nat}(h:Ad u v 3 (F.map Bt))(hl:F.length≤1000000):Fn0 Tryz.prog 82 [v,.int .i64 (a:Int)] u fun r _=>r=.bool (F.any fun f=>f.1 == a):=by
 obtain ⟨xa,xc,rfl⟩:=h.opn;rw [List.length_map] at h ⊢;refine Fn0.o Tryz.func82 ?_;refine G.l (ι:=Nat) (fun i=>[(1,.v (.int .i64 (a:Int))),(7,.v (.slice xa F.length xc)),(8,.v (.int .i64 (F.length:Int))),(9,.v (.int .i64 (i:Int)))]) (fun _=>[])
  (fun i u' m'=>i≤F.length∧(∀ j f,j < i→F[j]?=some f→f.1≠a)∧m'=PH.mt) (fun i=>F.length - i) 0 ⟨by omega,fun j f hj=>by omega,rfl⟩ ?_
 rintro J i hJ u2 m2 l2 ⟨hi,h0,rfl⟩;by_cases hlt:i < F.length
 ·refine G.lT (i:Int) (F.length:Int) ?_;obtain ⟨f,hFi⟩:∃ f,F[i]?=some f:=⟨_,List.getElem?_eq_getElem hlt⟩;obtain ⟨fb,fo,rfl,ef⟩:=Ad.at' (h.mono l2) (j:=i) (e:=Bt f) (by simp [hFi]);obtain ⟨p1,p2,p3⟩:=f;refine G.a fb fo F.length xc i 3 hlt ?_;refine G.lU (some 3) fb (fo+i*3) (.agg #[.int .i64 (p1:Int),.int .i64 (p2:Int),.int .i64 (p3:Int)]) ef ?_;by_cases he:p1=a
  ·refine G.eT (p1:Int) (a:Int) ?_;exact G.r (.bool true) ⟨rfl,by
    rw [List.any_eq_true.2 ⟨_,List.mem_of_getElem? hFi,by simpa using he⟩]⟩
  ·refine G.eF (p1:Int) (a:Int) ?_;refine G.i i ?_;exact G.b (hJ (i+1) _ _ _ cv l2 ⟨by omega,fun j g hj hg=>by
    rcases (by omega:j < i∨j=i) with e | rfl
    ·exact h0 j g e hg
    ·rw [hFi] at hg; cases hg; exact he,rfl⟩ (by omega))
 ·obtain rfl:i=F.length:=by omega
  refine G.lF (F.length:Int) (F.length:Int) ?_;exact G.r (.bool false) ⟨rfl,by
   rw [List.any_eq_false.2 fun f hf=>by
    obtain ⟨j,hj,rfl⟩:=List.getElem_of_mem hf;simpa using h0 j _ hj (List.getElem?_eq_getElem hj)]⟩
def nmB (j:Nat):List UInt8:=[98]++[Tl j]
theorem Ahr {j:Nat}(h:j < 26):Gc (nmB j)=true:=by
 have h2:∀ n:Fin 26,Gc (nmB n.val)=true:=by decide +kernel
 exact h2 ⟨j,h⟩
theorem Akq {l:List Nat}{n:Nat}(h1:∀ a∈l,a < n)(h2:∀ (k:Nat) x y,l[k]?=some x→l[k+1]?=some y→x < y):l.length≤n:=by
 have h:∀ k (hk:k < l.length),k≤l[k]:=by
  intro k;induction k with
  | zero=>intro _; omega
  | succ k ih =>
   intro hk;have:=ih (by omega);have:=h2 k _ _ (List.getElem?_eq_getElem (by omega)) (List.getElem?_eq_getElem hk);omega
 rcases Nat.eq_zero_or_pos l.length with e | e
 ·omega
 ·have h3:=h (l.length - 1) (by omega);have h4:=h1 _ (List.getElem_mem (show l.length - 1 < l.length by omega));omega
theorem Air {u u':PH}{n:Nat}{R0:List Bn}{r:Bn}{a':Option Addr}{c':Nat}(h:L3 u n (R0++[r]))(hl:PH.le u u')(hn:n≤900)(hL:Ad u' (.slice a' (r.2.1++[n]).length c') 1 (Ai (r.2.1++[n]))):L3 u' (n+1) (R0++[(r.1,r.2.1++[n],(a',c'))]):=by
 have hr:r∈R0++[r]:=by simp
 have h0:∀ x∈R0,x∈R0++[r]:=fun x hx=>List.mem_append_left _ hx;have split:∀ x,x∈R0++[(r.1,r.2.1++[n],(a',c'))]→x∈R0∨x=(r.1,r.2.1++[n],(a',c')):=fun x hx=>by
  rcases List.mem_append.1 hx with hx | hx
  ·exact .inl hx
  ·exact .inr (by simpa using hx)
 refine ⟨?_,?_,?_,?_,?_,?_,?_⟩
 ·have:=h.names;rw [List.map_append] at this ⊢;exact this
 ·intro x hx;rcases split x hx with hx | rfl
  ·exact h.ne x (h0 x hx)
  ·simp
 ·intro x hx a ha;rcases split x hx with hx | rfl
  ·have:=h.lt x (h0 x hx) a ha; omega
  ·rcases List.mem_append.1 ha with ha | ha
   ·have:=h.lt r hr a ha; omega
   ·simp at ha; omega
 ·intro x hx;rcases split x hx with hx | rfl
  ·exact h.len x (h0 x hx)
  ·have:=Akq (h.lt r hr) (h.asc r hr);simp only [List.length_append,List.length_singleton]; omega
 ·intro x hx k a b ha hb;rcases split x hx with hx | rfl
  ·exact h.asc x (h0 x hx) k a b ha hb
  ·simp only at ha hb;rcases Nat.lt_or_ge (k+1) r.2.1.length with hk | hk
   ·rw [List.getElem?_append_left (by omega)] at ha hb;exact h.asc r hr k a b ha hb
   ·rw [List.getElem?_append_right hk] at hb;have hk0:k+1 - r.2.1.length=0:=by
     obtain ⟨q,_⟩:=List.getElem?_eq_some_iff.1 hb;simp at q; omega
    rw [hk0] at hb;simp at hb;subst hb;rw [List.getElem?_append_left (by omega)] at ha;exact h.lt r hr a (List.mem_of_getElem? ha)
 ·intro a ha;by_cases e:a=n
  ·subst e; exact ⟨_,by simp; right; rfl,by simp⟩
  ·obtain ⟨x,hx,hax⟩:=h.all a (by omega);rcases List.mem_append.1 hx with hx | hx
   ·exact ⟨x,List.mem_append_left _ hx,hax⟩
   ·simp at hx; subst hx;exact ⟨_,by simp; right; rfl,List.mem_append_left _ hax⟩
 ·intro x hx;rcases split x hx with hx | rfl
  ·exact (h.at' x (h0 x hx)).mono hl
  ·exact hL
theorem Aid {u u':PH}{T:List (List UInt8×Nat)}{R R':List Bn}{F:List Am}{lab:Int}(ok:Bi u T R F lab)(hT:T.length≤11)(hn:∀ a∈T,a.1≠nmB T.length)(hR:L3 u' (T.length+1) R')(hRl:R'.length=R.length):Bi u' (T++[(nmB T.length,2)]) R' F lab:=by
 have hw:=Ahr (j:=T.length) (by omega);refine ⟨⟨⟨?_,?_⟩,?_⟩,?_,⟨?_,ok.feat.nodup⟩,?_,?_,?_,?_,ok.f2,ok.l1,?_⟩
 ·intro s hs;rw [List.map_append] at hs;rcases List.mem_append.1 hs with hs | hs
  ·exact ok.att.names.word s hs
  ·simp at hs; subst hs; exact hw
 ·rw [List.map_append,List.nodup_append];refine ⟨ok.att.names.nodup,by simp,fun a ha b hb e=>?_⟩;simp at hb;obtain ⟨x,hx,rfl⟩:=List.mem_map.1 ha;exact hn x hx (e.trans hb)
 ·intro a ha;rcases List.mem_append.1 ha with ha | ha
  ·exact ok.att.kind a ha
  ·simp at ha; subst ha; exact ⟨by simp,by simp⟩
 ·rw [List.length_append]; exact hR
 ·intro f hf;obtain ⟨n,k,h1,h2⟩:=ok.feat.ok f hf;exact ⟨n,k,by rw [List.getElem?_append_left (List.getElem?_eq_some_iff.1 h1).1]; exact h1,h2⟩
 ·rw [List.length_append]; simp
 ·rw [List.length_append]; simp; omega
 ·rw [hRl]; exact ok.r1
 ·rw [hRl]; exact ok.r2
 ·intro l hl;obtain ⟨n,h1⟩:=ok.l2 l hl;exact ⟨n,by rw [List.getElem?_append_left (List.getElem?_eq_some_iff.1 h1).1]; exact h1⟩
end
section
open Go.RowKit Go.MapKept
theorem Sw (T:List (List UInt8×Nat)):A9 2 (T.map Dh):=by
 intro e he;obtain ⟨x,_,rfl⟩:=List.mem_map.1 he;exact ⟨rfl,fun y hy=>by simp [Dh,Value.cells] at hy; rcases hy with rfl | rfl <;> rfl⟩
theorem Agw (R:List Bn):A9 2 (R.map Gf):=by
 intro e he;obtain ⟨x,_,rfl⟩:=List.mem_map.1 he;exact N2 x _ (by simp)
theorem Ak9 {u:PH}{v:Value}{T:List (List UInt8×Nat)}{R:List Bn}{F:List Am}{lab:Int}(hX:D5 u v T R F lab)(ok:Bi u T R F lab)(hT:T.length≤11)(hn:∀ a∈T,a.1≠nmB T.length) :
  Fn0 Tryz.prog 83 [v,.int .i64 2] u fun r u'=>∃ R',D5 u' r (T++[(nmB T.length,2)]) R' F lab∧Bi u' (T++[(nmB T.length,2)]) R' F lab:=by
 obtain ⟨xa,xc,xb,xd,xe,xf,rfl,hTL,hRL,hFL⟩:=hX;have r1:=ok.r1;have r2:=ok.r2;obtain ⟨R0,r,rfl⟩:∃ R0 r,R=R0++[r]:=⟨R.dropLast,R.getLast (fun e=>by rw [e] at r1; simp at r1),(List.dropLast_concat_getLast _).symm⟩;have hrl:=ok.rel.at' r (by simp);have hll:=ok.rel.len r (by simp);refine Fn0.o Tryz.func83 ?_;refine G.appendL 73 2 24 (.agg #[.string (mkS []),.int .i64 0]) PH.mt [] (T.map Dh) (.slice none 0 0) xa T.length xc (by kernel_rfl) rfl rfl (by omega) (Af.nil _ _ _) hTL (Sw T) (by simp; omega) (by simp; omega) ?_;intro v1 m1 hA1;rw [List.nil_append] at hA1;obtain ⟨a1,c1,rfl⟩:=hA1.shape;rw [List.length_map] at hA1 ⊢;refine G.c Tryz.call143 (Nz (p:=[98]) (i:=T.length) (by omega) (by simp)) ?_;rintro v2 u2 l2 rfl;refine G.B 73 2 24 (.agg #[.string (mkS []),.int .i64 0]) [.agg #[.string (mkS ([98]++[Tl T.length])),.int .i64 2]] (Sw [(nmB T.length,2)]) ?_;intro g3 u3 l3 e3;refine G.k 73 2 24 (.agg #[.string (mkS []),.int .i64 0]) PH.mt (T.map Dh) [Dh (nmB T.length,2)] (.slice a1 T.length c1) g3 0 1 1 hA1 e3 (Sw [(nmB T.length,2)]) ?_;intro v4 m4 hA4;rw [show T.map Dh++[Dh (nmB T.length,2)]=(T++[(nmB T.length,2)]).map Dh by rw [List.map_append]; rfl] at hA4;obtain ⟨a4,c4,rfl⟩:=hA4.shape;rw [List.length_map] at hA4 ⊢;refine G.appendL 75 2 40 (.agg #[.string (mkS []),.slice none 0 0]) m4 [] ((R0++[r]).map Gf) (.slice none 0 0) xb (R0++[r]).length xd (by kernel_rfl) rfl rfl (by omega) (Af.nil _ _ _) (hRL.mono (l2.trans l3)) (Agw _) (by rw [List.length_map]; simp at r2 ⊢; omega) (by rw [List.length_map]; simp at r2 ⊢; omega) ?_;intro v5 m5 hA5;rw [List.nil_append] at hA5;obtain ⟨b5,c5,rfl⟩:=hA5.ptr (by simp);rw [List.length_map] at hA5 ⊢;have hRl:(R0++[r]).length=R0.length+1:=by simp
 refine G.s ((R0++[r]).length:Int) 1 (R0.length:Int) ?_;refine G.a b5 0 (R0++[r]).length c5 R0.length 2 (by omega) ?_;have hel:ElP m5 b5 (0+R0.length*2) (Gf r):=hA5.el (by simp);refine G.f 75 b5 (0+R0.length*2) 1 1 ?_;refine G.lM none b5 (0+R0.length*2+1) (.slice r.2.2.1 r.2.1.length r.2.2.2) (hel.fld (j:=1) (xs:=#[.string (mkS r.1),.slice r.2.2.1 r.2.1.length r.2.2.2]) rfl rfl) ?_;have hil:(Ai r.2.1).length=r.2.1.length:=by simp [Ai]
 refine G.appendL 3 1 8 (.int .i64 0) m5 [] (Ai r.2.1) (.slice none 0 0) r.2.2.1 r.2.1.length r.2.2.2 (by kernel_rfl) rfl rfl (by omega) (Af.nil _ _ _) (hrl.mono (l2.trans l3)) (Az _) (by simp [hil]; omega) (by simp [hil]; omega) ?_;intro v6 m6 hA6;rw [List.nil_append] at hA6;obtain ⟨a6,c6,rfl⟩:=hA6.shape;rw [hil] at hA6 ⊢;refine G.buildU 3 1 8 (.int .i64 0) (Ai [T.length]) (by kernel_rfl) (Az [T.length]) rfl (by omega) (by simp [Ai]) (by simp [Ai]) ?_;intro g7 u7 l7 e7;refine G.append 3 1 8 (.int .i64 0) m5 (Ai r.2.1) (Ai [T.length]) (.slice a6 r.2.1.length c6) g7 0 1 1 (by kernel_rfl) rfl rfl (by omega) hA6 e7 (Az [T.length]) rfl (by omega) (by simp [hil]; omega) (by simp [hil]; omega) ?_;intro v8 m8 hA8;rw [show Ai r.2.1++Ai [T.length]=Ai (r.2.1++[T.length]) by simp [Ai]] at hA8;obtain ⟨a8,c8,rfl⟩:=hA8.shape;have hil2:(Ai (r.2.1++[T.length])).length=(r.2.1++[T.length]).length:=by simp [Ai]
 rw [hil2] at hA8 ⊢;obtain ⟨mx,hy1,hx1,hput⟩:=At.swap (x:=⟨.slice (some ⟨b5,0,none⟩) (R0++[r]).length c5,75,2,(R0++[r]).map Gf⟩) (y:=⟨.slice a8 (r.2.1++[T.length]).length c8,3,1,Ai (r.2.1++[T.length])⟩) hA8 hA5;refine G.f 75 b5 (0+R0.length*2) 1 1 ?_;refine G.storeE (t:=75) 2 1 mx ((R0++[r]).map Gf) b5 (R0++[r]).length c5 R0.length (Gf r) (Gf (r.1,r.2.1++[T.length],(a8,c8))) (.slice a8 (r.2.1++[T.length]).length c8) (by kernel_rfl) hx1 (by simp) (by omega) rfl rfl rfl ?_;intro m9 hA9;have e9:((R0++[r]).map Gf).set R0.length (Gf (r.1,r.2.1++[T.length],(a8,c8)))=(R0++[(r.1,r.2.1++[T.length],(a8,c8))]).map Gf:=by
  rw [List.map_append,List.map_append,List.set_append_right _ _ (by simp),List.length_map,Nat.sub_self]; rfl
 rw [e9] at hA9;have hlm:PH.le mx m9:=fun g o hg=>hA9.see hg;obtain ⟨my,hz1,hz2⟩:=hput ⟨.slice (some ⟨b5,0,none⟩) (R0++[r]).length c5,75,2,(R0++[(r.1,r.2.1++[T.length],(a8,c8))]).map Gf⟩ m9 hA9;have hl4:PH.le m4 m9:=fun g o hg=>hlm g o (hy1.see hg);refine G.giveP (ma:=m9) (sm:=PH.mt) (by kernel_rfl) (Ahj m9).symm (fun g=>.inr rfl) (fun g=>.inl rfl) ?_;intro u10 l10 hm10;have leA:=((l2.trans l3).trans l7).trans l10;have hR':L3 u10 (T.length+1) (R0++[(r.1,r.2.1++[T.length],(a8,c8))]):=Air ok.rel leA (by omega) (Af.list hy1 (hlm.trans hm10));have hlen':(R0++[(r.1,r.2.1++[T.length],(a8,c8))]).length=(R0++[r]).length:=by simp
 exact G.r (.agg #[.slice a4 (T++[(nmB T.length,2)]).length c4,.slice (some ⟨b5,0,none⟩) (R0++[r]).length c5,.slice xe F.length xf,.int .i64 lab]) ⟨rfl,_,⟨_,_,_,_,_,_,by rw [hlen'],Af.list hA4 (hl4.trans hm10),by rw [hlen']; exact Af.list hA9 hm10,hFL.mono leA⟩,Aid ok hT hn hR' hlen'⟩
end
section
open Go.RowKit Go.MapKept
def Adl (T:List (List UInt8×Nat)):Prop:=∀ a∈T,(∃ j,a.1=nmA j)∨∃ j,j < T.length∧a.1=nmB j
theorem Ail {T:List (List UInt8×Nat)}(h:Adl T)(hT:T.length < 26):∀ a∈T,a.1≠nmB T.length:=by
 intro a ha e;rcases h a ha with ⟨j,hj⟩ | ⟨j,hj,e2⟩
 ·rw [hj] at e;unfold nmA nmB at e;simp at e
 ·rw [e2] at e;unfold nmB at e;simp only [List.cons_append,List.nil_append,List.cons.injEq,and_true,true_and] at e;have h1:=Tc (i:=j) (by omega);have h2:=Tc (i:=T.length) hT;rw [e,h2] at h1;omega
theorem Adl.snoc {T:List (List UInt8×Nat)}(h:Adl T)(k:Nat):Adl (T++[(nmB T.length,k)]):=by
 intro a ha;rcases List.mem_append.1 ha with ha | ha
 ·rcases h a ha with h1 | ⟨j,hj,e⟩
  ·exact .inl h1
  ·exact .inr ⟨j,by simp; omega,e⟩
 ·simp at ha; subst ha;exact .inr ⟨T.length,by simp,rfl⟩
theorem TOK.nmOK {T:List (List UInt8×Nat)}(h:TOK T):Adl T:=by
 intro a ha;have:a.1∈T.map (·.1):=List.mem_map.2 ⟨a,ha,rfl⟩;rw [h.nm] at this;obtain ⟨j,_,e⟩:=List.mem_map.1 this;exact .inl ⟨j,e.symm⟩
theorem Adj {u:PH}{T:List (List UInt8×Nat)}{R:List Bn}{F:List Am}{lab:Int}(ok:Bi u T R F lab){a:Nat}{n:List UInt8}(ha:T[a]?=some (n,2))(hF:∀ f∈F,f.1≠a):Bi u T R F (a:Int):=by
 refine ⟨ok.att,ok.rel,⟨fun f hf=>?_,ok.feat.nodup⟩,ok.t1,ok.t2,ok.r1,ok.r2,ok.f2,by omega,fun l hl=>?_⟩
 ·obtain ⟨n,k,h1,h2,_⟩:=ok.feat.ok f hf;have:=hF f hf;exact ⟨n,k,h1,h2,by omega⟩
 ·have:l=a:=by omega
  subst this; exact ⟨n,ha⟩
theorem Ahd {u:PH}{T:List (List UInt8×Nat)}{R:List Bn}{lab:Int}(ok:Bi u T R [] lab){a mi:Nat}{n:List UInt8}(ha:T[a]?=some (n,2))(hl:(a:Int)≠lab)(hm:mi≤1):Bi u T R [(a,1,mi)] lab:=by
 refine ⟨ok.att,ok.rel,⟨fun f hf=>?_,by simp⟩,ok.t1,ok.t2,ok.r1,ok.r2,by simp,ok.l1,ok.l2⟩;simp at hf; subst hf;exact ⟨n,2,ha,.inl ⟨rfl,rfl,hm⟩,hl⟩
theorem Wb {u:PH}{s:Src}{ts:List Int}{k:Nat}(most:Nat)(hm1:1≤most)(hm6:most≤6)(h:Hv u s ts)(hk:k≤s.n) :
  Ae Tryz.prog 34 [s.ptr,.int .i64 (most:Int)] u (s.M k) fun v u' m'=>∃ (T:List (List UInt8×Nat)) (R:List Bn) (F:List Am) (lab:Int) (k':Nat),D5 u' v T R F lab∧Bi u' T R F lab∧T.length≤8∧0≤lab∧F≠[]∧k'≤s.n∧m'=s.M k'∧F.length≤most:=by
 refine Ae.o Tryz.func34 ?_;refine G.A Tryz.call81 (Yp most hm1 hm6 h hk) ?_;rintro v1 u1 m1 l1 ⟨T,R,F,lab,k1,hX,ok,hT6,hk1,rfl,hTOK,_,hFm⟩ _;rw [Ci];have hnm:=hTOK.nmOK;obtain ⟨xa,xc,xb,xd,xe,xf,rfl,hTL,hRL,hFL⟩:=id hX;have ol1:=ok.l1;have hf8:=ok.f2;refine G.joinF (ι:=Int) (fun st=>Xp Tryz.prog st [.bool false]) (fun z=>[(0,.v s.ptr),(4,.p 0 0),(5,.p 1003 0)])
  (fun z=>[(0,⟨30,[.v (.slice none 0 0),.v (.slice none 0 0),.v (.slice none 0 0),.v (.int .i64 0)]⟩),(1003,⟨30,[.v (.slice xa T.length xc),.v (.slice xb R.length xd),.v (.slice xe F.length xf),.v (.int .i64 z)]⟩)])
  (fun z u' m'=>m'=s.M k1∧Bi u' T R F z) (fun _=>by kernel_rfl) (by kernel_rfl) ?tail ?way
 case way =>
  intro hjoin;by_cases hl:lab < 0
  ·refine G.lT' lab 0 hl ?_;refine G.l (ι:=Nat×Int) (fun i=>[(0,.v s.ptr),(4,.p 0 0),(5,.p 1003 0),(15,.v (.slice xa T.length xc)),(16,.v (.int .i64 (T.length:Int))),(17,.v (.int .i64 (i.1:Int)))])
    (fun i=>[(0,⟨30,[.v (.slice none 0 0),.v (.slice none 0 0),.v (.slice none 0 0),.v (.int .i64 0)]⟩),(1003,⟨30,[.v (.slice xa T.length xc),.v (.slice xb R.length xd),.v (.slice xe F.length xf),.v (.int .i64 i.2)]⟩)])
    (fun i u' m'=>i.1≤T.length∧m'=s.M k1∧Bi u' T R F i.2) (fun i=>T.length - i.1) (0,lab) ⟨by omega,rfl,ok⟩ ?_
   rintro J ⟨i,z⟩ hJ u2 m2 l2 ⟨hi,rfl,ok2⟩;simp only at hi ok2 hJ;by_cases hlt:i < T.length
   ·refine G.lT (i:Int) (T.length:Int) ?_;obtain ⟨x,hTi⟩:∃ x,T[i]?=some x:=⟨_,List.getElem?_eq_getElem hlt⟩;obtain ⟨ba,oa,rfl,ea⟩:=Ad.at' (hTL.mono l2) (j:=i) (e:=Dh x) (by simp [hTi]);obtain ⟨xn,xk⟩:=x;refine G.a ba oa T.length xc i 2 hlt ?_;refine G.lU (some 2) ba (oa+i*2) (.agg #[.string (mkS xn),.int .i64 (xk:Int)]) ea ?_;by_cases h2:xk=2
    ·subst h2;refine G.eT ((2:Nat):Int) 2 ?_;refine G.c Tryz.call82 (Anq (a:=i) (hFL.mono l2) (by omega)) ?_;rintro v3 u3 l3 rfl;cases hu:F.any fun f=>f.1 == i with
     | true =>
      refine G.i i ?_;exact G.b (hJ (i+1,z) _ _ _ cv (l2.trans l3) ⟨by dsimp only; omega,rfl,ok2.mono l3⟩ (by dsimp only; omega))
     | false =>
      refine G.i i ?_;exact G.b (hJ (i+1,(i:Int)) _ _ _ cv (l2.trans l3) ⟨by dsimp only; omega,rfl,Adj (ok2.mono l3) hTi fun f hf e=>by
       have:=List.any_eq_false.1 hu f hf;simp [e] at this⟩ (by dsimp only; omega))
    ·refine G.eF (xk:Int) 2 ?_;refine G.i i ?_;exact G.b (hJ (i+1,z) _ _ _ cv l2 ⟨by dsimp only; omega,rfl,ok2⟩ (by dsimp only; omega))
   ·obtain rfl:i=T.length:=by omega
    refine G.lF (T.length:Int) (T.length:Int) ?_;exact hjoin z _ _ _ (by kernel_rfl) cv l2 ⟨rfl,ok2⟩
  ·refine G.lF lab 0 ?_;exact hjoin lab _ _ _ (by kernel_rfl) cv (PH.le_refl _) ⟨rfl,ok⟩
 rintro z u2 m2 l2 ⟨rfl,ok2⟩;have hX2:D5 u2 (.agg #[.slice xa T.length xc,.slice xb R.length xd,.slice xe F.length xf,.int .i64 z]) T R F z:=⟨_,_,_,_,_,_,rfl,hTL.mono l2,hRL.mono l2,hFL.mono l2⟩;have hFL2:=hFL.mono l2;clear hX hTL hRL ok hTOK hFL;refine G.joinF (ι:=(List (List UInt8×Nat)×(Option Addr×Nat))×(List Bn×(Option Addr×Nat))×(Option Addr×Nat)×Int) (fun st=>Xp Tryz.prog st [.bool false]) (fun _=>[(0,.v s.ptr),(4,.p 0 0),(5,.p 1003 0)])
  (fun i=>[(0,⟨30,[.v (.slice none 0 0),.v (.slice none 0 0),.v (.slice none 0 0),.v (.int .i64 0)]⟩),(1003,⟨30,[.v (.slice i.1.2.1 i.1.1.length i.1.2.2),.v (.slice i.2.1.2.1 i.2.1.1.length i.2.1.2.2),.v (.slice i.2.2.1.1 F.length i.2.2.1.2),.v (.int .i64 i.2.2.2)]⟩)])
  (fun i u' m'=>m'=s.M k1∧Bi u' i.1.1 i.2.1.1 F i.2.2.2∧D5 u' (.agg #[.slice i.1.2.1 i.1.1.length i.1.2.2,.slice i.2.1.2.1 i.2.1.1.length i.2.1.2.2,.slice i.2.2.1.1 F.length i.2.2.1.2,.int .i64 i.2.2.2]) i.1.1 i.2.1.1 F i.2.2.2∧Adl i.1.1∧i.1.1.length≤7∧0≤i.2.2.2) (fun _=>by kernel_rfl) (by kernel_rfl) ?tail2 ?way2
 case way2 =>
  intro hjoin;by_cases hl:z < 0
  ·refine G.lT' z 0 hl ?_;refine G.c Tryz.call83 (Ak9 hX2 ok2 (by omega) (Ail hnm (by omega))) ?_;rintro v3 u3 l3 ⟨R',hX3,ok3⟩;obtain ⟨ya,yc,yb,yd,ye,yf,rfl,hTL3,hRL3,hFL3⟩:=id hX3;have hlen:(T++[(nmB T.length,2)]).length=T.length+1:=by simp
   refine G.s ((T++[(nmB T.length,2)]).length:Int) 1 (T.length:Int) ?_;have ok4:Bi u3 (T++[(nmB T.length,2)]) R' F (T.length:Int):=Adj ok3 (n:=nmB T.length) (by simp) fun f hf e=>by
    obtain ⟨n,kd,h1,_⟩:=ok2.feat.ok f hf;have:=(List.getElem?_eq_some_iff.1 h1).1;omega
   exact hjoin ((T++[(nmB T.length,2)],(ya,yc)),(R',(yb,yd)),(ye,yf),(T.length:Int)) _ _ _ (by kernel_rfl) cv l3 ⟨rfl,ok4,⟨_,_,_,_,_,_,rfl,hTL3,hRL3,hFL3⟩,hnm.snoc 2,by dsimp only; omega,by dsimp only; omega⟩
  ·refine G.lF z 0 ?_;exact hjoin ((T,(xa,xc)),(R,(xb,xd)),(xe,xf),z) _ _ _ (by kernel_rfl) cv (PH.le_refl _) ⟨rfl,ok2,hX2,hnm,by dsimp only; omega,by dsimp only; omega⟩
 rintro ⟨⟨T,⟨xa,xc⟩⟩,⟨R,⟨xb,xd⟩⟩,⟨xe,xf⟩,z⟩ u3 m3 l3 ⟨rfl,ok3,hX3,hnm,hT7,hz⟩;simp only at ok3 hX3 hnm hT7 hz;by_cases hF0:F = []
 ·subst hF0;refine G.eT' ((([]:List Am).length:Nat):Int) 0 rfl ?_;refine G.c Tryz.call83 (Ak9 hX3 ok3 (by omega) (Ail hnm (by omega))) ?_;rintro v4 u4 l4 ⟨R',hX4,ok4⟩;obtain ⟨ya,yc,yb,yd,ye,yf,rfl,hTL4,hRL4,hFL4⟩:=id hX4;have hlen:(T++[(nmB T.length,2)]).length=T.length+1:=by simp
  refine G.s ((T++[(nmB T.length,2)]).length:Int) 1 (T.length:Int) ?_;refine G.A Tryz.call46 (Im (n:=2) (h.mono (((l1.trans l2).trans l3).trans l4)) hk1 (by omega) (by omega)) ?_;rintro v5 u5 m5 l5 ⟨r,k5,rfl,hr,hk5,rfl⟩ _;rw [Ci];refine G.B 118 3 24 (.agg #[.int .i64 0,.int .i64 0,.int .i64 0]) [.agg #[.int .i64 (T.length:Int),.int .i64 1,.int .i64 (r:Int)]] (H6 (T.length,1,r)) ?_;intro g6 u6 l6 e6;have hzl:((T.length:Nat):Int)≠z:=by
   intro e;obtain ⟨n,hn⟩:=ok3.l2 T.length e.symm;have:=(List.getElem?_eq_some_iff.1 hn).1;omega
  have ok6:Bi u6 (T++[(nmB T.length,2)]) R' [(T.length,1,r)] z:=Ahd (n:=nmB T.length) (ok4.mono (l5.trans l6)) (by simp) hzl (by omega);exact G.r (.agg #[.slice ya (T++[(nmB T.length,2)]).length yc,.slice yb R'.length yd,.slice (some ⟨g6,0,none⟩) 1 1,.int .i64 z]) ⟨_,R',[(T.length,1,r)],z,k5,⟨_,_,_,_,_,_,rfl,hTL4.mono (l5.trans l6),hRL4.mono (l5.trans l6),e6.listP⟩,ok6,by omega,hz,by simp,hk5,rfl,hm1⟩
 ·refine G.eqlF (F.length:Int) 0 (by kernel_rfl) (by
   have:F.length≠0:=fun e=>hF0 (List.length_eq_zero_iff.1 e);omega) ?_
  exact G.r (.agg #[.slice xa T.length xc,.slice xb R.length xd,.slice xe F.length xf,.int .i64 z]) ⟨T,R,F,z,k1,hX3,ok3,by omega,hz,hF0,hk1,rfl,hFm⟩
end
section
open Go.RowKit Go.MapKept
theorem Acw {n:Nat}(h:n≤8):46656 ^ n*7*100 < 10 ^ 100:=by
 have h1:46656 ^ n≤46656 ^ 8:=Nat.pow_le_pow_right (by omega) h;have h2:46656 ^ 8 < 10 ^ 50:=by decide +kernel
 have h3:(10:Nat) ^ 50*100000 < 10 ^ 100:=by decide +kernel
 omega
theorem M6 {u:PH}{T:List (List UInt8×Nat)}{R:List Bn}{F:List Am}{lab:Int}(ok:Bi u T R F lab)(hT:T.length≤8){L:List E9}(hL:∀ y∈L,Ca T y.1∧y.2.1≤7)(hl:L.length≤100):CFS (Bo F lab L)∧CFV (Bo F lab L):=by
 obtain ⟨s1,s2⟩:=Wv ok hL;refine ⟨s1.cfs (by omega) ?_,s2⟩;have hp:=Acw hT;have:=Nat.mul_le_mul_right (46656 ^ T.length*7) hl;omega
theorem M4 {u:PH}{v:Value}{T:List (List UInt8×Nat)}{R:List Bn}{F:List Am}{lab:Int}{a:Option Addr}{c:Nat}{L:List E9}(hX:D5 u v T R F lab)(ok:Bi u T R F lab)(hT8:T.length≤8)(hL:Ad u (.slice a L.length c) 2 (L.map Ga))(hW:WOK u T L)(hl:L.length≤6) :
  Fn0 Tryz.prog 32 [v,.slice a L.length c] u fun r u'=>Akk u' r (Bo F lab L) 1530:=by
 have hck:=fun (u':PH) (l:PH.le u u')=>Pi (hX.mono l) (ok.mono l);obtain ⟨xa,xc,xb,xd,xe,xf,rfl,hTL,hRL,hFL⟩:=id hX;have hp8:=Acw hT8;have hall:∀ n,∀ y∈L.take n,Ca T y.1∧y.2.1≤7:=fun n y hy=>by
  obtain ⟨_,q1,_,q2⟩:=hW y (List.mem_of_mem_take hy); exact ⟨q1,q2⟩
 have hcfs:∀ n,CFS (Bo F lab (L.take n)):=fun n=>(M6 ok hT8 (hall n) (by rw [List.length_take]; omega)).1;refine Fn0.o Tryz.func32 ?_;refine G.c Tryz.call74 (hck u (PH.le_refl _)) ?_;rintro v1 u1 l1 rfl;refine G.nF 0 0 ?_;refine G.gF (L.length:Int) 2000 ?_;refine G.callO _ _ (by kernel_rfl) Tryz.call75 (Hq (n:=0) (by omega) (by omega)) ?_;intro v2 u2 m2 l2 k2 _;rw [Ci];have n0:(⟨((0:Int):Rat),fun _=>0,fun _=>0⟩:CF)=CF.num 0:=by rw [show ((0:Int):Rat)=0 by decide +kernel]; rfl
 rw [n0] at k2;obtain ⟨b,a2,n,c2,b',a',n',c',g1,g2,rfl⟩:=Ks k2;refine G.l (ι:=Nat×(Bool×SlI)×(Bool×SlI)×Nat×Nat) (fun i=>[(2,.p 0 0),(4,.p 1 0),(7,.p 6001 0),(22,.v (.slice a L.length c)),(23,.v (.int .i64 (L.length:Int))),(24,.v (.int .i64 (i.1:Int)))])
  (fun i=>[(0,⟨30,[.v (.slice xa T.length xc),.v (.slice xb R.length xd),.v (.slice xe F.length xf),.v (.int .i64 lab)]⟩),(1,⟨36,[.v (.string (mkS [])),.v (.slice none 0 0),.v (.slice none 0 0)]⟩),(6001,⟨142,[.v (.bool i.2.1.1),.v (.slice i.2.1.2.1 i.2.1.2.2.1 i.2.1.2.2.2),.v (.bool i.2.2.1.1),.v (.slice i.2.2.1.2.1 i.2.2.1.2.2.1 i.2.2.1.2.2.2),.v (.map (some i.2.2.2.1)),.v (.map (some i.2.2.2.2))]⟩)])
  (fun i u' m'=>i.1≤L.length∧Ia m' u' (.agg #[.bool i.2.1.1,.slice i.2.1.2.1 i.2.1.2.2.1 i.2.1.2.2.2,.bool i.2.2.1.1,.slice i.2.2.1.2.1 i.2.2.1.2.2.1 i.2.2.1.2.2.2,.map (some i.2.2.2.1),.map (some i.2.2.2.2)]) (Bo F lab (L.take i.1)) (255*i.1))
  (fun i=>L.length - i.1) (0,(b,a2,n,c2),(b',a',n',c'),g1,g2) ⟨by omega,k2⟩ ?_
 rintro J ⟨i,⟨b,a2,n,c2⟩,⟨b',a',n',c'⟩,g1,g2⟩ hJ u3 m3 l3 ⟨hi,hC⟩;simp only at hi hC hJ;have le3:=(l1.trans l2).trans l3;by_cases hlt:i < L.length
 ·refine G.lT (i:Int) (L.length:Int) ?_;obtain ⟨y,hLi⟩:∃ y,L[i]?=some y:=⟨_,List.getElem?_eq_getElem hlt⟩;obtain ⟨hS,hT,hw1,hw2⟩:=hW y (List.mem_of_getElem? hLi);obtain ⟨ba,oa,rfl,ea⟩:=Ad.at' (hL.mono le3) (j:=i) (e:=Ga y) (by simp [hLi]);obtain ⟨ss,w,ya,yc⟩:=y;simp only at hS hT hw1 hw2;have htk:L.take (i+1)=L.take i++[(ss,w,ya,yc)]:=by rw [List.take_add_one,hLi]; rfl
  have hP:Pq u (.agg #[.slice xa T.length xc,.slice xb R.length xd,.slice xe F.length xf,.int .i64 lab]) (.slice ya ss.length yc) T R F lab ss:=⟨hX,ok,hS,hT⟩;have hlen:=hT.len;obtain ⟨d1,d2⟩:=Rg ok hT;have sK:CFS ((cfT F lab ss).scale (w:Rat)):=(d1.scale (Aeg hw2)).cfs (by omega) (by omega);have hsum:Bo F lab (L.take (i+1))=(Bo F lab (L.take i)).add ((cfT F lab ss).scale (w:Rat)):=by rw [htk,Fk]
  refine G.a ba oa L.length c i 2 hlt ?_;refine G.lU (some 2) ba (oa+i*2) (.agg #[.slice ya ss.length yc,.int .i64 (w:Int)]) ea ?_;refine G.c Tryz.call51 (Adv (hP.mono le3)) ?_;rintro v4 u4 l4 rfl;refine G.nF 0 0 ?_;refine G.lF (w:Int) (-1000000000000) ?_;refine G.gF (w:Int) 1000000000000 ?_;refine G.c Tryz.call77 (Aii (hP.mono (le3.trans l4)) (by omega)) ?_;rintro v5 u5 l5 ⟨k5,sF⟩;obtain ⟨b5,a5,n5,c5,b5',a5',n5',c5',g51,g52,rfl⟩:=N0 k5;refine G.c Tryz.call20 (Wu (z:=(w:Int)) (by omega) (by omega)) ?_;intro v6 u6 l6 k6;rw [Rat.intCast_natCast] at k6;obtain ⟨b6,a6,n6,c6,a6',n6',c6',rfl,_⟩:=k6.opn;have hwb:SB (w:Rat):=(Aeg hw2).small (by omega) (by omega);refine G.callA _ _ (by kernel_rfl) (by kernel_rfl) Tryz.call76 (Ci m3).symm (Rn m3)
   (Agy (((hC.grow l4).grow l5).grow l6) (k5.mono l6) k6 hwb (hcfs i) sF sK (by rw [← hsum]; exact hcfs (i+1))) ?_
  intro v7 u7 m7 l7 k7 _;rw [← hsum] at k7;rw [Ci];obtain ⟨b7,a7,n7,c7,b7',a7',n7',c7',g71,g72,rfl⟩:=Ks k7;refine G.i i ?_;exact G.b (hJ (i+1,(b7,a7,n7,c7),(b7',a7',n7',c7'),g71,g72) _ _ _ cv ((((l3.trans l4).trans l5).trans l6).trans l7) ⟨by dsimp only; omega,k7.congr rfl (by dsimp only; omega)⟩ (by dsimp only; omega))
 ·obtain rfl:i=L.length:=by omega
  refine G.lF (L.length:Int) (L.length:Int) ?_;have hc:=hcfs L.length;rw [List.take_length] at hC hc;refine G.callK _ _ (by kernel_rfl) Tryz.call78 (Afg hC.i hc (by omega)) ?_;rintro v7 u7 l7 ⟨r,rfl,k7⟩;obtain ⟨e1,f1,h1,e2,f2,h2,rfl⟩:=k7.opn;refine G.drop PH.mt (by kernel_rfl) (PH.mt_le _) ?_;exact G.r (.tuple #[.agg #[.string (mkS (Ag (Bo F lab L).c)),.slice e1 f1 h1,.slice e2 f2 h2],.int .i64 0]) ⟨rfl,_,rfl,k7.up (by omega)⟩
end
section
open Go.RowKit Go.MapKept
theorem Acb {p:Par}:∀ (L:List LF) (C:CF),(Ey C L).s p≠0→C.s p≠0∨∃ q,some (some (p,q))∈L
 | [],C,h=>.inl h
 | x::L,C,h=>by
  rcases Acb L (C.mul x.cf) h with h1 | ⟨q,hq⟩
  ·rcases Fe (a:=x.cf.s p*C.c) (b:=C.s p*x.cf.c) h1 with h2 | h2
   ·right;have h3:=(B9 h2).1
    match x,h3 with
    | none,h3=>exact absurd rfl h3
    | some none,h3=>exact absurd rfl h3
    | some (some (p',q)),h3 =>
     have h4:(if p=p' then q else 0)≠0:=h3;by_cases e:p=p'
     ·subst e; exact ⟨q,List.mem_cons_self ..⟩
     ·rw [if_neg e] at h4; exact absurd rfl h4
   ·exact .inl (B9 h2).1
  ·exact .inr ⟨q,List.mem_cons_of_mem _ hq⟩
theorem Aaw {F:List Am}{lab:Int}{ss:List (List UInt8)}{p:Par}(h:(cfT F lab ss).s p≠0):Xj F lab p∧∃ (a:Nat) (q:Rat),(D7 F lab ss)[a]?=some (some (some (p,q)))∧∀ (i:Nat) (f:Am),p.1=(i:Int)→F[i]?=some f→f.2.1=2→q=1:=by
 rcases Acb _ _ h with h | ⟨q,hq⟩
 ·exact absurd rfl h
 obtain ⟨a,ha,hae⟩:=List.getElem_of_mem hq;have hla:a < ss.length:=by rw [En] at ha; exact ha
 have e:=Ew (F:=F) (lab:=lab) (w:=ss[a]) (List.getElem?_eq_getElem hla);have e2:Di F lab a ss[a]=some (some (p,q)):=by
  rw [List.getElem?_eq_getElem ha,hae] at e;exact (Option.some.inj e).symm
 have e3:(D7 F lab ss)[a]?=some (some (some (p,q))):=by rw [e,e2]
 generalize ss[a]=w at e2;by_cases hl:(a:Int)=lab
 ·have e4:Di F lab a w=Lx w:=by unfold Di; rw [if_pos hl]
  rw [e4] at e2;unfold Lx at e2;split at e2
  ·cases e2
  ·simp only [Option.some.injEq,Prod.mk.injEq] at e2;obtain ⟨rfl,_⟩:=e2;exact ⟨.inl ⟨rfl,by omega,rfl⟩,a,q,e3,fun i f h1=>by simp only at h1; omega⟩
 ·rcases E5 (F:=F) (w:=w) hl with h1 | ⟨i,f,hf,hfa,h1⟩
  ·rw [h1] at e2; cases e2
  ·rw [h1] at e2;unfold G6 at e2;by_cases h2:f.2.1=2
   ·rw [if_pos h2] at e2;simp only [Option.some.injEq,Prod.mk.injEq] at e2;obtain ⟨rfl,rfl⟩:=e2;exact ⟨.inr ⟨i,f,rfl,hf,.inl h2⟩,a,_,e3,fun _ _ _ _ _=>rfl⟩
   ·rw [if_neg h2] at e2;split at e2
    ·split at e2 <;> cases e2
    ·simp only [Option.some.injEq,Prod.mk.injEq] at e2;obtain ⟨rfl,_⟩:=e2;refine ⟨.inr ⟨i,f,rfl,hf,.inr rfl⟩,a,q,e3,fun j g h3 h4 h5=>?_⟩;simp only at h3;obtain rfl:i=j:=by omega
     rw [hf] at h4; cases h4;exact absurd h5 h2
theorem Acg {F:List Am}{lab:Int}{p:Par}:∀ {L:List E9},(Bo F lab L).s p≠0→∃ y∈L,(cfT F lab y.1).s p≠0:=by
 intro L;induction L using Kl with
 | h0=>exact fun h=>absurd rfl h
 | h1 L y ih =>
  intro h;rw [Fk] at h;rcases Fe (a:=(Bo F lab L).s p) (b:=(cfT F lab y.1).s p*(y.2.1:Rat)) h with h1 | h1
  ·obtain ⟨z,hz,h2⟩:=ih h1;exact ⟨z,List.mem_append_left _ hz,h2⟩
  ·exact ⟨y,by simp,(B9 h1).1⟩
end
section
open Go.RowKit Go.MapKept
structure Nq (u:PH)(T:List (List UInt8×Nat))(R:List Bn)(F:List Am)(lab:Int)(L:List E9)(xv lv cv pv ev:Value):Prop where
 sch:D5 u xv T R F lab
 ok:Bi u T R F lab
 t8:T.length≤8
 lab0:0≤lab
 f0:F≠[]
 f5:F.length≤5
 rows:Ad u lv 2 (L.map Ga)
 wok:WOK u T L
 l6:L.length≤6
 cof:Hb u cv (Bo F lab L) 1530
 prm:Am4 u (.tuple #[pv,ev]) F (Bo F lab L)
theorem Ac2 {F:List Am}{lab:Int}{L:List E9}:∀ p,(Bo F lab L).s p≠0→Xj F lab p:=fun p hp=>by
 obtain ⟨y,hy,hne⟩:=Acg hp;exact (Aaw hne).1
theorem WOK.tup {u:PH}{T:List (List UInt8×Nat)}{L:List E9}(h:WOK u T L):∀ y∈L,Ca T y.1∧y.2.1≤7:=fun y hy=>by
 obtain ⟨_,q1,_,q2⟩:=h y hy; exact ⟨q1,q2⟩
theorem Al4 {u:PH}{s:Src}{ts:List Int}{k:Nat}(h:Hv u s ts)(hk:k≤s.n) :
  Ae Tryz.prog 8 [s.ptr] u (s.M k) fun r u' m'=>∃ (T:List (List UInt8×Nat)) (R:List Bn) (F:List Am) (lab:Int) (L:List E9) (xv lv cv pv ev:Value) (k':Nat),r=.tuple #[xv,lv,cv,pv]∧Nq u' T R F lab L xv lv cv pv ev∧k'≤s.n∧m'=s.M k':=by
 refine Ae.o Tryz.func8 ?_;refine G.A Tryz.call34 (Wb 5 (by omega) (by omega) h hk) ?_;rintro v1 u1 m1 l1 ⟨T,R,F,lab,k1,hX,ok,hT8,hlab,hF0,hk1,rfl,hF5⟩ _;rw [Ci];obtain ⟨xa,xc,xb,xd,xe,xf,rfl,hTL,hRL,hFL⟩:=id hX;refine G.A Tryz.call35 (Abl (most:=6) (h.mono l1) hk1 hX ok (by omega)) ?_;rintro v2 u2 m2 l2 ⟨L,k2,hL,hL6,hW,hk2,rfl⟩ _;rw [Ci];obtain ⟨la,lc,rfl⟩:=hL.opn;rw [List.length_map] at hL ⊢;refine G.c Tryz.call32 (M4 (hX.mono l2) (ok.mono l2) hT8 hL hW hL6) ?_;rintro v3 u3 l3 ⟨x3,rfl,k3⟩;obtain ⟨e1,f1,g1,e2,f2,g2,rfl⟩:=k3.opn;obtain ⟨sC,vC⟩:=M6 ok hT8 hW.tup (by omega);refine G.c Tryz.call36 (Zy (hX.mono (l2.trans l3)) (ok.mono (l2.trans l3)) k3 sC vC (by omega) Ac2) ?_;intro v4 u4 l4 k4;obtain ⟨pa,pn,pc,ee,rfl⟩:∃ pa pn pc ee,v4=.tuple #[.slice pa pn pc,.int .i64 ee]:=by
  rcases k4 with ⟨e,_⟩ | ⟨ps,P,e,hP,_⟩
  ·exact ⟨_,_,_,_,e⟩
  ·obtain ⟨pa,pc,rfl⟩:=hP.opn;exact ⟨_,_,_,_,e⟩
 have l24:=(l2.trans l3).trans l4;exact G.r (.tuple #[.agg #[.slice xa T.length xc,.slice xb R.length xd,.slice xe F.length xf,.int .i64 lab],.slice la L.length lc,.agg #[.string (mkS (Ag (Bo F lab L).c)),.slice e1 f1 g1,.slice e2 f2 g2],.slice pa pn pc])
  ⟨T,R,F,lab,L,_,_,_,_,.int .i64 ee,k2,rfl,⟨hX.mono l24,ok.mono l24,hT8,hlab,hF0,hF5,hL.mono (l3.trans l4),hW.mono (l3.trans l4),hL6,k3.mono l4,k4⟩,hk2,rfl⟩
end
section
open Go.RowKit Go.MapKept
theorem Al8 {T:List (List UInt8×Nat)}{F:List Am}{lab:Int}{ss:List (List UInt8)}{p:Par}{i:Nat}{f:Am}(hF:Cy T F lab)(ht:Ca T ss)(hne:(cfT F lab ss).s p≠0)(hp:p.1=(i:Int))(hf:F[i]?=some f)(hk:f.2.1=2):p.2 = []∨Aaj p.2=true:=by
 obtain ⟨_,a,q,ha,_⟩:=Aaw hne;have hla:a < ss.length:=by
  have:=(List.getElem?_eq_some_iff.1 ha).1;rwa [En] at this
 have e:=Ew (F:=F) (lab:=lab) (w:=ss[a]) (List.getElem?_eq_getElem hla);rw [ha] at e;have e2:Di F lab a ss[a]=some (some (p,q)):=(Option.some.inj e).symm;obtain ⟨x,hx,hv⟩:=ht.at hla;generalize ss[a]=w at e2 hv;by_cases hl:(a:Int)=lab
 ·have e4:Di F lab a w=Lx w:=by unfold Di; rw [if_pos hl]
  rw [e4] at e2;unfold Lx at e2;split at e2
  ·cases e2
  ·simp only [Option.some.injEq,Prod.mk.injEq] at e2;obtain ⟨rfl,_⟩:=e2;simp only at hp; omega
 ·rcases E5 (F:=F) (w:=w) hl with h1 | ⟨j,g,hg,hga,h1⟩
  ·rw [h1] at e2; cases e2
  ·rw [h1] at e2;have hji:p.1=(j:Int):=by
    unfold G6 at e2;split at e2
    ·cases e2; rfl
    ·split at e2
     ·split at e2 <;> cases e2
     ·cases e2; rfl
   obtain rfl:j=i:=by omega
   rw [hg] at hf; cases hf;unfold G6 at e2;rw [if_pos hk] at e2;simp only [Option.some.injEq,Prod.mk.injEq] at e2;obtain ⟨rfl,_⟩:=e2;obtain ⟨n,k,h1,h2,_⟩:=hF.ok f (List.mem_of_getElem? hg);rw [hga,hx] at h1; cases h1;rcases hv with h | ⟨_,h⟩ | ⟨h,_⟩ | ⟨h,_⟩
   ·exact .inl h
   ·exact .inr h
   ·omega
   ·omega
theorem Yf {α β:Type}{f:α→List β}{n:Nat}:∀ {l:List α},(∀ x∈l,(f x).length≤n)→(l.flatMap f).length≤l.length*n
 | [],_=>by simp
 | x::l,h=>by
  rw [List.flatMap_cons,List.length_append,List.length_cons,Nat.add_mul,Nat.one_mul];have h1:=h x (by simp);have h2:=Yf (l:=l) fun y hy=>h y (by simp [hy]);omega
theorem Akt {T:List (List UInt8×Nat)}{F:List Am}{lab:Int}{L:List E9}{P:List Par}(hF:Cy T F lab)(hT:∀ y∈L,Ca T y.1)(hP:S2 F (Bo F lab L) P):P.length≤F.length*4:=by
 have hsub:P ⊆ (List.range F.length).flatMap fun (i:Nat)=>[((i:Int),([]:List UInt8)),((i:Int),Aag),((i:Int),Mu),((i:Int),Qu)]:=fun p hp=>by
  rcases (hP.2 p).1 hp with ⟨i,f,rfl,hf,_⟩ | ⟨hne,i,f,h1,hf,h2⟩
  ·exact List.mem_flatMap.2 ⟨i,by simpa using (List.getElem?_eq_some_iff.1 hf).1,by unfold I2; simp⟩
  ·refine List.mem_flatMap.2 ⟨i,by simpa using (List.getElem?_eq_some_iff.1 hf).1,?_⟩;obtain ⟨y,hy,hy2⟩:=Acg hne;obtain ⟨p1,p2⟩:=p;simp only at h1;subst h1;rcases Al8 hF (hT y hy) hy2 rfl hf h2 with h3 | h3
   ·simp only at h3; subst h3; simp
   ·rcases Ajl h3 with h4 | h4 | h4 <;> · simp only at h4; subst h4; simp
 have h1:=List.Nodup.length_le_of_subset (hP.1.nodup Dd) hsub;refine Nat.le_trans h1 ?_;have:=Yf (l:=List.range F.length) (n:=4) (f:=fun (i:Nat)=>[((i:Int),([]:List UInt8)),((i:Int),Aag),((i:Int),Mu),((i:Int),Qu)]) fun x _=>by simp
 rw [List.length_range] at this;exact this
theorem Nq.par {u:PH}{T:List (List UInt8×Nat)}{R:List Bn}{F:List Am}{lab:Int}{L:List E9}{xv lv cv pv ev:Value}(w:Nq u T R F lab L xv lv cv pv ev) :
  ∃ P,True∧Ad u pv 2 (P.map Ak)∧P.length≤20∧S2 F (Bo F lab L) P:=by
 have hlen:∀ P,S2 F (Bo F lab L) P→P.length≤20:=fun P hP=>by
  have:=Akt w.ok.feat (fun y hy=>(w.wok.tup y hy).1) hP;have:=w.f5;omega
 rcases w.prm with ⟨_,P,h1,h2⟩ | ⟨ps,P,h1,h2,h3,h4⟩
 ·have:=hlen P h2; omega
 ·cases h1;exact ⟨P,trivial,h2,hlen P h4,h4⟩
end
section
open Go.RowKit Go.MapKept
theorem Am9 (b:Option Par→Rat)(P:List Par)(C:CF):Fp (fun e=>-b e) P C=Fp b P C:=by
 unfold Fp;exact Bz fun e _=>Bz fun f _=>by grind
theorem Amc {b:Option Par→Rat}(P:List Par)(C:CF)(h:∀ e,b e=0):Fp b P C=0:=by
 unfold Fp;exact Fi fun e _=>Fi fun f _=>by rw [h e]; grind
theorem Aei:Tk (CF.num 0):=⟨rfl,fun _=>rfl,fun _=>rfl⟩
theorem Aht {P:List Par}{m0:Rat}{M:List (Par×Rat)}(hP:P.Nodup)(hm:Fh P m0 M)(x:Par→Rat):Ki (cfE m0 M) (M.map (·.1)) x=Ki (cfE m0 M) P x:=by
 have hn:=hm.srt.nodup Dd;unfold Ki;show m0+Bd (fun p=>A5 p M*x p) (M.map (·.1))=m0+Bd (fun p=>A5 p M*x p) P;rw [Vf hP hn hm.sub,Vf hn hn fun y hy=>List.mem_map.2 ⟨y,hy,rfl⟩]
theorem Ajs {T:List (List UInt8×Nat)}{F:List Am}{lab:Int}{b:Option Par→Rat}{P Q:List Par}(hF:Cy T F lab)(h1:-1≤lab)(h2:∀ l:Nat,lab=(l:Int)→l < T.length)(hb:∀ x,Ki b Q x=Ki b P x) :
  ∀ {L:List E9},(∀ y∈L,Ca T y.1)→Cr b Q (Bo F lab L)=Cr b P (Bo F lab L)∧sqC b Q (Bo F lab L)=sqC b P (Bo F lab L):=by
 intro L;induction L using Kl with
 | h0=>exact fun _=>⟨(Aei.bias b Q).trans (Aei.bias b P).symm,(Aei.sq b Q).trans (Aei.sq b P).symm⟩
 | h1 L y ih =>
  intro h;obtain ⟨i1,i2⟩:=ih fun z hz=>h z (List.mem_append_left _ hz);have hy:=h y (by simp);have hlen:=hy.len;rw [Fk,On,On,V5,V5,i1,i2];rcases Ox hF hy h1 (fun l hl=>by have:=h2 l hl; omega) with ⟨_,o⟩ | ⟨_,o⟩
  ·rw [o.bias,o.bias,o.sq,o.sq,hb]; exact ⟨rfl,rfl⟩
  ·rw [o.bias,o.bias,o.sq,o.sq]; exact ⟨rfl,rfl⟩
theorem Yr:SmR 0:=⟨by decide +kernel,by decide +kernel⟩
theorem An0 {T:List (List UInt8×Nat)}{F:List Am}{lab:Int}{ss:List (List UInt8)}(hF:Cy T F lab)(ht:Ca T ss)(h1:-1≤lab)(h2:∀ l:Nat,lab=(l:Int)→l < ss.length)(hc:Pk F lab ss=true){p:Par}(hp:0≤p.1):(cfT F lab ss).s p=A5 p (Qe F ss F.length):=by
 have hnd:=Rh F ss F.length (Nat.le_refl _);by_cases h:(cfT F lab ss).s p=0
 ·rw [h];refine (Gn fun hm=>?_).symm;obtain ⟨x,hx,rfl⟩:=List.mem_map.1 hm;obtain ⟨h3,a,ha⟩:=Aet (lab:=lab) hF ht hx;exact h3 ((Aa8 hF ht h1 h2 hc (p:=x.1) (q:=x.2) ha).symm.trans h)
 ·obtain ⟨_,a,q,ha,_⟩:=Aaw h;have hq:=Aa8 hF ht h1 h2 hc ha;rw [hq] at h;rcases List.mem_append.1 (Aky hF ht h1 ha h fun l _ e=>by
   rw [e];exact (Pp (Ls (t:=[48]) ⟨0,Yr,Fd.symm⟩).2).2 rfl) with hm | hm
  ·unfold Ami at hm;split at hm
   ·simp only [List.mem_singleton,Prod.mk.injEq] at hm;obtain ⟨rfl,_⟩:=hm;simp only at hp; omega
   ·simp at hm
  ·rw [hq];exact (Gj (a:=p) (q:=q) hnd hm).symm
def Aol (m0:Rat)(M:List (Par×Rat))(V:List (Par×Rat)):Rat:=m0+Bd (fun t=>t.2*A5 t.1 M) V
theorem Anf (a b:Option Par→Rat)(P:List Par)(x:Par→Rat):Ki (fun e=>a e - b e) P x=Ki a P x - Ki b P x:=by
 unfold Ki;have:Bd (fun p=>(a (some p) - b (some p))*x p) P=Bd (fun p=>a (some p)*x p) P+Bd (fun p=>b (some p)*x p) P*(-1):=by
  rw [← Gz,← I1];exact Bz fun p _=>by grind
 rw [this]; grind
theorem An1 {p:Rat×Rat}(h1:Dn 1 108 p.1)(h2:Dn 1 108 p.2):Dn 2 11664 (p.1*p.2):=h1.mul h2
theorem QOK.biasD {b:Option Par→Rat}{C:CF}(h:QOK b C){P:List Par}(hP:P.length≤60):Dn 18 (62*10 ^ 45) (Cr b P C):=by
 have h1:Dn 18 (10 ^ 45) (C.s Bh):=(h.C.s Bh).to (by omega) (by decide +kernel);exact (Sm h1 (h.bs (Bw P) (by rw [Fu]; omega))).mono (by decide +kernel)
theorem QOK.sqD {b:Option Par→Rat}{C:CF}(h:QOK b C){P:List Par}(hP:P.length≤60):Dn 18 (5000*10 ^ 45) (sqC b P C):=by
 have h1:Dn 18 (10 ^ 45) (C.t (Ar Bh Bh)):=(h.C.t _).to (by omega) (by decide +kernel);have h2:=h.nm hP;have h3:=h.rs (Bw P) (by rw [Fu]; omega);exact (Sm (h2.add h1) h3.two).mono (by decide +kernel)
theorem De.divq {a b c d:Nat}{q r:Rat}(h:De a b q)(h':De c d r)(hr:r≠0):De (a+d) (b+c) (q / r):=by
 obtain ⟨k,D,e,h0,h3,h4⟩:=h;obtain ⟨l,E,e',k0,k3,k4⟩:=h';have hE:=Ph k0;have hl:l≠0:=by
  rintro rfl;have:r*(E:Rat)=0:=by rw [e']; rfl
  rcases Rat.mul_eq_zero.1 this with h | h
  ·exact hr h
  ·exact hE h
 have hi:=Rat.mul_inv_cancel _ hr;have key:q / r*(((D:Int)*l:Int):Rat)=((k*(E:Int):Int):Rat):=by
  rw [Rat.intCast_mul,Rat.intCast_mul,← e,← e',Rat.div_def,Rat.intCast_natCast,Rat.intCast_natCast];generalize r⁻¹=j at hi ⊢;grind
 have hEa:(k*(E:Int)).natAbs < 10 ^ (a+d):=by rw [Int.natAbs_mul,Int.natAbs_natCast]; exact Ej h3 k4
 have hDa:D*l.natAbs < 10 ^ (b+c):=Ej h4 k3;have hDp:0 < D*l.natAbs:=Nat.mul_pos h0 (by omega);rcases Int.natAbs_eq l with hh | hh
 ·refine ⟨k*(E:Int),D*l.natAbs,?_,hDp,hEa,hDa⟩;rw [← key,show ((D:Int)*l:Int)=((D*l.natAbs:Nat):Int) by rw [Int.natCast_mul]; exact congrArg _ hh,Rat.intCast_natCast]
 ·have h5:((D:Int)*l:Int) = -((D*l.natAbs:Nat):Int):=by
   have h6:=congrArg (fun z:Int=>(D:Int)*z) hh;simp only [Int.mul_neg] at h6;rw [Int.natCast_mul]; exact h6
  refine ⟨-(k*(E:Int)),D*l.natAbs,?_,hDp,by rw [Int.natAbs_neg]; exact hEa,hDa⟩;rw [Rat.intCast_neg,← key,h5,Rat.intCast_neg,Rat.intCast_natCast];grind
end
end Go.Proofs.YtnlfnomchebmcaaGreatDoor
