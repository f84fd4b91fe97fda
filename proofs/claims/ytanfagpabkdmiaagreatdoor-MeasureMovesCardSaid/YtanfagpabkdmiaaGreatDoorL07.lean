/- Parts of one proof, joined by a program. -/
import Derived.Test.YtanfagpabkdmiaaGreatDoorL06
import Derived.RangeFuncSeq
import Derived.RangeFuncGives
import Derived.Maps.AppendAt
import Derived.Shelf.Abstract
import Derived.Shelf.AbstractIn
import Derived.Sort.MapsRangeIn
import Derived.WalkKit
import Derived.OwnWalkIn
import Derived.TacticsInMore
import Derived.RegionIn
import Derived.LoopNIn
import Derived.LoopIn
import Derived.Shelf.SlIter.Collect
import Derived.Shelf.SlSortCmp.WholeK
import Derived.Ground.SlsfProg
import Derived.Test.YtanfagpabkdmiaaGreatDoorProg
import Derived.Shelf.SlSortCmp.NoneTotal
set_option linter.unusedVariables false
set_option linter.unusedSimpArgs false
set_option linter.unusedSectionVars false
set_option maxHeartbeats 16000000
namespace Go.Proofs.YtanfagpabkdmiaaGreatDoor
open Go.Proofs.Tryz
section
open Go.RowKit Go.MapKept
def A5 (p:Par×Rat):Value:=.agg #[.int .i64 p.1.1,.string (mkS p.1.2),.string (mkS (Af p.2))]
def Da (x:(Par×Par)×Rat):Value:=.agg #[.int .i64 x.1.1.1,.string (mkS x.1.1.2),.int .i64 x.1.2.1,.string (mkS x.1.2.2),.string (mkS (Af x.2))]
def H7 (u:PH)(v:Value)(F:CF)(K:Nat):Prop :=
 ∃ (T:List (Par×Rat)) (Q:List ((Par×Par)×Rat)) (a1:Option Addr) (c1:Nat) (a2:Option Addr) (c2:Nat),v=.agg #[.string (mkS (Af F.c)),.slice a1 T.length c1,.slice a2 Q.length c2] ∧
  Ab u (.slice a1 T.length c1) 3 (T.map A5)∧Ab u (.slice a2 Q.length c2) 5 (Q.map Da)∧Can A8 F.s T∧Can Lg F.t Q∧T.length≤K∧Q.length≤K
theorem H7.mono {u u':PH}{v:Value}{F:CF}{K:Nat}(h:H7 u v F K)(hl:PH.le u u'):H7 u' v F K:=by
 obtain ⟨T,Q,a1,c1,a2,c2,e,h1,h2,h3⟩:=h;exact ⟨T,Q,a1,c1,a2,c2,e,h1.mono hl,h2.mono hl,h3⟩
section
variable {κ:Type} [DecidableEq κ]
theorem Ze {l:List (κ×Rat)}{a:κ}{q:Rat}(h:a∉l.map (·.1)):(fun k=>Bi k (l++[(a,q)]))=Hb (fun k=>Bi k l) a q:=by
 funext k
 unfold Hb;induction l with
 | nil=>simp [Bi]
 | cons p l ih =>
  obtain ⟨b,r⟩:=p;simp only [List.map_cons,List.mem_cons,not_or] at h;simp only [List.cons_append,Bi];by_cases hk:k=b
  ·rw [if_pos hk,if_pos hk,if_neg (fun e=>h.1 (by rw [← e,hk]))]
  ·rw [if_neg hk,if_neg hk]; exact ih h.2
theorem Can.fn {c:κ→κ→Int}(hc:Ord c){f:κ→Rat}{l:List (κ×Rat)}(h:Can c f l):∀ k,Bi k l=f k:=fun k=>by
 by_cases hk:k∈l.map (·.1)
 ·obtain ⟨p,hp,rfl⟩:=List.mem_map.1 hk;rw [F9 (h.srt.nodup hc) (q:=p.2) hp]; exact (h.val p hp).1
 ·rw [Kc hk,h.out k hk]
theorem Ym {l:List (κ×Rat)}{i:Nat}{p:κ×Rat}(hn:(l.map (·.1)).Nodup)(hi:l[i]?=some p):p.1∉(l.take i).map (·.1):=by
 intro hm;obtain ⟨q,hq,e⟩:=List.mem_map.1 hm;obtain ⟨j,hj,rfl⟩:=List.mem_iff_getElem.1 hq;have hji:j < i:=by simp at hj; omega
 obtain ⟨hil,rfl⟩:=List.getElem?_eq_some_iff.1 hi;rw [List.getElem_take] at e;have:=List.pairwise_iff_getElem.1 hn j i (by simp; omega) (by simpa using hil) hji;simp only [List.getElem_map] at this;exact this e
end
theorem E9.snoc {κ:Type}[DecidableEq κ]{enc:κ→Value}{u:PH}{o o':Obj}{T:List (κ×Rat)}{p:κ×Rat}{x:Value}{l:List (κ×Value)}{N:Nat}(ho:Ec enc o l)(h2:∀ y∈l,Av u y.2 (Bi y.1 T)∧(true=true→Bi y.1 T≠0)∧Sz (Bi y.1 T) 12)(h3:∀ k,k∉l.map (·.1)→Bi k T=0)(h4:l.length≤N)
  (h':Ec enc o' (H5 p.1 x l)) (hx:Av u x p.2) (hp:p.1∉T.map (·.1)) (h0:p.2≠0) (hs:SB p.2):E9 enc Av true u o' (fun k=>Bi k (T++[p])) (N+1) 12:=by
 obtain ⟨a,q⟩:=p;rw [Ze hp];exact E9.put (f:=fun k=>Bi k T) ho h2 h3 h4 h' hx (fun _=>h0) hs.sz (Nat.le_refl _)
abbrev zvL:List SV:=[.v (.bool false),.v (.slice none 0 0),.v (.bool false),.v (.slice none 0 0),.v (.map none),.v (.map none)]
theorem of0 {u:PH}{F:CF}{K:Nat}{v:Value}(hv:H7 u v F K)(sF:CFS F)(hK:K≤1000000) :
  Ai prog 75 [v] u PH.mt fun v' u' m'=>Ak4 m' u' v' F K:=by
 obtain ⟨T,Q,a1,c1,a2,c2,rfl,hT,hQ,cT,cQ,kT,kQ⟩:=hv;have ndT:=cT.srt.nodup Dp;have ndQ:=cQ.srt.nodup Anq;refine Ai.o func75 ?_;refine G.callO _ _ (by kernel_rfl) call158 (Apb (n:=0) (by omega) (by omega)) ?_;rintro v1 u1 m1 l1 r1 _;rw [C2];obtain ⟨b,a,n,c,b',a',n',c',g1,g2,o1,o2,rfl,h1,hne,rfl,h4,h5⟩:=r1;refine G.c call77 (Iy (SB.tx sF.c)) ?_;intro v2 u2 l2 r2;obtain ⟨b2,x2,n2,d2,b2',x2',n2',d2',rfl⟩:=r2.opn;refine G.l (ι:=Nat) (fun i=>[(1,.p 0 0),(2,.p 1 0),(3,.p 1001 0),(14,.v (.slice a1 T.length c1)),(15,.v (.int .i64 (T.length:Int))),(16,.v (.int .i64 (i:Int)))])
  (fun _=>[(0,⟨37,[.v (.string (mkS (Af F.c))),.v (.slice a1 T.length c1),.v (.slice a2 Q.length c2)]⟩),(1,⟨120,zvL⟩),(1001,⟨120,[.v (.bool b2),.v (.slice x2 n2 d2),.v (.bool b2'),.v (.slice x2' n2' d2'),.v (.map (some g1)),.v (.map (some g2))]⟩)])
  (fun i u' m'=>i≤T.length∧m' g2=some o2∧∃ o1',m' g1=some o1'∧E9 An Av true u' o1' (fun k=>Bi k (T.take i)) i 12)
  (fun i=>T.length - i) 0
  ⟨by omega,Ac _ _ _,o1,by rw [Ad _ _ hne,Ac],(h4.mf l2).congr fun k=>by simp [Bi]⟩ ?_
 rintro J i hJ u3 m3 l3 ⟨hi,hg2,o1',hg1,hR⟩;by_cases hlt:i < T.length
 ·refine G.lT (i:Int) (T.length:Int) ?_;have hTi:T[i]?=some T[i]:=List.getElem?_eq_getElem hlt;obtain ⟨ba,oa,rfl,ea⟩:=Ab.at' (hT.mono ((l1.trans l2).trans l3)) (j:=i) (e:=A5 T[i]) (by simp [hTi]);obtain ⟨hval,h0⟩:=cT.val _ (List.getElem_mem hlt);have hs:SB T[i].2:=by rw [hval]; exact sF.s _
  refine G.a ba oa T.length c1 i 3 (by omega) ?_;refine G.lU (some 3) ba (oa+i*3) (.agg #[.int .i64 T[i].1.1,.string (mkS T[i].1.2),.string (mkS (Af T[i].2))]) ea ?_;refine G.c call77 (Iy hs.tx) ?_;intro v4 u4 l4 r4;obtain ⟨b4,x4,n4,d4,b4',x4',n4',d4',rfl⟩:=r4.opn;obtain ⟨l,ho,q2,q3,q4⟩:=(hR.mf l4).at;refine G.mapPut (et:=116) Bt g1 o1' l T[i].1 (.agg #[.bool b4,.slice x4 n4 d4,.bool b4',.slice x4' n4' d4']) (by kernel_rfl) (by kernel_rfl) hg1 ho ?_;intro o' ho';refine G.i i ?_;refine G.b (hJ (i+1) _ _ _ cv (l3.trans l4) ⟨by omega,by rw [Ad _ _ (Ne.symm hne)]; exact hg2,o',Ac _ _ _,?_⟩ (by omega));rw [List.take_add_one,hTi];exact E9.snoc ho q2 q3 q4 ho' r4 (Ym ndT hTi) h0 hs
 obtain rfl:i=T.length:=by omega
 refine G.lF (T.length:Int) (T.length:Int) ?_;have hR':E9 An Av true u3 o1' F.s T.length 12:=by
  rw [List.take_length] at hR;exact hR.congr (cT.fn Dp)
 refine G.l (ι:=Nat) (fun i=>[(2,.p 1 0),(3,.p 1001 0),(29,.v (.slice a2 Q.length c2)),(30,.v (.int .i64 (Q.length:Int))),(31,.v (.int .i64 (i:Int)))])
  (fun _=>[(1,⟨120,zvL⟩),(1001,⟨120,[.v (.bool b2),.v (.slice x2 n2 d2),.v (.bool b2'),.v (.slice x2' n2' d2'),.v (.map (some g1)),.v (.map (some g2))]⟩)])
  (fun i u' m'=>i≤Q.length∧m' g1=some o1'∧∃ o2',m' g2=some o2'∧E9 prV Av true u' o2' (fun k=>Bi k (Q.take i)) i 12)
  (fun i=>Q.length - i) 0
  ⟨by omega,hg1,o2,hg2,(h5.mf (l2.trans l3)).congr fun k=>by simp [Bi]⟩ ?_
 rintro J2 i hJ2 u5 m5 l5 ⟨hi2,hg15,o2',hg25,hR2⟩;by_cases hlt:i < Q.length
 ·refine G.lT (i:Int) (Q.length:Int) ?_;have hQi:Q[i]?=some Q[i]:=List.getElem?_eq_getElem hlt;obtain ⟨ba,oa,rfl,ea⟩:=Ab.at' (hQ.mono (((l1.trans l2).trans l3).trans l5)) (j:=i) (e:=Da Q[i]) (by simp [hQi]);obtain ⟨hval,h0⟩:=cQ.val _ (List.getElem_mem hlt);have hs:SB Q[i].2:=by rw [hval]; exact sF.t _
  refine G.a ba oa Q.length c2 i 5 (by omega) ?_;refine G.lU (some 5) ba (oa+i*5) (.agg #[.int .i64 Q[i].1.1.1,.string (mkS Q[i].1.1.2),.int .i64 Q[i].1.2.1,.string (mkS Q[i].1.2.2),.string (mkS (Af Q[i].2))]) ea ?_;refine G.c call77 (Iy hs.tx) ?_;intro v4 u4 l4 r4;obtain ⟨b4,x4,n4,d4,b4',x4',n4',d4',rfl⟩:=r4.opn;obtain ⟨l,ho,q2,q3,q4⟩:=(hR2.mf l4).at;refine G.mapPut (et:=116) Aiy g2 o2' l Q[i].1 (.agg #[.bool b4,.slice x4 n4 d4,.bool b4',.slice x4' n4' d4']) (by kernel_rfl) (by kernel_rfl) hg25 ho ?_;intro o' ho';refine G.i i ?_;refine G.b (hJ2 (i+1) _ _ _ cv (l5.trans l4) ⟨by omega,by rw [Ad _ _ hne]; exact hg15,o',Ac _ _ _,?_⟩ (by omega));rw [List.take_add_one,hQi];exact E9.snoc ho q2 q3 q4 ho' r4 (Ym ndQ hQi) h0 hs
 obtain rfl:i=Q.length:=by omega
 refine G.lF (Q.length:Int) (Q.length:Int) ?_;have hR2':E9 prV Av true u5 o2' F.t Q.length 12:=by
  rw [List.take_length] at hR2;exact hR2.congr (cQ.fn Anq)
 refine G.drop ((PH.mt.upd g1 o1').upd g2 o2') (by kernel_rfl) (fun g o hg=>?_) ?_
 ·by_cases e:g=g2
  ·subst e; rw [Ac] at hg; cases hg; exact hg25
  ·rw [Ad _ _ e] at hg;by_cases e:g=g1
   ·subst e; rw [Ac] at hg; cases hg; exact hg15
   ·rw [Ad _ _ e] at hg; cases hg
 exact G.r (.agg #[.bool b2,.slice x2 n2 d2,.bool b2',.slice x2' n2' d2',.map (some g1),.map (some g2)]) ⟨b2,x2,n2,d2,b2',x2',n2',d2',g1,g2,o1',o2',rfl,r2.mono (l3.trans l5),hne,rfl,(hR'.mf l5).up kT (Nat.le_refl _),hR2'.up kQ (Nat.le_refl _)⟩
end
section
open Go.RowKit Go.MapKept Go.Shelf
section
variable {F:Fence} {n:Nat} {P:Program} [Ba P] {w:World} {ops:Array Oper} {rest:List Oper} {o:Oper} {a:Act} {Q:Exit→Act→World→Prop}
end
end
section
open Go.RowKit Go.MapKept Go.Shelf
end
section
open Go.RowKit Go.MapKept Go.Shelf
end
section
open Go.RowKit Go.MapKept Go.Shelf
abbrev Bu (p:Par):List Value:=[.int .i64 p.1,.string (mkS p.2)]
end
section
open Go.RowKit Go.MapKept Go.Shelf
end
end Go.Proofs.YtanfagpabkdmiaaGreatDoor
section
namespace Go.Proofs
open Go.Shelf
def Tryz.sortPar_ren:Go.Shelf.Ren:=⟨fun | 6=>189 | 15=>243 | 14=>242 | 28=>285 | 29=>286 | 20=>277 | 21=>278 | 22=>279 | 23=>280 | 24=>281 | 25=>282 | 26=>283 | 27=>284 | 46=>320 | 47=>321 | 48=>322 | 49=>323 | 50=>324 | 57=>337 | n=>n,fun | 22=>38 | 24=>79 | 25=>256 | 3=>3 | 39=>296 | 0=>0 | 53=>328 | 55=>266 | 4=>4 | 46=>322 | 45=>321 | 50=>269 | 5=>5 | 9=>9 | 66=>357 | 70=>360 | 76=>373 | 77=>374 | n=>n,fun | n=>n⟩
theorem Tryz.sortPar:Go.Proofs.SlLaysF0.n6 Tryz.prog Tryz.sortPar_ren:={
 mixed:=by kernel_rfl
 f6:=⟨Tryz.f189.name,by decide,Tryz.func189.trans (congrArg some (by kernel_rfl))⟩
 f14:=⟨Tryz.f242.name,by decide,Tryz.func242.trans (congrArg some (by kernel_rfl))⟩
 f15:=Tryz.func243.trans (congrArg some (by kernel_rfl))
 f20:=⟨Tryz.f277.name,by decide,Tryz.func277.trans (congrArg some (by kernel_rfl))⟩
 f21:=⟨Tryz.f278.name,by decide,Tryz.func278.trans (congrArg some (by kernel_rfl))⟩
 f22:=⟨Tryz.f279.name,by decide,Tryz.func279.trans (congrArg some (by kernel_rfl))⟩
 f23:=⟨Tryz.f280.name,by decide,Tryz.func280.trans (congrArg some (by kernel_rfl))⟩
 f24:=⟨Tryz.f281.name,by decide,Tryz.func281.trans (congrArg some (by kernel_rfl))⟩
 f25:=⟨Tryz.f282.name,by decide,Tryz.func282.trans (congrArg some (by kernel_rfl))⟩
 f26:=⟨Tryz.f283.name,by decide,Tryz.func283.trans (congrArg some (by kernel_rfl))⟩
 f27:=⟨Tryz.f284.name,by decide,Tryz.func284.trans (congrArg some (by kernel_rfl))⟩
 f28:=Tryz.func285.trans (congrArg some (by kernel_rfl))
 f29:=Tryz.func286.trans (congrArg some (by kernel_rfl))
 f46:=⟨Tryz.f320.name,by decide,Tryz.func320.trans (congrArg some (by kernel_rfl))⟩
 f47:=Tryz.func321.trans (congrArg some (by kernel_rfl))
 f48:=Tryz.func322.trans (congrArg some (by kernel_rfl))
 f49:=⟨Tryz.f323.name,by decide,Tryz.func323.trans (congrArg some (by kernel_rfl))⟩
 f50:=⟨Tryz.f324.name,by decide,Tryz.func324.trans (congrArg some (by kernel_rfl))⟩
 f57:=⟨Tryz.f337.name,by decide,Tryz.func337.trans (congrArg some (by kernel_rfl))⟩
 t0:=Tryz.underlying0
 a0:=Tryz.isAgg0
 z0:=Tryz.sizeOf0
 v0:=Tryz.zeroValue0
 t3:=Tryz.underlying3
 a3:=Tryz.isAgg3
 z3:=Tryz.sizeOf3
 v3:=Tryz.zeroValue3
 t4:=Tryz.underlying4
 a4:=Tryz.isAgg4
 z4:=Tryz.sizeOf4
 v4:=Tryz.zeroValue4
 t5:=Tryz.underlying5
 a5:=Tryz.isAgg5
 z5:=Tryz.sizeOf5
 v5:=Tryz.zeroValue5
 t9:=Tryz.underlying9
 a9:=Tryz.isAgg9
 z9:=Tryz.sizeOf9
 v9:=Tryz.zeroValue9
 t22:=Tryz.underlying38
 a22:=Tryz.isAgg38
 z22:=Tryz.sizeOf38
 v22:=Tryz.zeroValue38
 t25:=Tryz.underlying256
 a25:=Tryz.isAgg256
 z25:=Tryz.sizeOf256
 v25:=Tryz.zeroValue256
 t39:=Tryz.underlying296
 a39:=Tryz.isAgg296
 z39:=Tryz.sizeOf296
 v39:=Tryz.zeroValue296
 t45:=Tryz.underlying321
 a45:=Tryz.isAgg321
 z45:=Tryz.sizeOf321
 v45:=Tryz.zeroValue321
 t46:=Tryz.underlying322
 a46:=Tryz.isAgg322
 z46:=Tryz.sizeOf322
 v46:=Tryz.zeroValue322
 t50:=Tryz.underlying269
 a50:=Tryz.isAgg269
 z50:=Tryz.sizeOf269
 v50:=Tryz.zeroValue269
 t53:=Tryz.underlying328
 a53:=Tryz.isAgg328
 z53:=Tryz.sizeOf328
 v53:=Tryz.zeroValue328
 t55:=Tryz.underlying266
 a55:=Tryz.isAgg266
 z55:=Tryz.sizeOf266
 v55:=Tryz.zeroValue266
 t66:=Tryz.underlying357
 a66:=Tryz.isAgg357
 z66:=Tryz.sizeOf357
 v66:=Tryz.zeroValue357
 t70:=Tryz.underlying360
 a70:=Tryz.isAgg360
 z70:=Tryz.sizeOf360
 v70:=Tryz.zeroValue360
 t76:=Tryz.underlying373
 a76:=Tryz.isAgg373
 z76:=Tryz.sizeOf373
 v76:=Tryz.zeroValue373
 t77:=Tryz.underlying374
 a77:=Tryz.isAgg374
 z77:=Tryz.sizeOf374
 v77:=Tryz.zeroValue374 }
end Go.Proofs
end
namespace Go.Proofs.YtanfagpabkdmiaaGreatDoor
open Go.Proofs.Tryz
section
open Go.RowKit Go.Sort
def Aos (w:World):PH:=fun g=>w.heap[g]?
theorem Apd (w:World):Bx (Aos w) PH.mt w:=⟨fun _ _ h=>h,Eb.mt w,fun _=>.inr rfl,fun _ _ _ _ _ _ h _=>h⟩
@[reducible] def Cc.yes:Cc:=⟨True⟩
theorem Z6 [Fl:Cc](hF:Fl.on){w w':World}{u':PH}(h:Bz (Aos w) PH.mt w u' PH.mt w'):∃ n os,w'=grow (w.drewN n) os:=by
 have hd:=h.dr hF;refine ⟨w'.drawn - w.drawn,w'.heap.extract w.heap.size w'.heap.size,?_⟩;obtain ⟨hp,tp,dr,os,out⟩:=w;obtain ⟨hp',tp',dr',os',out'⟩:=w';have h1:=hd.tape;have h2:=hd.dr;have h3:=h.io.1;have h4:=h.io.2;have h5:=h.sz;have h6:=fun g hg=>h.old g hg rfl;simp only at h1 h2 h3 h4 h5 h6;subst h1 h3 h4;unfold grow World.drewN;simp only [World.mk.injEq,and_true,true_and];refine ⟨?_,by omega⟩;apply Array.ext_getElem?;intro i;by_cases hi:i < hp.size
 ·rw [Array.getElem?_append_left hi]; exact h6 i hi
 ·rw [Array.getElem?_append_right (by omega),Array.getElem?_extract];by_cases hi':i < hp'.size
  ·rw [if_pos (by omega)]; congr 1; omega
  ·rw [if_neg (by omega),Array.getElem?_eq_none (by omega)]
theorem Fn0.exact [Fl:Cc](hF:Fl.on){P:Program}{f:FuncId}{args:List Value}{r:Value}(h:∀ u,Fn0 P f args u (fun v _=>v=r))(w:World):Calls P f args.toArray w fun e w'=>e=.returned r∧∃ n os,w'=grow (w.drewN n) os:=by
 refine Calls.mono (h (Aos w) w (Apd w)) fun e w' he=>?_;obtain ⟨v,u',m',e1,_,e3,e4,e5⟩:=he;subst e4 e5;exact ⟨e1,Z6 hF e3⟩
theorem Abb (blk off size:Nat)(w:World):Go.Proofs.CmpLays prog 190 #[] (fun p:Par=>[.int .i64 p.1,.string (mkS p.2)]) 2 A8 blk off size w :=
 fun m os dk _ x y=>@Fn0.exact Cc.yes trivial _ _ _ _ (fun u=>@Tw Cc.yes u x y) _
end
section
open Go.RowKit Go.Sort
section
variable {κ:Type} {c:κ→κ→Int}
theorem Ord.swo (h:Ord c):SWO (ltOf c) where
 irrefl x:=by simp [ltOf,h.irr x]
 trans x y z h1 h2:=by
  simp only [ltOf,decide_eq_true_eq] at *
  exact h.trans x y z h1 h2
 ntrans x y z h1 h2:=by
  simp only [ltOf,decide_eq_false_iff_not] at *
  intro h3;rcases Int.lt_trichotomy (c x y) 0 with e | e | e
  ·exact h1 e
  ·rw [h.eq x y e] at h3; exact h2 h3
  ·exact h2 (h.trans y x z ((h.sym y x).2 e) h3)
theorem Ord.tot (h:Ord c)(x y:κ)(h1:ltOf c x y=false)(h2:ltOf c y x=false):x=y:=by
 simp only [ltOf,decide_eq_false_iff_not] at *
 rcases Int.lt_trichotomy (c x y) 0 with e | e | e
 ·exact absurd e h1
 ·exact h.eq x y e
 ·exact absurd ((h.sym y x).2 e) h2
def Dw (c:κ→κ→Int)(l:List κ):List κ:=l.mergeSort fun x y=>!(ltOf c) y x
theorem Gx (l:List κ):(Dw c l).Perm l:=List.mergeSort_perm _ _
theorem P6 (h:Ord c){l:List κ}(hn:l.Nodup):Ef c (Dw c l):=by
 have h1:(Dw c l).Pairwise fun a b=>(!(ltOf c) b a)=true:=by
  refine List.pairwise_mergeSort (fun a b d h1 h2=>?_) (fun a b=>?_) l
  ·simp only [Bool.not_eq_true'] at h1 h2 ⊢;exact h.swo.ntrans d b a h2 h1
  ·simp only [Bool.or_eq_true,Bool.not_eq_true'];cases e:ltOf c b a with
   | false=>exact .inl rfl
   | true =>
    right;simp only [ltOf,decide_eq_true_eq,decide_eq_false_iff_not] at *
    have:=(h.sym b a).1 e;omega
 have h2:(Dw c l).Nodup:=(Gx l).nodup_iff.2 hn;refine (h1.and h2).imp fun {a b} ⟨e1,e2⟩=>?_;simp only [Bool.not_eq_true',ltOf,decide_eq_false_iff_not] at e1;rcases Int.lt_trichotomy (c a b) 0 with e | e | e
 ·exact e
 ·exact absurd (h.eq a b e) e2
 ·exact absurd ((h.sym b a).2 e) e1
end
section
variable {κ:Type} [Inhabited κ] {enc:κ→List Value} {k:Nat}
theorem M7 (hk:∀ x,(enc x).length=k):∀ (ss:List κ) (t:Nat),t < ss.length*k→(ss.flatMap enc)[t]?=some ((enc ss.toArray[t / k]!)[t % k]!)
 | [],t,h=>by simp at h
 | x::ss,t,h=>by
  have hk0:0 < k:=by
   rcases Nat.eq_zero_or_pos k with h0 | h0
   ·rw [h0] at h; simp at h
   ·exact h0
  rw [List.flatMap_cons];by_cases ht:t < k
  ·rw [List.getElem?_append_left (by rw [hk]; exact ht),Nat.div_eq_of_lt ht,Nat.mod_eq_of_lt ht];have:t < (enc x).length:=by rw [hk]; exact ht
   simp [getElem!_pos,this]
  ·rw [List.getElem?_append_right (by rw [hk]; omega),hk,M7 hk ss (t - k) (by simp only [List.length_cons,Nat.add_mul] at h; omega)];have e1:t / k=(t - k) / k+1:=by rw [Nat.div_eq_sub_div hk0 (by omega)]
   have e2:t % k=(t - k) % k:=Nat.mod_eq_sub_mod (by omega);rw [e1,e2];simp
theorem Afx (hk:∀ x,(enc x).length=k){W:World}{gb:Nat}{e:TypeId}{cur:Array Value}{ss:List κ}(hgb:W.heap[gb]?=some (.cells cur e (0,0)))(hcur:cur.toList.take (ss.length*k)=ss.flatMap enc):HoldsK enc k W gb 0 ss.toArray:=by
 intro t ht;rw [size_flatK] at ht;have ht':t < ss.length*k:=by simpa using ht
 have h1:cur[t]?=some ((flatK enc k ss.toArray)[t]!):=by
  rw [get_flatK enc k _ t ht,← M7 hk ss t ht',← hcur,List.getElem?_take,if_pos ht',Array.getElem?_toList]
 constructor
 ·simp [World.cell?,hgb,h1]
 ·simp [World.frozen?,hgb]
end
end
section
open Go.RowKit Go.MapKept Go.Shelf Go.Sort
theorem J8 (x:Par):(Bu x).length=2:=rfl
def Kh (P:Program)(st:List KI×S):List KI×S:=match one P (Fn P 200 st).1 (Fn P 200 st).2 with | some st'=>st' | none=>st
section
variable {P:Program} [Ba P] {fn:Func} {Post:B0} {st:List KI×S} {u m:PH}
theorem G.pastI (h:G P fn Post (Kh P st) u m):G P fn Post st u m:=by
 unfold Kh at h;split at h
 ·rename_i st' he;exact ⟨Nf 200 st (L1 Ba.mx he h.out)⟩
 ·exact h
theorem Fn0.weak {f:FuncId}{args:List Value}{R R':Value→PH→Prop}(h:Fn0 P f args u R)(hr:∀ v u',R v u'→R' v u'):Fn0 P f args u R':=fun w hg=>Calls.mono (h w hg) fun e w' ⟨v,u',m',e1,e2,e3,e4,e5⟩=>⟨v,u',m',e1,e2,e3,e4,hr _ _ e5⟩
end
end
section
open Go.RowKit Go.MapKept Go.Shelf Go.Sort
end
section
open Go.RowKit Go.MapKept
theorem Ae.le {m0 m:PH}{v:Value}{t:TypeId}{sz:Nat}{es:List Value}(h:Ae m0 m v t sz es):PH.le m0 m:=by
 rcases h.2 with ⟨_,_,rfl⟩ | ⟨g,cap,rest,hg0,rfl,_⟩
 ·exact PH.le_refl _
 ·exact Jw _ hg0
theorem Ot (p:Par×Rat):A3 3 [A5 p]:=fun e he=>by
 simp at he; subst he;exact ⟨rfl,fun y hy=>by simp [A5,Value.cells] at hy; rcases hy with rfl | rfl | rfl <;> rfl⟩
theorem Aei (p:(Par×Par)×Rat):A3 5 [Da p]:=fun e he=>by
 simp at he; subst he;exact ⟨rfl,fun y hy=>by simp [Da,Value.cells] at hy; rcases hy with rfl | rfl | rfl | rfl | rfl <;> rfl⟩
end
section
open Go.RowKit Go.MapKept
variable {i:Nat}{q:Rat}{s:List UInt8}{u:PH}{x:Par×Rat}
theorem Rh (h:q≠0):Af q≠[48]:=by
 intro e;unfold Af at e;split at e
 ·have:=Gv (e.trans Dt.symm);exact h (Rat.num_eq_zero.1 this)
 ·have:(47:UInt8)∈Lib.itoa q.num++47::Lib.itoa (q.den:Int):=by simp
  rw [e] at this;simp at this
theorem U5 (p q:Par)(r:Bool)(h:decide (A8 p q < 0)=r):Fn0 prog 206 [An p,An q] u fun v _=>v=.bool r:=by
 refine Fn0.o func206 ?_;refine G.c call190 (Tw p q) ?_;rintro v1 u1 l1 rfl;cases r with
 | true =>
  refine G.lT' (A8 p q) 0 (of_decide_eq_true h) ?_;exact G.r (.bool true) ⟨rfl,rfl⟩
 | false =>
  refine G.lF' (A8 p q) 0 (of_decide_eq_false h) ?_;exact G.r (.bool false) ⟨rfl,rfl⟩
theorem Ahr (h:Tx q)(h0:q≠0):Fn0 prog 234 [.string (mkS (Af q))] u fun v _=>v=.bool true:=by
 refine Fn0.o func234 ?_;refine G.c call154 (Jl h) ?_;rintro v1 u1 l1 rfl;refine G.x (Af q) [48] (Rh h0) ?_;exact G.r (.bool true) ⟨rfl,rfl⟩
theorem Ux (h:Gw s=true):1≤s.length∧s.length≤12:=by
 unfold Gw at h;split at h
 ·cases h
 ·simp only [Bool.and_eq_true,decide_eq_true_eq] at h;exact ⟨by simp,h.2⟩
theorem Rj (h:Gw s=true){c:UInt8}(hi:s[i]?=some c):(97≤c.toNat∧c.toNat≤122)∨(i≠0∧(c.toNat=45∨(48≤c.toNat∧c.toNat≤57))):=by
 unfold Gw at h;split at h
 ·cases h
 ·rename_i d l;simp only [Bool.and_eq_true,decide_eq_true_eq,List.all_eq_true,Ang,Bool.or_eq_true] at h;obtain ⟨⟨h1,h2⟩,_⟩:=h
  match i,hi with
  | 0,hi=>simp at hi; subst hi; exact .inl h1
  | i+1,hi =>
   simp at hi;rcases h2 c (List.mem_of_getElem? hi) with h | h
   ·exact .inl h
   ·exact .inr ⟨by omega,h⟩
theorem Ajx (h:Gw s=true):Fn0 prog 208 [.string (mkS s)] u fun v _=>v=.bool true:=by
 obtain ⟨hl1,hl2⟩:=Ux h;refine Fn0.o func208 ?_;refine G.convSB (some .string) 5 s (by kernel_rfl) (by kernel_rfl) (by kernel_rfl) ?_;intro v1 u1 l1 hb;obtain ⟨a,c,rfl⟩:=Ab.opn hb;rw [Aw] at hb ⊢;refine G.l (ι:=Nat) (fun i=>[(0,.v (.string (mkS s))),(7,.v (.slice a s.length c)),(8,.v (.int .i64 (s.length:Int))),(9,.v (.int .i64 (i:Int)))]) (fun _=>[])
  (fun i u' m'=>i≤s.length∧m'=PH.mt) (fun i=>s.length - i) 0 ⟨by omega,rfl⟩ ?_
 rintro J i hJ u2 m2 l2 ⟨hi,rfl⟩;by_cases hlt:i < s.length
 ·refine G.lT (i:Int) (s.length:Int) ?_;have hsi:s[i]?=some s[i]:=List.getElem?_eq_getElem hlt;obtain ⟨b,off,rfl,e⟩:=Ab.at' (hb.mono l2) (j:=i) (e:=.int .u8 (s[i].toNat:Int)) (by simp [Bc,hsi]);have hw:=Rj h hsi;generalize s[i].toNat=n at e hw;refine G.a b off s.length c i 1 hlt ?_;refine G.lU none b (off+i*1) (.int .u8 (n:Int)) e ?_;by_cases hle:97≤n∧n≤122
  ·refine G.cmpG .geq .u8 (n:Int) 97 true (by kernel_rfl) rfl (by simp [B4]; omega) ?_;refine G.cmpG .leq .u8 (n:Int) 122 true (by kernel_rfl) rfl (by simp [B4]; omega) ?_;refine G.i i ?_;exact G.b (hJ (i+1) _ _ _ cv l2 ⟨by omega,rfl⟩ (by omega))
  ·obtain ⟨hi0,hd⟩:=hw.resolve_left hle;by_cases h97:97≤n
   ·refine G.cmpG .geq .u8 (n:Int) 97 true (by kernel_rfl) rfl (by simp [B4]; omega) ?_;refine G.cmpG .leq .u8 (n:Int) 122 false (by kernel_rfl) rfl (by simp [B4]; omega) ?_;refine G.eF (i:Int) 0 ?_;by_cases h45:n=45
    ·refine G.cmpG .neq .u8 (n:Int) 45 false (by kernel_rfl) rfl (by simp [B4]; omega) ?_;refine G.i i ?_;exact G.b (hJ (i+1) _ _ _ cv l2 ⟨by omega,rfl⟩ (by omega))
    ·refine G.cmpG .neq .u8 (n:Int) 45 true (by kernel_rfl) rfl (by simp [B4]; omega) ?_;refine G.cmpG .lss .u8 (n:Int) 48 false (by kernel_rfl) rfl (by simp [B4]; omega) ?_;refine G.cmpG .gtr .u8 (n:Int) 57 false (by kernel_rfl) rfl (by simp [B4]; omega) ?_;refine G.i i ?_;exact G.b (hJ (i+1) _ _ _ cv l2 ⟨by omega,rfl⟩ (by omega))
   ·refine G.cmpG .geq .u8 (n:Int) 97 false (by kernel_rfl) rfl (by simp [B4]; omega) ?_;refine G.eF (i:Int) 0 ?_;by_cases h45:n=45
    ·refine G.cmpG .neq .u8 (n:Int) 45 false (by kernel_rfl) rfl (by simp [B4]; omega) ?_;refine G.i i ?_;exact G.b (hJ (i+1) _ _ _ cv l2 ⟨by omega,rfl⟩ (by omega))
    ·refine G.cmpG .neq .u8 (n:Int) 45 true (by kernel_rfl) rfl (by simp [B4]; omega) ?_;refine G.cmpG .lss .u8 (n:Int) 48 false (by kernel_rfl) rfl (by simp [B4]; omega) ?_;refine G.cmpG .gtr .u8 (n:Int) 57 false (by kernel_rfl) rfl (by simp [B4]; omega) ?_;refine G.i i ?_;exact G.b (hJ (i+1) _ _ _ cv l2 ⟨by omega,rfl⟩ (by omega))
 ·obtain rfl:i=s.length:=by omega
  refine G.lF (s.length:Int) (s.length:Int) ?_;have hq:∀ x:Int,x=(s.length:Int)→1≤x∧x≤12:=fun x hx=>by omega
  refine G.hT (s.length:Int) 1 ?_;refine G.kT (s.length:Int) 12 ?_;exact G.r (.bool true) ⟨rfl,rfl⟩
theorem Aay {p:Par}(h:PV p):Fn0 prog 233 [An p] u fun v _=>v=.bool true:=by
 refine Fn0.o func233 ?_;refine G.hT' p.1 (-1) (by have:=h.lo; omega) ?_;by_cases hc:p.2 = []
 ·refine G.q p.2 [] hc ?_;exact G.r (.bool true) ⟨rfl,rfl⟩
 ·refine G.w p.2 [] hc ?_;refine G.c call208 (Ajx (h.cat.resolve_left hc)) ?_;rintro v1 u1 l1 rfl;exact G.r (.bool true) ⟨rfl,rfl⟩
theorem Aqd (h:PV x.1)(hx:Tx x.2)(h0:x.2≠0):Fn0 prog 232 [A5 x] u fun v _=>v=.bool false:=by
 refine Fn0.o func232 ?_;refine G.c call233 (Aay h) ?_;rintro v1 u1 l1 rfl;refine G.c call234 (Ahr hx h0) ?_;rintro v2 u2 l2 rfl;exact G.r (.bool false) ⟨rfl,rfl⟩
theorem Ap5 {x:(Par×Par)×Rat}(h:PV x.1.1)(h':PV x.1.2)(ho:¬ 0 < A8 x.1.1 x.1.2)(hx:Tx x.2)(h0:x.2≠0):Fn0 prog 236 [Da x] u fun v _=>v=.bool false:=by
 refine Fn0.o func236 ?_;refine G.c call233 (Aay h) ?_;rintro v1 u1 l1 rfl;refine G.c call233 (Aay h') ?_;rintro v2 u2 l2 rfl;refine G.c call206 (U5 x.1.2 x.1.1 false (decide_eq_false fun e=>ho ((Dp.sym _ _).1 e))) ?_;rintro v3 u3 l3 rfl;refine G.c call234 (Ahr hx h0) ?_;rintro v4 u4 l4 rfl;exact G.r (.bool false) ⟨rfl,rfl⟩
theorem Aod {x y:Par×Rat}(h:A8 x.1 y.1 < 0):Fn0 prog 238 [A5 x,A5 y] u fun v _=>v=.bool true:=by
 refine Fn0.o func238 ?_;refine G.c call206 (U5 x.1 y.1 true (decide_eq_true h)) ?_;rintro v1 u1 l1 rfl;exact G.r (.bool true) ⟨rfl,rfl⟩
theorem Aog {x y:(Par×Par)×Rat}(h:Lg x.1 y.1 < 0):Fn0 prog 240 [Da x,Da y] u fun v _=>v=.bool true:=by
 refine Fn0.o func240 ?_;by_cases h1:A8 x.1.1 y.1.1 < 0
 ·refine G.c call206 (U5 x.1.1 y.1.1 true (decide_eq_true h1)) ?_;rintro v1 u1 l1 rfl;exact G.r (.bool true) ⟨rfl,rfl⟩
 ·have h2:A8 x.1.1 y.1.1=0∧A8 x.1.2 y.1.2 < 0:=by
   unfold Lg at h;split at h
   ·exact absurd h h1
   ·rename_i e; exact ⟨by simpa using e,h⟩
  have he:=Dp.eq _ _ h2.1;refine G.c call206 (U5 x.1.1 y.1.1 false (decide_eq_false h1)) ?_;rintro v1 u1 l1 rfl;refine G.eqAgg 79 #[.int .i64 x.1.1.1,.string (mkS x.1.1.2)] #[.int .i64 y.1.1.1,.string (mkS y.1.1.2)] true (by kernel_rfl) (by kernel_rfl) (by kernel_rfl) (fun w=>by rw [← decide_eq_true he]; exact Bt.eq x.1.1 y.1.1 w) ?_;refine G.c call206 (U5 x.1.2 y.1.2 true (decide_eq_true h2.2)) ?_;rintro v2 u2 l2 rfl;exact G.r (.bool true) ⟨rfl,rfl⟩
theorem Al0 {u:PH}{v:Value}{T:List (Par×Rat)}{fid:Nat}(h:Ab u v 3 (T.map A5))(hl:T.length≤1000000)
  (hcall:∀ args w,(callFunc fid args).run prog w=.ok (.enter fid args) w) (hf:∀ p∈T,∀ u',PH.le u u'→Fn0 prog fid [A5 p] u' fun v _=>v=.bool false) :
  Fn0 prog 241 [v,.func (.func fid) #[] #[]] u fun v' _=>v'=.int .i64 (-1):=by
 obtain ⟨a,c,rfl⟩:=h.opn;rw [List.length_map] at h ⊢;refine Fn0.o func241 ?_;refine G.l (ι:=Nat) (fun i=>[(0,.v (.slice a T.length c)),(1,.v (.func (.func fid) #[] #[])),(7,.v (.int .i64 (T.length:Int))),(8,.v (.int .i64 (i:Int)))]) (fun _=>[])
  (fun i u' m'=>i≤T.length∧m'=PH.mt) (fun i=>T.length - i) 0 ⟨by omega,rfl⟩ ?_
 rintro J i hJ u1 m1 l1 ⟨hi,rfl⟩;by_cases hlt:i < T.length
 ·refine G.lT (i:Int) (T.length:Int) ?_;have hTi:T[i]?=some T[i]:=List.getElem?_eq_getElem hlt;obtain ⟨ba,oa,rfl,ea⟩:=Ab.at' (h.mono l1) (j:=i) (e:=A5 T[i]) (by simp [hTi]);refine G.a ba oa T.length c i 3 (by omega) ?_;refine G.lU (some 3) ba (oa+i*3) (A5 T[i]) ea ?_;refine G.call0 fid [A5 T[i]] (by kernel_rfl) hcall (hf T[i] (List.getElem_mem hlt) u1 l1) ?_;rintro v2 u2 l2 rfl;refine G.i i ?_;exact G.b (hJ (i+1) _ _ _ cv (l1.trans l2) ⟨by omega,rfl⟩ (by omega))
 ·obtain rfl:i=T.length:=by omega
  refine G.lF (T.length:Int) (T.length:Int) ?_;exact G.r (.int .i64 (-1)) ⟨rfl,rfl⟩
theorem T0 {u:PH}{v:Value}{T:List (Par×Rat)}{fid:Nat}(h:Ab u v 3 (T.map A5))(hl:T.length≤1000000)
  (hcall:∀ args w,(callFunc fid args).run prog w=.ok (.enter fid args) w) (hf:∀ p∈T,∀ u',PH.le u u'→Fn0 prog fid [A5 p] u' fun v _=>v=.bool false) :
  Fn0 prog 185 [v,.func (.func fid) #[] #[]] u fun v' _=>v'=.bool false:=by
 obtain ⟨a,c,rfl⟩:=h.opn;refine Fn0.o func185 ?_;refine G.c call241 (Al0 h hl hcall hf) ?_;rintro v1 u1 l1 rfl;refine G.hF (-1) 0 ?_;exact G.r (.bool false) ⟨rfl,rfl⟩
theorem Zs {u:PH}{v:Value}{T:List (Par×Rat)}{fid:Nat}(h:Ab u v 3 (T.map A5))(hl:T.length≤1000000)
  (hcall:∀ args w,(callFunc fid args).run prog w=.ok (.enter fid args) w) (hf:∀ (i:Nat) x y,T[i]?=some x→T[i+1]?=some y→∀ u',Fn0 prog fid [A5 x,A5 y] u' fun v _=>v=.bool true) :
  Fn0 prog 237 [v,.func (.func fid) #[] #[]] u fun v' _=>v'=.bool true:=by
 obtain ⟨a,c,rfl⟩:=h.opn;rw [List.length_map] at h ⊢;refine Fn0.o func237 ?_;refine G.l (ι:=Nat) (fun i=>[(0,.v (.slice a T.length c)),(1,.v (.func (.func fid) #[] #[])),(5,.v (.int .i64 ((i+1:Nat):Int)))]) (fun _=>[])
  (fun i u' m'=>i≤T.length∧m'=PH.mt) (fun i=>T.length - i) 0 ⟨by omega,rfl⟩ ?_
 rintro J i hJ u1 m1 l1 ⟨hi,rfl⟩;by_cases hlt:i+1 < T.length
 ·refine G.lT ((i+1:Nat):Int) (T.length:Int) ?_;have hTi:T[i]?=some T[i]:=List.getElem?_eq_getElem (by omega);have hTj:T[i+1]?=some T[i+1]:=List.getElem?_eq_getElem hlt;obtain ⟨ba,oa,rfl,ea⟩:=Ab.at' (h.mono l1) (j:=i) (e:=A5 T[i]) (by simp [hTi]);obtain ⟨_,_,e',eb⟩:=Ab.at' (h.mono l1) (j:=i+1) (e:=A5 T[i+1]) (by simp [hTj]);cases e';refine G.s ((i+1:Nat):Int) 1 (i:Int) ?_;refine G.a ba oa T.length c i 3 (by omega) ?_;refine G.lU (some 3) ba (oa+i*3) (A5 T[i]) ea ?_;refine G.a ba oa T.length c (i+1) 3 (by omega) ?_;refine G.lU (some 3) ba (oa+(i+1)*3) (A5 T[i+1]) eb ?_;refine G.call0 fid [A5 T[i],A5 T[i+1]] (by kernel_rfl) hcall (hf i _ _ hTi hTj u1) ?_;rintro v2 u2 l2 rfl;refine G.p ((i+1:Nat):Int) 1 ((i+1+1:Nat):Int) ?_;exact G.b (hJ (i+1) _ _ _ cv (l1.trans l2) ⟨by omega,rfl⟩ (by omega))
 ·refine G.lF ((i+1:Nat):Int) (T.length:Int) ?_;exact G.r (.bool true) ⟨rfl,rfl⟩
theorem Akg {u:PH}{v:Value}{T:List ((Par×Par)×Rat)}{fid:Nat}(h:Ab u v 5 (T.map Da))(hl:T.length≤1000000)
  (hcall:∀ args w,(callFunc fid args).run prog w=.ok (.enter fid args) w) (hf:∀ p∈T,∀ u',PH.le u u'→Fn0 prog fid [Da p] u' fun v _=>v=.bool false) :
  Fn0 prog 276 [v,.func (.func fid) #[] #[]] u fun v' _=>v'=.int .i64 (-1):=by
 obtain ⟨a,c,rfl⟩:=h.opn;rw [List.length_map] at h ⊢;refine Fn0.o func276 ?_;refine G.l (ι:=Nat) (fun i=>[(0,.v (.slice a T.length c)),(1,.v (.func (.func fid) #[] #[])),(7,.v (.int .i64 (T.length:Int))),(8,.v (.int .i64 (i:Int)))]) (fun _=>[])
  (fun i u' m'=>i≤T.length∧m'=PH.mt) (fun i=>T.length - i) 0 ⟨by omega,rfl⟩ ?_
 rintro J i hJ u1 m1 l1 ⟨hi,rfl⟩;by_cases hlt:i < T.length
 ·refine G.lT (i:Int) (T.length:Int) ?_;have hTi:T[i]?=some T[i]:=List.getElem?_eq_getElem hlt;obtain ⟨ba,oa,rfl,ea⟩:=Ab.at' (h.mono l1) (j:=i) (e:=Da T[i]) (by simp [hTi]);refine G.a ba oa T.length c i 5 (by omega) ?_;refine G.lU (some 5) ba (oa+i*5) (Da T[i]) ea ?_;refine G.call0 fid [Da T[i]] (by kernel_rfl) hcall (hf T[i] (List.getElem_mem hlt) u1 l1) ?_;rintro v2 u2 l2 rfl;refine G.i i ?_;exact G.b (hJ (i+1) _ _ _ cv (l1.trans l2) ⟨by omega,rfl⟩ (by omega))
 ·obtain rfl:i=T.length:=by omega
  refine G.lF (T.length:Int) (T.length:Int) ?_;exact G.r (.int .i64 (-1)) ⟨rfl,rfl⟩
theorem Abi {u:PH}{v:Value}{T:List ((Par×Par)×Rat)}{fid:Nat}(h:Ab u v 5 (T.map Da))(hl:T.length≤1000000)
  (hcall:∀ args w,(callFunc fid args).run prog w=.ok (.enter fid args) w) (hf:∀ p∈T,∀ u',PH.le u u'→Fn0 prog fid [Da p] u' fun v _=>v=.bool false) :
  Fn0 prog 235 [v,.func (.func fid) #[] #[]] u fun v' _=>v'=.bool false:=by
 obtain ⟨a,c,rfl⟩:=h.opn;refine Fn0.o func235 ?_;refine G.c call276 (Akg h hl hcall hf) ?_;rintro v1 u1 l1 rfl;refine G.hF (-1) 0 ?_;exact G.r (.bool false) ⟨rfl,rfl⟩
theorem Yj {u:PH}{v:Value}{T:List ((Par×Par)×Rat)}{fid:Nat}(h:Ab u v 5 (T.map Da))(hl:T.length≤1000000)
  (hcall:∀ args w,(callFunc fid args).run prog w=.ok (.enter fid args) w) (hf:∀ (i:Nat) x y,T[i]?=some x→T[i+1]?=some y→∀ u',Fn0 prog fid [Da x,Da y] u' fun v _=>v=.bool true) :
  Fn0 prog 239 [v,.func (.func fid) #[] #[]] u fun v' _=>v'=.bool true:=by
 obtain ⟨a,c,rfl⟩:=h.opn;rw [List.length_map] at h ⊢;refine Fn0.o func239 ?_;refine G.l (ι:=Nat) (fun i=>[(0,.v (.slice a T.length c)),(1,.v (.func (.func fid) #[] #[])),(5,.v (.int .i64 ((i+1:Nat):Int)))]) (fun _=>[])
  (fun i u' m'=>i≤T.length∧m'=PH.mt) (fun i=>T.length - i) 0 ⟨by omega,rfl⟩ ?_
 rintro J i hJ u1 m1 l1 ⟨hi,rfl⟩;by_cases hlt:i+1 < T.length
 ·refine G.lT ((i+1:Nat):Int) (T.length:Int) ?_;have hTi:T[i]?=some T[i]:=List.getElem?_eq_getElem (by omega);have hTj:T[i+1]?=some T[i+1]:=List.getElem?_eq_getElem hlt;obtain ⟨ba,oa,rfl,ea⟩:=Ab.at' (h.mono l1) (j:=i) (e:=Da T[i]) (by simp [hTi]);obtain ⟨_,_,e',eb⟩:=Ab.at' (h.mono l1) (j:=i+1) (e:=Da T[i+1]) (by simp [hTj]);cases e';refine G.s ((i+1:Nat):Int) 1 (i:Int) ?_;refine G.a ba oa T.length c i 5 (by omega) ?_;refine G.lU (some 5) ba (oa+i*5) (Da T[i]) ea ?_;refine G.a ba oa T.length c (i+1) 5 (by omega) ?_;refine G.lU (some 5) ba (oa+(i+1)*5) (Da T[i+1]) eb ?_;refine G.call0 fid [Da T[i],Da T[i+1]] (by kernel_rfl) hcall (hf i _ _ hTi hTj u1) ?_;rintro v2 u2 l2 rfl;refine G.p ((i+1:Nat):Int) 1 ((i+1+1:Nat):Int) ?_;exact G.b (hJ (i+1) _ _ _ cv (l1.trans l2) ⟨by omega,rfl⟩ (by omega))
 ·refine G.lF ((i+1:Nat):Int) (T.length:Int) ?_;exact G.r (.bool true) ⟨rfl,rfl⟩
theorem U4 {κ:Type}{c:κ→κ→Int}{T:List (κ×Rat)}(h:Ef c (T.map (·.1))){x y:κ×Rat}(hx:T[i]?=some x)(hy:T[i+1]?=some y):c x.1 y.1 < 0:=by
 obtain ⟨h1,rfl⟩:=List.getElem?_eq_some_iff.1 hx;obtain ⟨h2,rfl⟩:=List.getElem?_eq_some_iff.1 hy;have:=List.pairwise_iff_getElem.1 h i (i+1) (by simpa using h1) (by simpa using h2) (by omega);simpa using this
theorem Ah4 {v:Value}{F:CF}{K:Nat}(hv:H7 u v F K)(sF:CFS F)(vF:CFV F)(hK:K≤1000000):Fn0 prog 184 [v] u fun v' _=>v'=.bool true:=by
 obtain ⟨T,Q,a1,c1,a2,c2,rfl,hT,hQ,cT,cQ,kT,kQ⟩:=hv;refine Fn0.o func184 ?_;refine G.c call154 (Jl (SB.tx sF.c)) ?_;rintro v1 u1 l1 rfl;refine G.c call185 (T0 (fid:=232) (hT.mono l1) (by omega) call232 (fun p hp u' _=>by
  obtain ⟨e1,e2⟩:=cT.val p hp;exact Aqd (vF.s _ (by rw [← e1]; exact e2)) (SB.tx (by rw [e1]; exact sF.s _)) e2)) ?_
 rintro v2 u2 l2 rfl;refine G.c call235 (Abi (fid:=236) (hQ.mono (l1.trans l2)) (by omega) call236 (fun p hp u' _=>by
  obtain ⟨e1,e2⟩:=cQ.val p hp;obtain ⟨f1,f2,f3⟩:=vF.t p.1 (by rw [← e1]; exact e2);exact Ap5 f1 f2 f3 (SB.tx (by rw [e1]; exact sF.t _)) e2)) ?_
 rintro v3 u3 l3 rfl;refine G.c call237 (Zs (fid:=238) (hT.mono ((l1.trans l2).trans l3)) (by omega) call238 (fun i x y hx hy u'=>Aod (U4 cT.srt hx hy))) ?_;rintro v4 u4 l4 rfl;refine G.c call239 (Yj (fid:=240) (hQ.mono (((l1.trans l2).trans l3).trans l4)) (by omega) call240 (fun i x y hx hy u'=>Aog (U4 cQ.srt hx hy))) ?_;rintro v5 u5 l5 rfl;exact G.r (.bool true) ⟨rfl,rfl⟩
end
section
open Go.RowKit Go.MapKept
variable {F:CF}{u:PH}{v:Value}
section
variable {P:Program}
end
def Apm (u:PH)(v:Value)(F:CF)(K:Nat):Prop:=∃ r,v=.tuple #[r,.int .i64 0]∧H7 u r F K
theorem H7.opn {K:Nat}(h:H7 u v F K):∃ a1 n1 c1 a2 n2 c2,v=.agg #[.string (mkS (Af F.c)),.slice a1 n1 c1,.slice a2 n2 c2]:=by
 obtain ⟨T,Q,a1,c1,a2,c2,rfl,_⟩:=h;exact ⟨_,_,_,_,_,_,rfl⟩
theorem S3 {N:Nat}(h:Mf u v F N):∃ b a n c b' a' n' c' g1 g2,v=.agg #[.bool b,.slice a n c,.bool b',.slice a' n' c',.map (some g1),.map (some g2)]:=by
 obtain ⟨b,a,n,c,b',a',n',c',g1,g2,o1,o2,e,_⟩:=h;exact ⟨_,_,_,_,_,_,_,_,_,_,e⟩
def CF.num (k:Rat):CF:=⟨k,fun _=>0,fun _=>0⟩
end
section
open Go.RowKit Go.MapKept
variable {b c n:Nat}{x:List UInt8}
section rules
variable [Cc] {P:Program} [Ba P] {fn:Func} {Post:B0} {st:List KI×S} {u m:PH}
def FnK (P:Program)(f:FuncId)(args:List Value)(u m:PH)(R:Value→PH→Prop):Prop:=Ai P f args u m fun v u' m'=>m'=m∧R v u'
theorem FnK.of {R:Value→PH→Prop}{f:FuncId}{args:List Value}(hf:P.funcs[f]?=some fn)(hb:fn.body.isSome=true)(hn:Nat.ble args.length fn.ntmps=true)(h:G P fn ⟨fun v u' m'=>m'=m∧R v u',m⟩ (st0 fn args) u m):FnK P f args u m R:=Ai.of hf hb hn h
theorem G.callK (f:Nat)(args:List Value){R:Value→PH→Prop}(h:Al P (adv P st)=.call f args)(hc:∀ args w,(callFunc f args).run P w=.ok (.enter f args) w)(c:FnK P f args u m R)
  (k:∀ v u',PH.le u u'→R v u'→G P fn Post (nx (adv P st) v) u' m):G P fn Post st u m:=by
 refine G.big (K:=fun v u' m'=>m'=m∧R v u') h (by simp) Fm (.inl fun v u' m' hK=>by rw [hK.1]; exact fun g o hg=>hg) (fun env o hview w hgd=>?_) (fun v u' m' h1 h2=>?_)
 ·refine Lz hview hc w _ (Calls.mono (c w hgd) fun e w' he=>?_);obtain ⟨v,u',m',e1,e2,e3,e4⟩:=he;exact ⟨v,e1,u',m',e2,e3,e4⟩
 ·obtain ⟨rfl,hR⟩:=h2; exact k v u' h1 hR
end rules
section
theorem Akl {u m:PH}(L:List (List UInt8))(hn:n≤L.length)(hl:n≤1000000)(hE:∀ j s,L[j]?=some s→ElP m b (0+j*1) (.string (mkS s)))(hx:∀ j s,j < n→L[j]?=some s→s≠x) :
  FnK prog 331 [.slice (some ⟨b,0,none⟩) n c,.string (mkS x)] u m fun v _=>v=.int .i64 (-1):=by
 refine FnK.of func331 (by kernel_rfl) (by kernel_rfl) ?_;refine G.l (ι:=Nat) (fun i=>[(0,.v (.slice (some ⟨b,0,none⟩) n c)),(1,.v (.string (mkS x))),(7,.v (.int .i64 (n:Int))),(8,.v (.int .i64 (i:Int)))]) (fun _=>[])
  (fun i u' m'=>i≤n∧m'=m) (fun i=>n - i) 0 ⟨by omega,rfl⟩ ?_
 rintro J i hJ u1 m1 l1 ⟨hi,rfl⟩;by_cases hlt:i < n
 ·refine G.lT (i:Int) (n:Int) ?_;have hTi:L[i]?=some L[i]:=List.getElem?_eq_getElem (by omega);refine G.a b 0 n c i 1 hlt ?_;refine G.lM none b (0+i*1) (.string (mkS L[i])) (hE i _ hTi) ?_;refine G.w x L[i] (fun e=>hx i _ hlt hTi e.symm) ?_;refine G.i i ?_;exact G.b (hJ (i+1) _ _ _ cv l1 ⟨by omega,rfl⟩ (by omega))
 ·obtain rfl:i=n:=by omega
  refine G.lF (i:Int) (i:Int) ?_;exact G.r (.int .i64 (-1)) ⟨rfl,rfl⟩
theorem Abd {u m:PH}(L:List (List UInt8))(hn:n≤L.length)(hl:n≤1000000)(hE:∀ j s,L[j]?=some s→ElP m b (0+j*1) (.string (mkS s)))(hx:∀ j s,j < n→L[j]?=some s→s≠x) :
  FnK prog 302 [.slice (some ⟨b,0,none⟩) n c,.string (mkS x)] u m fun v _=>v=.bool false:=by
 refine FnK.of func302 (by kernel_rfl) (by kernel_rfl) ?_;refine G.callK _ _ (by kernel_rfl) call331 (Akl (c:=c) L hn hl hE hx) ?_;rintro v1 u1 l1 rfl;refine G.hF (-1) 0 ?_;exact G.r (.bool false) ⟨rfl,rfl⟩
structure Oh (L:List (List UInt8)):Prop where
 word:∀ s∈L,Gw s=true
 nodup:L.Nodup
theorem Ah3 {u m:PH}{b k c:Nat}{L:List (List UInt8)}(h:Oh L)(hl:L.length≤1000)(hc:L.length≤c)(hk:L[k]?=some x)(hE:∀ j s,L[j]?=some s→ElP m b (0+j*1) (.string (mkS s))) :
  FnK prog 254 [.slice (some ⟨b,0,none⟩) L.length c,.int .i64 (k:Int)] u m fun v _=>v=.int .i64 0:=by
 obtain ⟨hkl,hkx⟩:=List.getElem?_eq_some_iff.1 hk;refine FnK.of func254 (by kernel_rfl) (by kernel_rfl) ?_;refine G.a b 0 L.length c k 1 hkl ?_;refine G.lM none b (0+k*1) (.string (mkS x)) (hE k x hk) ?_;refine G.c call208 (Ajx (h.word x (List.mem_of_getElem? hk))) ?_;rintro v1 u1 l1 rfl;refine G.sliceTo 1 (some ⟨b,0,none⟩) L.length c k (by kernel_rfl) (by omega) ?_;refine G.a b 0 L.length c k 1 hkl ?_;refine G.lM none b (0+k*1) (.string (mkS x)) (hE k x hk) ?_;refine G.callK _ _ (by kernel_rfl) call302 (Abd (n:=k) (c:=c) (x:=x) L (by omega) (by omega) hE fun j s hj hs e=>?_) ?_
 ·obtain ⟨hjl,hjx⟩:=List.getElem?_eq_some_iff.1 hs;have:=(List.getElem_inj (h₀:=hjl) (h₁:=hkl) h.nodup).1 (by rw [hjx,hkx,e]);omega
 rintro v2 u2 l2 rfl;exact G.r (.int .i64 0) ⟨rfl,rfl⟩
def D0 (a:List UInt8×Nat):Value:=.agg #[.string (mkS a.1),.int .i64 (a.2:Int)]
def nmV (s:List UInt8):Value:=.string (mkS s)
theorem G4 (L:List (List UInt8)):A3 1 (L.map nmV):=by
 intro e he;obtain ⟨s,_,rfl⟩:=List.mem_map.1 he;exact ⟨rfl,List.all_eq_true.1 rfl⟩
end
end
section
open Go.RowKit Go.MapKept
structure Ah7 (T:List (List UInt8×Nat)):Prop where
 names:Oh (T.map (·.1))
 kind:∀ a∈T,1≤a.2∧a.2≤3
theorem Oh.take {L:List (List UInt8)}(h:Oh L)(k:Nat):Oh (L.take k):=⟨fun s hs=>h.word s (List.mem_of_mem_take hs),h.nodup.sublist (List.take_sublist _ _)⟩
theorem getElem?_snoc_last {α:Type}(l:List α)(x:α):(l++[x])[l.length]?=some x:=by simp
theorem X7 {u:PH}{v w x y:Value}{T:List (List UInt8×Nat)}(h:Ab u v 2 (T.map D0))(ok:Ah7 T)(hl:T.length≤1000)(hw:∃ a n c,w=.slice a n c)(hx:∃ a n c,x=.slice a n c)(hy:∃ z:Int,y=.int .i64 z) :
  Fn0 prog 202 [.agg #[v,w,x,y]] u fun r _=>r=.int .i64 0:=by
 obtain ⟨a,c,rfl⟩:=h.opn;obtain ⟨wa,wn,wc,rfl⟩:=hw;obtain ⟨xa,xn,xc,rfl⟩:=hx;obtain ⟨z,rfl⟩:=hy;rw [List.length_map] at h ⊢;refine Fn0.o func202 ?_;refine G.l (ι:=Nat×(Option Addr×Nat×Nat)) (fun i=>[(3,.v (.slice i.2.1 i.2.2.1 i.2.2.2)),(8,.v (.slice a T.length c)),(9,.v (.int .i64 (T.length:Int))),(10,.v (.int .i64 (i.1:Int)))]) (fun _=>[])
  (fun i u' m'=>i.1≤T.length∧Ae PH.mt m' (.slice i.2.1 i.2.2.1 i.2.2.2) 9 1 (((T.map (·.1)).take i.1).map nmV)) (fun i=>T.length - i.1) (0,(none,0,0)) ⟨by simp,Ae.nil _ _ _⟩ ?_
 rintro J ⟨i,na,nn,nc⟩ hJ u1 m1 l1 ⟨hi,hA⟩;simp only at hi hA hJ;by_cases hlt:i < T.length
 ·refine G.lT (i:Int) (T.length:Int) ?_;have hTi:T[i]?=some T[i]:=List.getElem?_eq_getElem hlt;have hki:=ok.kind T[i] (List.getElem_mem hlt);have htk:((T.map (·.1)).take (i+1))=(T.map (·.1)).take i++[T[i].1]:=by
   rw [List.take_add_one,List.getElem?_map,hTi]; rfl
  have hnames:=ok.names.take (i+1);rw [htk] at hnames;have hlen:((T.map (·.1)).take i).length=i:=by simp; omega
  generalize hL:(T.map (·.1)).take i=L at hA htk hnames hlen;obtain ⟨ba,oa,rfl,ea⟩:=Ab.at' (h.mono l1) (j:=i) (e:=D0 T[i]) (by simp [hTi]);generalize T[i]=q at ea hki htk hnames;refine G.a ba oa T.length c i 2 hlt ?_;refine G.lU (some 2) ba (oa+i*2) (.agg #[.string (mkS q.1),.int .i64 (q.2:Int)]) ea ?_;refine G.B 9 1 16 (.string (mkS [])) [.string (mkS q.1)] (G4 [q.1]) ?_;intro g2 u2 l2 e2;refine G.k 9 1 16 (.string (mkS [])) PH.mt (L.map nmV) [.string (mkS q.1)] (.slice na nn nc) g2 0 1 1 hA e2 (G4 [q.1]) ?_;intro v3 m3 hA3;rw [show L.map nmV++[.string (mkS q.1)]=(L++[q.1]).map nmV by rw [List.map_append]; rfl] at hA3;obtain ⟨b3,c3,rfl⟩:=hA3.ptr (by simp);have hcap:=hA3.cap;rw [List.length_map] at hA3 hcap ⊢;refine G.callK _ _ (by kernel_rfl) call254 (Ah3 (b:=b3) (k:=i) (c:=c3) (x:=q.1) (L:=L++[q.1]) hnames (by simp; omega) hcap (by rw [← hlen]; exact getElem?_snoc_last L q.1) fun j s hs=>hA3.el (by rw [List.getElem?_map,hs]; rfl)) ?_;rintro v4 u4 l4 rfl;refine G.nF 0 0 ?_;refine G.lF (q.2:Int) 1 ?_;refine G.gF (q.2:Int) 3 ?_;refine G.i i ?_;exact G.b (hJ (i+1,(some ⟨b3,0,none⟩,(L++[q.1]).length,c3)) _ _ _ cv ((l1.trans l2).trans l4) ⟨by dsimp only; omega,by dsimp only; rw [htk]; exact hA3⟩ (by dsimp only; omega))
 ·obtain rfl:i=T.length:=by omega
  refine G.lF (T.length:Int) (T.length:Int) ?_;refine G.pastI ?_;refine G.drop PH.mt (by kernel_rfl) (PH.mt_le _) ?_;exact G.r (.int .i64 0) ⟨rfl,rfl⟩
end
section
open Go.RowKit Go.MapKept
variable {α:Type}
abbrev Ao:Type:=Nat×Nat×Nat
def B6 (f:Ao):Value:=.agg #[.int .i64 (f.1:Int),.int .i64 (f.2.1:Int),.int .i64 (f.2.2:Int)]
def Aj3 {α:Type}(p:α→Bool)(T:List α):Int:=match T.findIdx? p with | some k=>(k:Int) | none=>-1
theorem Akf {p:α→Bool}{T:List α}{i:Nat}(hi:i < T.length)(h:p T[i]=true)(h0:∀ j (hj:j < i),p (T[j]'(by omega))=false):Aj3 p T=(i:Int):=by
 have:T.findIdx? p=some i:=List.findIdx?_eq_some_iff_getElem.2 ⟨hi,h,fun j hj=>by simp [h0 j hj]⟩;unfold Aj3; rw [this]
theorem Adk {p:α→Bool}{T:List α}(h0:∀ x∈T,p x=false):Aj3 p T = -1:=by
 have:T.findIdx? p=none:=List.findIdx?_eq_none_iff.2 h0;unfold Aj3; rw [this]
theorem Ak1 {u m:PH}{v cap:Value}{T:List Ao}{fid:Nat}(p:Ao→Bool)(h:Ab u v 3 (T.map B6))(hl:T.length≤1000000)
  (hcall:∀ args w,(callFunc fid args).run prog w=.ok (.enter fid args) w) (hf:∀ f∈T,∀ u',PH.le u u'→FnK prog fid [B6 f,cap] u' m fun v _=>v=.bool (p f)) :
  FnK prog 304 [v,.func (.func fid) #[] #[cap]] u m fun v' _=>v'=.int .i64 (Aj3 p T):=by
 obtain ⟨a,c,rfl⟩:=h.opn;rw [List.length_map] at h ⊢;refine FnK.of func304 (by kernel_rfl) (by kernel_rfl) ?_;refine G.l (ι:=Nat) (fun i=>[(0,.v (.slice a T.length c)),(1,.v (.func (.func fid) #[] #[cap])),(7,.v (.int .i64 (T.length:Int))),(8,.v (.int .i64 (i:Int)))]) (fun _=>[])
  (fun i u' m'=>i≤T.length∧(∀ j (hj:j < T.length),j < i→p (T[j]'hj)=false)∧m'=m) (fun i=>T.length - i) 0 ⟨by omega,fun j hj h=>by omega,rfl⟩ ?_
 rintro J i hJ u1 m1 l1 ⟨hi,h0,rfl⟩;by_cases hlt:i < T.length
 ·refine G.lT (i:Int) (T.length:Int) ?_;have hTi:T[i]?=some T[i]:=List.getElem?_eq_getElem hlt;obtain ⟨ba,oa,rfl,ea⟩:=Ab.at' (h.mono l1) (j:=i) (e:=B6 T[i]) (by simp [hTi]);refine G.a ba oa T.length c i 3 (by omega) ?_;refine G.lU (some 3) ba (oa+i*3) (B6 T[i]) ea ?_;refine G.callK fid [B6 T[i],cap] (by kernel_rfl) hcall (hf T[i] (List.getElem_mem hlt) u1 l1) ?_;rintro v2 u2 l2 rfl;cases hp:p T[i] with
  | true =>
   rw [Akf hlt hp fun j hj=>h0 j (by omega) hj];exact G.r (.int .i64 (i:Int)) ⟨rfl,rfl⟩
  | false =>
   refine G.i i ?_;exact G.b (hJ (i+1) _ _ _ cv (l1.trans l2) ⟨by omega,fun j hj h=>by
    rcases (by omega:j < i∨j=i) with e | rfl
    ·exact h0 j hj e
    ·exact hp,rfl⟩ (by omega))
 ·obtain rfl:i=T.length:=by omega
  refine G.lF (T.length:Int) (T.length:Int) ?_;rw [Adk fun x hx=>by obtain ⟨j,hj,rfl⟩:=List.getElem_of_mem hx; exact h0 j hj hj];exact G.r (.int .i64 (-1)) ⟨rfl,rfl⟩
theorem Jv {u m:PH}{v cap:Value}{T:List Ao}{fid:Nat}(h:Ab u v 3 (T.map B6))(hl:T.length≤1000000)
  (hcall:∀ args w,(callFunc fid args).run prog w=.ok (.enter fid args) w) (hf:∀ f∈T,∀ u',PH.le u u'→FnK prog fid [B6 f,cap] u' m fun v _=>v=.bool false) :
  FnK prog 256 [v,.func (.func fid) #[] #[cap]] u m fun v' _=>v'=.bool false:=by
 obtain ⟨a,c,rfl⟩:=h.opn;refine FnK.of func256 (by kernel_rfl) (by kernel_rfl) ?_;refine G.callK _ _ (by kernel_rfl) call304 (Ak1 (cap:=cap) (fun _=>false) h hl hcall hf) ?_;rintro v1 u1 l1 rfl;rw [Adk fun x _=>rfl];refine G.hF (-1) 0 ?_;exact G.r (.bool false) ⟨rfl,rfl⟩
theorem R7 {u m:PH}{f g:Ao}{b:Nat}(hb:ElP m b 0 (B6 g))(hne:f.1≠g.1):FnK prog 257 [B6 f,.pointer (some ⟨b,0,none⟩)] u m fun v _=>v=.bool false:=by
 refine FnK.of func257 (by kernel_rfl) (by kernel_rfl) ?_;refine G.f 144 b 0 0 0 ?_;refine G.lM none b (0+0) (.int .i64 (g.1:Int)) (fun i x hx=>?_) ?_
 ·have:i=0∧x=.int .i64 (g.1:Int):=by
   match i,hx with
   | 0,hx=>exact ⟨rfl,by simpa [Value.cells] using hx.symm⟩
   | i+1,hx=>simp [Value.cells] at hx
  obtain ⟨rfl,rfl⟩:=this;exact hb 0 _ rfl
 refine G.eF (f.1:Int) (g.1:Int) ?_;exact G.r (.bool false) ⟨rfl,rfl⟩
structure Dk (T:List (List UInt8×Nat))(F:List Ao)(lab:Int):Prop where
 ok:∀ f∈F,∃ n k,T[f.1]?=some (n,k)∧((f.2.1=1∧k=2∧f.2.2≤1)∨(f.2.1=2∧k=3∧f.2.2=0))∧(f.1:Int)≠lab
 nodup:(F.map (·.1)).Nodup
end
section
open Go.RowKit Go.MapKept
variable {b:Nat}{m u:PH}
theorem Ab.cap {a:Option Addr}{n c sz:Nat}{es:List Value}(h:Ab u (.slice a n c) sz es):es.length≤c:=by
 obtain ⟨_,_,e,hc,_⟩:=h;cases e; exact hc
theorem I6 {b off:Nat}{q:List UInt8×Nat}(h:ElP u b off (D0 q)):ElP u b (off+1) (.int .i64 (q.2:Int)):=fun i x hx=>by
 match i,hx with
 | 0,hx =>
  have:x=.int .i64 (q.2:Int):=by simpa [Value.cells] using hx.symm
  subst this;exact h 1 _ rfl
 | i+1,hx=>simp [Value.cells] at hx
theorem L6 {t:TypeId}{xs:List Value}{e:Value}(he:e.cells=xs.toArray):ElP (m.upd b (.cells xs.toArray t (0,0))) b 0 e:=fun i x hx=>by
 refine ⟨_,_,_,Ac _ _ _,?_⟩;rw [he] at hx;simpa using hx
theorem Abr {g:Ao}(hb:ElP m b 0 (B6 g)):ElP m b (0+0) (.int .i64 (g.1:Int)):=fun i x hx=>by
 match i,hx with
 | 0,hx =>
  have:x=.int .i64 (g.1:Int):=by simpa [Value.cells] using hx.symm
  subst this;exact hb 0 _ rfl
 | i+1,hx=>simp [Value.cells] at hx
theorem Afk {v w x:Value}{T:List (List UInt8×Nat)}{F:List Ao}{lab:Int}(h:Ab u v 2 (T.map D0))(hF:Ab u x 3 (F.map B6))(ok:Dk T F lab)(hl:T.length≤1000)(hl2:F.length≤1000)(hw:∃ a n c,w=.slice a n c) :
  Fn0 prog 204 [.agg #[v,w,x,.int .i64 lab]] u fun r _=>r=.int .i64 0:=by
 obtain ⟨a,c,rfl⟩:=h.opn;obtain ⟨a',c',rfl⟩:=hF.opn;obtain ⟨wa,wn,wc,rfl⟩:=hw;have hcap:=hF.cap;rw [List.length_map] at h hF hcap ⊢;rw [List.length_map];refine Fn0.o func204 ?_;refine G.l (ι:=Nat) (fun i=>[(1,.p 0 0),(9,.v (.slice a' F.length c')),(10,.v (.int .i64 (F.length:Int))),(11,.v (.int .i64 (i:Int)))]) (fun _=>[(0,⟨31,[.v (.slice a T.length c),.v (.slice wa wn wc),.v (.slice a' F.length c'),.v (.int .i64 lab)]⟩)])
  (fun i u' m'=>i≤F.length∧m'=PH.mt) (fun i=>F.length - i) 0 ⟨by omega,rfl⟩ ?_
 rintro J i hJ u1 m1 l1 ⟨hi,rfl⟩;by_cases hlt:i < F.length
 ·refine G.lT (i:Int) (F.length:Int) ?_;have hTi:F[i]?=some F[i]:=List.getElem?_eq_getElem hlt;obtain ⟨n,k,hk,hkind,hlab⟩:=ok.ok F[i] (List.getElem_mem hlt);have hdiff:∀ f∈F.take i,f.1≠(F[i]).1:=by
   intro f hf;obtain ⟨j,hj,rfl⟩:=List.getElem_of_mem hf;rw [List.length_take] at hj;rw [List.getElem_take];intro e;have:=(List.getElem_inj (xs:=F.map (·.1)) (h₀:=by rw [List.length_map]; omega) (h₁:=by rw [List.length_map]; omega) (i:=j) (j:=i) ok.nodup).1 (by rw [List.getElem_map,List.getElem_map]; exact e);omega
  obtain ⟨ba,oa,rfl,ea⟩:=Ab.at' (hF.mono l1) (j:=i) (e:=B6 F[i]) (by simp [hTi]);have hTk:=(hF.mono l1).take' i (by rw [List.length_map]; omega);rw [← List.map_take] at hTk;have htl:(F.take i).length=i:=by rw [List.length_take]; omega
  generalize F[i]=f at ea hk hkind hlab hdiff;obtain ⟨hkl,hkx⟩:=List.getElem?_eq_some_iff.1 hk;obtain ⟨bb,ob,rfl,eb⟩:=Ab.at' (h.mono l1) (j:=f.1) (e:=D0 (n,k)) (by simp [hk]);refine G.a ba oa F.length c' i 3 hlt ?_;refine G.lU (some 3) ba (oa+i*3) (.agg #[.int .i64 (f.1:Int),.int .i64 (f.2.1:Int),.int .i64 (f.2.2:Int)]) ea ?_;refine G.lF (f.1:Int) 0 ?_;refine G.hF (f.1:Int) (T.length:Int) ?_;refine G.a bb ob T.length c f.1 2 hkl ?_;refine G.f 92 bb (ob+f.1*2) 1 1 ?_;refine G.lU none bb (ob+f.1*2+1) (.int .i64 (k:Int)) (I6 eb) ?_;rcases hkind with ⟨k1,k2,k3⟩ | ⟨k1,k2,k3⟩
  ·refine G.eT (f.2.1:Int) 1 ?_;refine G.eT (k:Int) 2 ?_;by_cases k0:f.2.2=0
   ·refine G.eT (f.2.2:Int) 0 ?_;refine G.eF (f.2.1:Int) 2 ?_;refine G.pastI ?_;refine G.pub 3003 144 [.int .i64 (f.1:Int),.int .i64 (f.2.1:Int),.int .i64 (f.2.2:Int)] (by kernel_rfl) (by kernel_rfl) ?_;intro e2 hu2 hm2;refine G.f 144 e2 0 0 0 ?_;refine G.lM none e2 (0+0) (.int .i64 (f.1:Int)) (Abr (g:=f) (L6 rfl)) ?_;refine G.eF' (f.1:Int) lab hlab ?_;refine G.sliceTo 3 (some ⟨ba,oa,none⟩) F.length c' i (by kernel_rfl) (by omega) ?_;refine G.callK _ _ (by kernel_rfl) call256 (Jv hTk (by rw [List.length_take]; omega) call257 fun f' hf' u' _=>R7 (g:=f) (L6 rfl) (hdiff f' hf')) ?_;rintro v2 u2 l2 rfl;refine G.drop PH.mt (by kernel_rfl) (PH.mt_le _) ?_;refine G.i i ?_;exact G.b (hJ (i+1) _ _ _ cv (l1.trans l2) ⟨by omega,rfl⟩ (by omega))
   ·refine G.eF (f.2.2:Int) 0 ?_;refine G.eT (f.2.2:Int) 1 ?_;refine G.eF (f.2.1:Int) 2 ?_;refine G.pastI ?_;refine G.pub 3003 144 [.int .i64 (f.1:Int),.int .i64 (f.2.1:Int),.int .i64 (f.2.2:Int)] (by kernel_rfl) (by kernel_rfl) ?_;intro e2 hu2 hm2;refine G.f 144 e2 0 0 0 ?_;refine G.lM none e2 (0+0) (.int .i64 (f.1:Int)) (Abr (g:=f) (L6 rfl)) ?_;refine G.eF' (f.1:Int) lab hlab ?_;refine G.sliceTo 3 (some ⟨ba,oa,none⟩) F.length c' i (by kernel_rfl) (by omega) ?_;refine G.callK _ _ (by kernel_rfl) call256 (Jv hTk (by rw [List.length_take]; omega) call257 fun f' hf' u' _=>R7 (g:=f) (L6 rfl) (hdiff f' hf')) ?_;rintro v2 u2 l2 rfl;refine G.drop PH.mt (by kernel_rfl) (PH.mt_le _) ?_;refine G.i i ?_;exact G.b (hJ (i+1) _ _ _ cv (l1.trans l2) ⟨by omega,rfl⟩ (by omega))
  ·refine G.eF (f.2.1:Int) 1 ?_;refine G.eT (f.2.1:Int) 2 ?_;refine G.eT (k:Int) 3 ?_;refine G.eT (f.2.2:Int) 0 ?_;refine G.pastI ?_;refine G.pub 3003 144 [.int .i64 (f.1:Int),.int .i64 (f.2.1:Int),.int .i64 (f.2.2:Int)] (by kernel_rfl) (by kernel_rfl) ?_;intro e2 hu2 hm2;refine G.f 144 e2 0 0 0 ?_;refine G.lM none e2 (0+0) (.int .i64 (f.1:Int)) (Abr (g:=f) (L6 rfl)) ?_;refine G.eF' (f.1:Int) lab hlab ?_;refine G.sliceTo 3 (some ⟨ba,oa,none⟩) F.length c' i (by kernel_rfl) (by omega) ?_;refine G.callK _ _ (by kernel_rfl) call256 (Jv hTk (by rw [List.length_take]; omega) call257 fun f' hf' u' _=>R7 (g:=f) (L6 rfl) (hdiff f' hf')) ?_;rintro v2 u2 l2 rfl;refine G.drop PH.mt (by kernel_rfl) (PH.mt_le _) ?_;refine G.i i ?_;exact G.b (hJ (i+1) _ _ _ cv (l1.trans l2) ⟨by omega,rfl⟩ (by omega))
 ·obtain rfl:i=F.length:=by omega
  refine G.lF (F.length:Int) (F.length:Int) ?_;exact G.r (.int .i64 0) ⟨rfl,rfl⟩
end
section
open Go.RowKit Go.MapKept
variable {L:List Bool}{b c n:Nat}{m m0 u:PH}
theorem Aks (hn:n=L.length)(hl:n≤1000000)(hE:∀ (j:Nat) s,L[j]?=some s→ElP m b (0+j*1) (.bool s))(hx:∀ s∈L,s=true) :
  FnK prog 303 [.slice (some ⟨b,0,none⟩) n c,.bool false] u m fun v _=>v=.int .i64 (-1):=by
 refine FnK.of func303 (by kernel_rfl) (by kernel_rfl) ?_;refine G.l (ι:=Nat) (fun i=>[(0,.v (.slice (some ⟨b,0,none⟩) n c)),(1,.v (.bool false)),(7,.v (.int .i64 (n:Int))),(8,.v (.int .i64 (i:Int)))]) (fun _=>[])
  (fun i u' m'=>i≤n∧m'=m) (fun i=>n - i) 0 ⟨by omega,rfl⟩ ?_
 rintro J i hJ u1 m1 l1 ⟨hi,rfl⟩;by_cases hlt:i < n
 ·refine G.lT (i:Int) (n:Int) ?_;have hTi:L[i]?=some true:=by
   rw [List.getElem?_eq_getElem (by omega)];exact congrArg some (hx _ (List.getElem_mem (by omega)))
  refine G.a b 0 n c i 1 hlt ?_;refine G.lM none b (0+i*1) (.bool true) (hE i _ hTi) ?_;refine G.eqB false true (by kernel_rfl) ?_;refine G.i i ?_;exact G.b (hJ (i+1) _ _ _ cv l1 ⟨by omega,rfl⟩ (by omega))
 ·obtain rfl:i=n:=by omega
  refine G.lF (i:Int) (i:Int) ?_;exact G.r (.int .i64 (-1)) ⟨rfl,rfl⟩
theorem Acg (hn:n=L.length)(hl:n≤1000000)(hE:∀ (j:Nat) s,L[j]?=some s→ElP m b (0+j*1) (.bool s))(hx:∀ s∈L,s=true) :
  FnK prog 255 [.slice (some ⟨b,0,none⟩) n c,.bool false] u m fun v _=>v=.bool false:=by
 refine FnK.of func255 (by kernel_rfl) (by kernel_rfl) ?_;refine G.callK _ _ (by kernel_rfl) call303 (Aks (c:=c) (L:=L) hn hl hE hx) ?_;rintro v1 u1 l1 rfl;refine G.hF (-1) 0 ?_;exact G.r (.bool false) ⟨rfl,rfl⟩
abbrev Bk:Type:=List UInt8×List Nat×(Option Addr×Nat)
def Gb (r:Bk):Value:=.agg #[.string (mkS r.1),.slice r.2.2.1 r.2.1.length r.2.2.2]
structure Mh (u:PH)(n:Nat)(R:List Bk):Prop where
 names:Oh (R.map (·.1))
 ne:∀ r∈R,r.2.1≠[]
 lt:∀ r∈R,∀ a∈r.2.1,a < n
 len:∀ r∈R,r.2.1.length≤1000
 asc:∀ r∈R,∀ (k:Nat) x y,r.2.1[k]?=some x→r.2.1[k+1]?=some y→x < y
 all:∀ a < n,∃ r∈R,a∈r.2.1
 at':∀ r∈R,Ab u (.slice r.2.2.1 r.2.1.length r.2.2.2) 1 (Ag r.2.1)
def Aja (g n:Nat)(L:List Bool):Arr:=⟨.slice (some ⟨g,0,none⟩) n n,4,1,L.map .bool⟩
def Acm (a:Option Addr)(c:Nat)(L:List (List UInt8)):Arr:=⟨.slice a L.length c,9,1,L.map nmV⟩
theorem Adh {g n:Nat}:(Aja g n L).At m0 m=Ae m0 m (.slice (some ⟨g,0,none⟩) n n) 4 1 (L.map .bool):=rfl
theorem Aeg {a:Option Addr}{L:List (List UInt8)}:(Acm a c L).At m0 m=Ae m0 m (.slice a L.length c) 9 1 (L.map nmV):=rfl
theorem Ow (L:List Bool)(a:Nat):(L.map Value.bool).set a (.bool true)=(L.set a true).map Value.bool:=by rw [List.map_set]
theorem Abp {w x y:Value}{a0:Option Addr}{n c0:Nat}{R:List Bk}(hR:Ab u w 2 (R.map Gb))(ok:Mh u n R)(hn:n≤1000)(hn0:0 < n)(hl:R.length≤1000)(hx:∃ a n c,x=.slice a n c)(hy:∃ z:Int,y=.int .i64 z) :
  Fn0 prog 203 [.agg #[.slice a0 n c0,w,x,y]] u fun r _=>r=.int .i64 0:=by
 obtain ⟨a,c,rfl⟩:=hR.opn;obtain ⟨xa,xn,xc,rfl⟩:=hx;obtain ⟨z,rfl⟩:=hy;rw [List.length_map] at hR ⊢;refine Fn0.o func203 ?_;refine G.make 4 1 1 (.bool false) n (by kernel_rfl) rfl rfl (by omega) (by omega) (by omega) ?_;rintro v1 m1 hA1 ⟨ad,rfl⟩;obtain ⟨g,rfl,_⟩:=hA1.some';refine G.l (ι:=Nat×List Bool×List (List UInt8)×(Option Addr×Nat)) (fun i=>[(3,.v (.slice i.2.2.2.1 i.2.2.1.length i.2.2.2.2)),(4,.v (.slice (some ⟨g,0,none⟩) n n)),(16,.v (.slice a R.length c)),(17,.v (.int .i64 (R.length:Int))),(18,.v (.int .i64 (i.1:Int)))]) (fun _=>[])
  (fun i u' m'=>i.1≤R.length∧i.2.1.length=n∧i.2.2.1=(R.map (·.1)).take i.1∧(∀ r∈R.take i.1,∀ q∈r.2.1,i.2.1[q]?=some true)∧Bag m' [Aja g n i.2.1,Acm i.2.2.2.1 i.2.2.2.2 i.2.2.1]) (fun i=>R.length - i.1) (0,List.replicate n false,[],(none,0))
  ⟨by simp,by simp,by simp,by simp,⟨PH.mt,by rw [Adh,List.map_replicate]; exact hA1,PH.mt,Ae.nil _ _ _,trivial⟩⟩ ?_
 rintro J ⟨i,L,N,⟨na,nc⟩⟩ hJ u2 m2 l2 ⟨hi,hL,hN,hall,hbag⟩;simp only at hi hL hN hall hbag hJ;by_cases hlt:i < R.length
 ·refine G.lT (i:Int) (R.length:Int) ?_;have hTi:R[i]?=some R[i]:=List.getElem?_eq_getElem hlt;have hmem:R[i]∈R:=List.getElem_mem hlt;have htk:(R.map (·.1)).take (i+1)=N++[R[i].1]:=by
   rw [List.take_add_one,List.getElem?_map,hTi,hN]; rfl
  have htk2:R.take (i+1)=R.take i++[R[i]]:=by
   rw [List.take_add_one,hTi]; rfl
  have hnames:=ok.names.take (i+1);rw [htk] at hnames;have hlen:N.length=i:=by rw [hN]; simp; omega
  obtain ⟨ba,oa,rfl,ea⟩:=Ab.at' (hR.mono l2) (j:=i) (e:=Gb R[i]) (by simp [hTi]);generalize R[i]=q at ea hmem htk htk2 hnames;obtain ⟨qs,ql,qa,qc⟩:=q;have hne:ql≠[]:=ok.ne _ hmem;have hlq:∀ p∈ql,p < n:=ok.lt _ hmem;have hql:ql.length≤1000:=ok.len _ hmem;have hasc:∀ (k:Nat) x y,ql[k]?=some x→ql[k+1]?=some y→x < y:=ok.asc _ hmem;have hqat:Ab u2 (.slice qa ql.length qc) 1 (Ag ql):=(ok.at' _ hmem).mono l2;have hq0:0 < ql.length:=List.length_pos_iff.2 hne;simp only at htk hnames;refine G.a ba oa R.length c i 2 hlt ?_;refine G.lU (some 2) ba (oa+i*2) (.agg #[.string (mkS qs),.slice qa ql.length qc]) ea ?_;refine G.B 9 1 16 (.string (mkS [])) [.string (mkS qs)] (G4 [qs]) ?_;intro g3 u3 l3 e3;obtain ⟨mm,hx0,hput⟩:=hbag.focus 1 rfl;rw [Aeg] at hx0;refine G.k 9 1 16 (.string (mkS [])) mm (N.map nmV) [.string (mkS qs)] (.slice na N.length nc) g3 0 1 1 hx0 e3 (G4 [qs]) ?_;intro v4 m4 hA4;rw [show N.map nmV++[.string (mkS qs)]=(N++[qs]).map nmV by rw [List.map_append]; rfl] at hA4;obtain ⟨b4,c4,rfl⟩:=hA4.ptr (by simp);have hcap:=hA4.cap;rw [List.length_map] at hA4 hcap ⊢;have hbag4:=hput (Acm (some ⟨b4,0,none⟩) c4 (N++[qs])) m4 hA4;simp only [List.set_cons_succ,List.set_cons_zero] at hbag4;refine G.callK _ _ (by kernel_rfl) call254 (Ah3 (b:=b4) (k:=i) (c:=c4) (x:=qs) (L:=N++[qs]) hnames (by simp; omega) hcap (by rw [← hlen]; exact getElem?_snoc_last N qs) fun j s hs=>hA4.el (by rw [List.getElem?_map,hs]; rfl)) ?_;rintro v5 u5 l5 rfl;refine G.nF 0 0 ?_;refine G.eF (ql.length:Int) 0 ?_;generalize N++[qs]=N' at hbag4 htk;clear hA4 hput hx0 hbag hcap hnames;have hlt':∀ p∈ql,p < n:=hlq;refine G.l (ι:=Nat×List Bool) (fun j=>[(3,.v (.slice (some ⟨b4,0,none⟩) N'.length c4)),(4,.v (.slice (some ⟨g,0,none⟩) n n)),(6,.p 5003 0),(16,.v (.slice (some ⟨ba,oa,none⟩) R.length c)),(17,.v (.int .i64 (R.length:Int))),(18,.v (.int .i64 (i:Int))),(39,.v (.slice qa ql.length qc)),(40,.v (.int .i64 (ql.length:Int))),(41,.v (.int .i64 (j.1:Int)))])
   (fun _=>[(5003,⟨94,[.v (.string (mkS qs)),.v (.slice qa ql.length qc)]⟩)])
   (fun j u' m'=>j.1≤ql.length∧j.2.length=n∧(∀ r∈R.take i,∀ q∈r.2.1,j.2[q]?=some true)∧(∀ q∈ql.take j.1,j.2[q]?=some true)∧Bag m' [Aja g n j.2,Acm (some ⟨b4,0,none⟩) c4 N']) (fun j=>ql.length - j.1) (0,L)
   ⟨by simp,hL,hall,by simp,hbag4⟩ ?_
  rintro J2 ⟨j,L2⟩ hJ2 u6 m6 l6 ⟨hj,hL2,hall2,hrow2,hbag6⟩;simp only at hj hL2 hall2 hrow2 hbag6 hJ2;have hqat6:=hqat.mono ((l3.trans l5).trans l6);by_cases hltj:j < ql.length
  ·refine G.lT (j:Int) (ql.length:Int) ?_;have hqj:ql[j]?=some ql[j]:=List.getElem?_eq_getElem hltj;have hpn:ql[j] < n:=hlq _ (List.getElem_mem hltj);have htkj:ql.take (j+1)=ql.take j++[ql[j]]:=by rw [List.take_add_one,hqj]; rfl
   obtain ⟨bq,oq,rfl,eq⟩:=Ab.at' hqat6 (j:=j) (e:=.int .i64 (ql[j]:Int)) (by simp [Ag,hqj]);generalize ql[j]=p at eq hpn htkj;refine G.a bq oq ql.length qc j 1 hltj ?_;refine G.lU none bq (oq+j*1) (.int .i64 (p:Int)) eq ?_;refine G.lF (p:Int) 0 ?_;refine G.hF (p:Int) (n:Int) ?_;refine G.a g 0 n n p 1 hpn ?_;obtain ⟨mm2,hx2,hput2⟩:=hbag6.focus 0 rfl;rw [Adh] at hx2;refine G.storeA 1 mm2 (L2.map Value.bool) g n n p (.bool true) (by kernel_rfl) hx2 (by rw [List.length_map]; omega) rfl rfl ?_;intro m7 hA7;rw [Ow] at hA7;have hbag7:=hput2 (Aja g n (L2.set p true)) m7 hA7;simp only [List.set_cons_zero] at hbag7;refine G.i j ?_;have hkeep:∀ q,L2[q]?=some true→(L2.set p true)[q]?=some true:=fun q hq=>by
    rw [List.getElem?_set];split
    ·subst_vars; rw [if_pos (by omega)]
    ·exact hq
   exact G.b (hJ2 (j+1,L2.set p true) _ _ _ cv l6 ⟨by dsimp only; omega,by simp [hL2],fun r hr q hq=>hkeep q (hall2 r hr q hq),by
    intro q hq;dsimp only at hq ⊢;rw [htkj,List.mem_append,List.mem_singleton] at hq;rcases hq with hq | rfl
    ·exact hkeep q (hrow2 q hq)
    ·rw [List.getElem?_set]; simp; omega,hbag7⟩ (by dsimp only; omega))
  ·obtain rfl:j=ql.length:=by omega
   refine G.lF (ql.length:Int) (ql.length:Int) ?_;rw [List.take_length] at hrow2;refine G.l (ι:=Nat) (fun k=>[(3,.v (.slice (some ⟨b4,0,none⟩) N'.length c4)),(4,.v (.slice (some ⟨g,0,none⟩) n n)),(6,.p 5003 0),(10,.v (.int .i64 ((k+1:Nat):Int))),(16,.v (.slice (some ⟨ba,oa,none⟩) R.length c)),(17,.v (.int .i64 (R.length:Int))),(18,.v (.int .i64 (i:Int)))])
    (fun _=>[(5003,⟨94,[.v (.string (mkS qs)),.v (.slice qa ql.length qc)]⟩)])
    (fun k u' m'=>k+1≤ql.length∧m'=m6) (fun k=>ql.length - k) 0
    ⟨by omega,rfl⟩ ?_
   rintro J3 k hJ3 u8 m8 l8 ⟨hk,rfl⟩;have hqat8:=hqat6.mono l8;by_cases hltk:k+1 < ql.length
   ·refine G.lT ((k+1:Nat):Int) (ql.length:Int) ?_;have hq1:ql[k]?=some ql[k]:=List.getElem?_eq_getElem (by omega);have hq2:ql[k+1]?=some ql[k+1]:=List.getElem?_eq_getElem hltk;have hlt3:=hasc k _ _ hq1 hq2;obtain ⟨bq,oq,rfl,eq2⟩:=Ab.at' hqat8 (j:=k+1) (e:=.int .i64 (ql[k+1]:Int)) (by simp [Ag,hq2]);obtain ⟨_,_,e',eq1⟩:=Ab.at' hqat8 (j:=k) (e:=.int .i64 (ql[k]:Int)) (by simp [Ag,hq1]);cases e';generalize ql[k]=p1 at eq1 hlt3;generalize ql[k+1]=p2 at eq2 hlt3;refine G.a bq oq ql.length qc (k+1) 1 hltk ?_;refine G.lU none bq (oq+(k+1)*1) (.int .i64 (p2:Int)) eq2 ?_;refine G.s ((k+1:Nat):Int) 1 (k:Int) ?_;refine G.a bq oq ql.length qc k 1 (by omega) ?_;refine G.lU none bq (oq+k*1) (.int .i64 (p1:Int)) eq1 ?_;refine G.kF (p2:Int) (p1:Int) ?_;refine G.p ((k+1:Nat):Int) 1 ((k+1+1:Nat):Int) ?_;exact G.b (hJ3 (k+1) _ _ _ cv l8 ⟨by omega,rfl⟩ (by omega))
   ·refine G.lF ((k+1:Nat):Int) (ql.length:Int) ?_;refine G.i i ?_;exact G.b (hJ (i+1,L2,N',(some ⟨b4,0,none⟩,c4)) _ _ _ cv ((((l2.trans l3).trans l5).trans l6).trans l8) ⟨by dsimp only; omega,hL2,htk.symm,by
     intro r hr q hq;dsimp only at hr hq ⊢;rw [htk2,List.mem_append,List.mem_singleton] at hr;rcases hr with hr | rfl
     ·exact hall2 r hr q hq
     ·exact hrow2 q hq,hbag6⟩ (by dsimp only; omega))
 ·obtain rfl:i=R.length:=by omega
  refine G.lF (R.length:Int) (R.length:Int) ?_;rw [List.take_length] at hall;refine G.callK _ _ (by kernel_rfl) call255 (Acg (b:=g) (c:=n) (L:=L) hL.symm (by omega) (fun j s hs=>hbag.el 0 rfl (x:=Aja g n L) rfl (by show (L.map Value.bool)[j]?=_; rw [List.getElem?_map,hs]; rfl)) fun s hs=>by
   obtain ⟨j,hj,rfl⟩:=List.getElem_of_mem hs;obtain ⟨r,hr,hq⟩:=ok.all j (by omega);have:=hall r hr j hq;rw [List.getElem?_eq_getElem hj] at this;exact Option.some.inj this) ?_
  rintro v3 u3 l3 rfl;refine G.drop PH.mt (by kernel_rfl) (PH.mt_le _) ?_;exact G.r (.int .i64 0) ⟨rfl,rfl⟩
end
section
open Go.RowKit Go.MapKept
structure Bn (u:PH)(T:List (List UInt8×Nat))(R:List Bk)(F:List Ao)(lab:Int):Prop where
 att:Ah7 T
 rel:Mh u T.length R
 feat:Dk T F lab
 t1:0 < T.length
 t2:T.length≤12
 r1:0 < R.length
 r2:R.length≤6
 f2:F.length≤8
 l1:-1≤lab
 l2:∀ l:Nat,lab=(l:Int)→∃ n,T[l]?=some (n,2)
theorem Mh.mono {u u':PH}{n:Nat}{R:List Bk}(h:Mh u n R)(hl:PH.le u u'):Mh u' n R:=⟨h.names,h.ne,h.lt,h.len,h.asc,h.all,fun r hr=>(h.at' r hr).mono hl⟩
theorem Bn.mono {u u':PH}{T:List (List UInt8×Nat)}{R:List Bk}{F:List Ao}{lab:Int}(h:Bn u T R F lab)(hl:PH.le u u'):Bn u' T R F lab:=⟨h.att,h.rel.mono hl,h.feat,h.t1,h.t2,h.r1,h.r2,h.f2,h.l1,h.l2⟩
def F1 (u:PH)(v:Value)(T:List (List UInt8×Nat))(R:List Bk)(F:List Ao)(lab:Int):Prop :=
 ∃ a c b d e f,v=.agg #[.slice a T.length c,.slice b R.length d,.slice e F.length f,.int .i64 lab]∧Ab u (.slice a T.length c) 2 (T.map D0)∧Ab u (.slice b R.length d) 2 (R.map Gb)∧Ab u (.slice e F.length f) 3 (F.map B6)
theorem F1.mono {u u':PH}{v:Value}{T:List (List UInt8×Nat)}{R:List Bk}{F:List Ao}{lab:Int}(h:F1 u v T R F lab)(hl:PH.le u u'):F1 u' v T R F lab:=by
 obtain ⟨a,c,b,d,e,f,hv,h1,h2,h3⟩:=h;exact ⟨a,c,b,d,e,f,hv,h1.mono hl,h2.mono hl,h3.mono hl⟩
theorem Abk {u:PH}{v:Value}{T:List (List UInt8×Nat)}{R:List Bk}{F:List Ao}{lab:Int}(h:F1 u v T R F lab)(ok:Bn u T R F lab) :
  Fn0 prog 129 [v] u fun r _=>r=.int .i64 0:=by
 obtain ⟨a,c,b,d,e,f,rfl,hT,hR,hF⟩:=h;have t1:=ok.t1;have t2:=ok.t2;have r1:=ok.r1;have r2:=ok.r2;have f2:=ok.f2;have lo:=ok.l1;have hi:lab < T.length:=by
  rcases Int.lt_or_le lab 0 with hlt | hge
  ·omega
  ·obtain ⟨n,hn⟩:=ok.l2 lab.toNat (by omega);obtain ⟨hk,_⟩:=List.getElem?_eq_some_iff.1 hn;omega
 refine Fn0.o func129 ?_;refine G.eF (T.length:Int) 0 ?_;refine G.gF (T.length:Int) 12 ?_;refine G.eF (R.length:Int) 0 ?_;refine G.gF (R.length:Int) 6 ?_;refine G.gF (F.length:Int) 8 ?_;refine G.buildU 132 1 8 (.nilFunc) [.func (.func 202) #[] #[],.func (.func 203) #[] #[],.func (.func 204) #[] #[]] (by kernel_rfl) (fun x hx=>by
  simp only [List.mem_cons,List.not_mem_nil,or_false] at hx;rcases hx with rfl | rfl | rfl <;> exact ⟨rfl,List.all_eq_true.1 rfl⟩) rfl (by omega) (by simp) (by simp) ?_
 intro g u1 l1 e1;refine G.l (ι:=Nat) (fun i=>[(1,.p 0 0),(34,.v (.slice (some ⟨g,0,none⟩) 3 3)),(35,.v (.int .i64 ((3:Nat):Int))),(36,.v (.int .i64 (i:Int)))])
  (fun _=>[(0,⟨31,[.v (.slice a T.length c),.v (.slice b R.length d),.v (.slice e F.length f),.v (.int .i64 lab)]⟩)])
  (fun i u' m'=>i≤3∧m'=PH.mt) (fun i=>3 - i) 0 ⟨by omega,rfl⟩ ?_
 rintro J i hJ u2 m2 l2 ⟨hi3,rfl⟩;have le2:=l1.trans l2;have e2:=e1.mono l2;by_cases hlt:i < 3
 ·refine G.lT (i:Int) ((3:Nat):Int) ?_;refine G.a g 0 3 3 i 1 hlt ?_;rcases (by omega:i=0∨i=1∨i=2) with rfl | rfl | rfl
  ·refine G.lU none g (0+0*1) (.func (.func 202) #[] #[]) (e2 0 _ rfl) ?_;refine G.c call202 (X7 (w:=.slice b R.length d) (x:=.slice e F.length f) (y:=.int .i64 lab) (hT.mono le2) ok.att (by omega) ⟨_,_,_,rfl⟩ ⟨_,_,_,rfl⟩ ⟨_,rfl⟩) ?_;rintro v3 u3 l3 rfl;refine G.nF 0 0 ?_;refine G.p ((0:Nat):Int) 1 ((0+1:Nat):Int) ?_;exact G.b (hJ (0+1) _ _ _ cv (l2.trans l3) ⟨by omega,rfl⟩ (by omega))
  ·refine G.lU none g (0+1*1) (.func (.func 203) #[] #[]) (e2 1 _ rfl) ?_;refine G.c call203 (Abp (a0:=a) (c0:=c) (x:=.slice e F.length f) (y:=.int .i64 lab) (hR.mono le2) (ok.rel.mono le2) (by omega) (by omega) (by omega) ⟨_,_,_,rfl⟩ ⟨_,rfl⟩) ?_;rintro v3 u3 l3 rfl;refine G.nF 0 0 ?_;refine G.p ((1:Nat):Int) 1 ((1+1:Nat):Int) ?_;exact G.b (hJ (1+1) _ _ _ cv (l2.trans l3) ⟨by omega,rfl⟩ (by omega))
  ·refine G.lU none g (0+2*1) (.func (.func 204) #[] #[]) (e2 2 _ rfl) ?_;refine G.c call204 (Afk (w:=.slice b R.length d) (hT.mono le2) (hF.mono le2) ok.feat (by omega) (by omega) ⟨_,_,_,rfl⟩) ?_;rintro v3 u3 l3 rfl;refine G.nF 0 0 ?_;refine G.p ((2:Nat):Int) 1 ((2+1:Nat):Int) ?_;exact G.b (hJ (2+1) _ _ _ cv (l2.trans l3) ⟨by omega,rfl⟩ (by omega))
 ·obtain rfl:i=3:=by omega
  refine G.lF ((3:Nat):Int) ((3:Nat):Int) ?_;refine G.lF lab (-1) ?_;refine G.hF lab (T.length:Int) ?_;rcases Int.lt_or_le lab 0 with hneg | hge
  ·refine G.hF lab 0 ?_;exact G.r (.int .i64 0) ⟨rfl,rfl⟩
  ·refine G.hT lab 0 ?_;obtain ⟨l,rfl⟩:∃ l:Nat,lab=(l:Int):=⟨lab.toNat,by omega⟩;obtain ⟨n,hn⟩:=ok.l2 l rfl;obtain ⟨bb,ob,rfl,eb⟩:=Ab.at' (hT.mono le2) (j:=l) (e:=D0 (n,2)) (by simp [hn]);refine G.a bb ob T.length c l 2 (by omega) ?_;refine G.f 92 bb (ob+l*2) 1 1 ?_;refine G.lU none bb (ob+l*2+1) (.int .i64 ((2:Nat):Int)) (I6 eb) ?_;refine G.nF ((2:Nat):Int) 2 ?_;exact G.r (.int .i64 0) ⟨rfl,rfl⟩
end
section
open Go.RowKit Go.MapKept
section rules
variable {P:Program} [Ba P] {fn:Func} {Post:B0} {st:List KI×S} {u m:PH}
end rules
end
section
open Go.RowKit Go.MapKept
theorem Me {z:Int}(h:z.natAbs < 1000000000000000000):Lib.nDigits z.natAbs≤400:=Nat.le_trans (Ed (k:=18) (by omega) (by omega)) (by omega)
structure Dat (q:Rat):Prop where
 num:q.num.natAbs≤1000000000
 den:q.den≤12
theorem Dat.tx {q:Rat}(h:Dat q):Tx q:=⟨Me (by have:=h.num; omega),by have:=Me (z:=(q.den:Int)) (by have:=h.den; omega); simpa using this⟩
end
section
open Go.RowKit Go.MapKept
def CF.one1 (p:Par)(q:Rat):CF:=⟨1,Hb (fun _=>0) p q,Hb (fun _=>0) (p,p) (q*q)⟩
end
section
open Go.RowKit Go.MapKept
end
section
open Go.RowKit Go.MapKept
end
section
open Go.RowKit Go.MapKept
variable {p:Par}{q:Rat}
theorem Agu {d N:Nat}(h1:Dn d N 1)(hq:Dn d N q)(h2:Dn d N (q*q)):CFD d N (CF.one1 p q) :=
 ⟨h1,fun k=>by
  show Dn d N (Hb (fun _=>(0:Rat)) p q k);unfold Hb; split
  ·exact hq
  ·exact Dn.zero _ _,fun k=>by
  show Dn d N (Hb (fun _=>(0:Rat)) (p,p) (q*q) k);unfold Hb; split
  ·exact h2
  ·exact Dn.zero _ _⟩
theorem Ajh (hp:PV p):CFV (CF.one1 p q) :=
 ⟨fun k hk=>by
  have hk:Hb (fun _=>(0:Rat)) p q k≠0:=hk;unfold Hb at hk;split at hk
  ·subst_vars; exact hp
  ·exact absurd rfl hk,fun k hk=>by
  have hk:Hb (fun _=>(0:Rat)) (p,p) (q*q) k≠0:=hk;unfold Hb at hk;split at hk
  ·subst_vars
   exact ⟨hp,hp,fun e=>by
   have e:0 < A8 p p:=e;have:=(Dp.sym _ _).2 e;omega⟩
  ·exact absurd rfl hk⟩
theorem El.listP {u:PH}{g sz:Nat}{es:List Value}(h:El u g 0 sz es):Ab u (.slice (some ⟨g,0,none⟩) es.length es.length) sz es:=⟨_,_,rfl,Nat.le_refl _,fun j e hj=>⟨g,0,rfl,h j e hj⟩⟩
theorem Nw {L:List (List UInt8)}(h:(L.all Gw && decide L.Nodup)=true):Oh L:=by
 rw [Bool.and_eq_true,List.all_eq_true,decide_eq_true_iff] at h;exact ⟨h.1,h.2⟩
end
section
open Go.RowKit Go.MapKept
end
section
open Go.RowKit
end
section
open Go.RowKit Go.MapKept
theorem pw {n:Nat}(h:n < 10 ^ 30):n < 10 ^ 100:=Nat.lt_of_lt_of_le h (by decide +kernel)
end
section
open Go.RowKit Go.MapKept
end
section
open Go.RowKit Go.MapKept
variable {F:CF}{K:Nat}{p q:Par}{u:PH}{v:Value}
theorem Ako (h:p.1 < q.1):A8 p q < 0:=by
 have e:Na p.1 q.1 = -1:=by unfold Na; rw [if_pos h]
 unfold A8; rw [e,if_pos (by decide)]; decide
theorem Alr (h:¬ p.1 < q.1)(h':p.1≠q.1):¬ A8 p q < 0:=by
 have e:Na p.1 q.1=1:=by unfold Na; rw [if_neg h,if_pos (by omega)]
 unfold A8; rw [e,if_pos (by decide)]; decide
theorem Akt (h:p.1=q.1):decide (A8 p q < 0)=Op.bytesLess p.2 q.2:=by
 have e:Na p.1 q.1=0:=by unfold Na; rw [if_neg (by omega),if_neg (by omega)]
 unfold A8; rw [e,if_neg (by decide)];unfold Qp;cases Op.bytesLess p.2 q.2 with
 | true=>rfl
 | false =>
  simp only [Bool.false_eq_true,if_false];split <;> rfl
theorem Dq (p q:Par)(r:Bool)(h:decide (A8 p q < 0)=r):Fn0 prog 93 [An p,An q] u fun v _=>v=.bool r:=by
 refine Fn0.o func93 ?_;by_cases h1:p.1 < q.1
 ·refine G.lT' p.1 q.1 h1 ?_;rw [decide_eq_true (Ako h1)] at h;subst h;exact G.r (.bool true) ⟨rfl,rfl⟩
 ·refine G.lF' p.1 q.1 h1 ?_;by_cases h2:p.1=q.1
  ·rw [Akt h2] at h;refine G.eT' p.1 q.1 h2 ?_;refine G.ltS p.2 q.2 r (by kernel_rfl) h ?_;cases r with
   | true=>exact G.r (.bool true) ⟨rfl,rfl⟩
   | false=>exact G.r (.bool false) ⟨rfl,rfl⟩
  ·rw [decide_eq_false (Alr h1 h2)] at h;subst h;refine G.eF' p.1 q.1 h2 ?_;exact G.r (.bool false) ⟨rfl,rfl⟩
theorem Aki (p:Par)(h:H7 u v F K)(hK:K≤1000000):Fn0 prog 181 [v,An p] u fun r _=>r=.string (mkS (Af (F.s p))):=by
 obtain ⟨T,Q,a1,c1,a2,c2,rfl,hT,hQ,cT,cQ,kT,kQ⟩:=h;refine Fn0.o func181 ?_;refine G.l (ι:=Nat) (fun i=>[(3,.p 1 0),(8,.v (.slice a1 T.length c1)),(9,.v (.int .i64 (T.length:Int))),(10,.v (.int .i64 (i:Int)))]) (fun _=>[(1,⟨79,[.v (.int .i64 p.1),.v (.string (mkS p.2))]⟩)])
  (fun i u' m'=>i≤T.length∧(∀ j (hj:j < T.length),j < i→(T[j]'hj).1≠p)∧m'=PH.mt) (fun i=>T.length - i) 0 ⟨by omega,fun j hj h=>by omega,rfl⟩ ?_
 rintro J i hJ u1 m1 l1 ⟨hi,h0,rfl⟩;by_cases hlt:i < T.length
 ·refine G.lT (i:Int) (T.length:Int) ?_;have hTi:T[i]?=some T[i]:=List.getElem?_eq_getElem hlt;have hval:=(cT.val _ (List.getElem_mem hlt)).1;obtain ⟨ba,oa,rfl,ea⟩:=Ab.at' (hT.mono l1) (j:=i) (e:=A5 T[i]) (by simp [hTi]);refine G.a ba oa T.length c1 i 3 (by omega) ?_;refine G.lU (some 3) ba (oa+i*3) (.agg #[.int .i64 T[i].1.1,.string (mkS T[i].1.2),.string (mkS (Af T[i].2))]) ea ?_;by_cases he:T[i].1=p
  ·refine G.eqAgg 79 #[.int .i64 T[i].1.1,.string (mkS T[i].1.2)] #[.int .i64 p.1,.string (mkS p.2)] true (by kernel_rfl) (by kernel_rfl) (by kernel_rfl) (fun w=>by rw [← decide_eq_true he]; exact Bt.eq T[i].1 p w) ?_;exact G.r (.string (mkS (Af T[i].2))) ⟨rfl,by rw [hval,he]⟩
  ·refine G.eqAgg 79 #[.int .i64 T[i].1.1,.string (mkS T[i].1.2)] #[.int .i64 p.1,.string (mkS p.2)] false (by kernel_rfl) (by kernel_rfl) (by kernel_rfl) (fun w=>by rw [← decide_eq_false he]; exact Bt.eq T[i].1 p w) ?_;refine G.i i ?_;exact G.b (hJ (i+1) _ _ _ cv l1 ⟨by omega,fun j hj h=>by
    rcases (by omega:j < i∨j=i) with e | rfl
    ·exact h0 j hj e
    ·exact he,rfl⟩ (by omega))
 ·obtain rfl:i=T.length:=by omega
  refine G.lF (T.length:Int) (T.length:Int) ?_;have hz:F.s p=0:=cT.out p fun hm=>by
   obtain ⟨x,hx,e⟩:=List.mem_map.1 hm;obtain ⟨j,hj,rfl⟩:=List.getElem_of_mem hx;exact h0 j hj hj e
  exact G.r (.string (mkS [48])) ⟨rfl,by rw [hz,Hf]⟩
theorem Ya (p q:Par)(h:H7 u v F K)(hK:K≤1000000):Fn0 prog 182 [v,An p,An q] u fun r _=>r=.string (mkS (Af (F.t (Ap p q)))):=by
 obtain ⟨T,Q,a1,c1,a2,c2,rfl,hT,hQ,cT,cQ,kT,kQ⟩:=h;refine Fn0.o func182 ?_;by_cases hsw:A8 q p < 0
 ·rw [show Ap p q=(q,p) by unfold Ap; rw [if_pos ((Dp.sym _ _).1 hsw)]];refine G.c call93 (Dq q p true (decide_eq_true hsw)) ?_;rintro v0 u0 l0 rfl;refine G.l (ι:=Nat) (fun i=>[(4,.p 1 0),(5,.p 2 0),(15,.v (.slice a2 Q.length c2)),(16,.v (.int .i64 (Q.length:Int))),(17,.v (.int .i64 (i:Int)))]) (fun _=>[(1,⟨79,[.v (.int .i64 q.1),.v (.string (mkS q.2))]⟩),(2,⟨79,[.v (.int .i64 p.1),.v (.string (mkS p.2))]⟩)])
   (fun i u' m'=>i≤Q.length∧(∀ j (hj:j < Q.length),j < i→(Q[j]'hj).1≠(q,p))∧m'=PH.mt) (fun i=>Q.length - i) 0 ⟨by omega,fun j hj h=>by omega,rfl⟩ ?_
  rintro J i hJ u1 m1 l1 ⟨hi,h0,rfl⟩;by_cases hlt:i < Q.length
  ·refine G.lT (i:Int) (Q.length:Int) ?_;have hTi:Q[i]?=some Q[i]:=List.getElem?_eq_getElem hlt;have hval:=(cQ.val _ (List.getElem_mem hlt)).1;obtain ⟨ba,oa,rfl,ea⟩:=Ab.at' (hQ.mono (l0.trans l1)) (j:=i) (e:=Da Q[i]) (by simp [hTi]);have hback:Q[i].1≠(q,p)→∀ j (hj:j < Q.length),j < i+1→(Q[j]'hj).1≠(q,p):=fun hne j hj h=>by
    rcases (by omega:j < i∨j=i) with e | rfl
    ·exact h0 j hj e
    ·exact hne
   refine G.a ba oa Q.length c2 i 5 (by omega) ?_;refine G.lU (some 5) ba (oa+i*5) (.agg #[.int .i64 Q[i].1.1.1,.string (mkS Q[i].1.1.2),.int .i64 Q[i].1.2.1,.string (mkS Q[i].1.2.2),.string (mkS (Af Q[i].2))]) ea ?_;by_cases he:Q[i].1.1=q
   ·refine G.eqAgg 79 #[.int .i64 Q[i].1.1.1,.string (mkS Q[i].1.1.2)] #[.int .i64 q.1,.string (mkS q.2)] true (by kernel_rfl) (by kernel_rfl) (by kernel_rfl) (fun w=>by rw [← decide_eq_true he]; exact Bt.eq Q[i].1.1 q w) ?_;by_cases he2:Q[i].1.2=p
    ·refine G.eqAgg 79 #[.int .i64 Q[i].1.2.1,.string (mkS Q[i].1.2.2)] #[.int .i64 p.1,.string (mkS p.2)] true (by kernel_rfl) (by kernel_rfl) (by kernel_rfl) (fun w=>by rw [← decide_eq_true he2]; exact Bt.eq Q[i].1.2 p w) ?_;exact G.r (.string (mkS (Af Q[i].2))) ⟨rfl,by rw [hval,show Q[i].1=(q,p) from Prod.ext he he2]⟩
    ·refine G.eqAgg 79 #[.int .i64 Q[i].1.2.1,.string (mkS Q[i].1.2.2)] #[.int .i64 p.1,.string (mkS p.2)] false (by kernel_rfl) (by kernel_rfl) (by kernel_rfl) (fun w=>by rw [← decide_eq_false he2]; exact Bt.eq Q[i].1.2 p w) ?_;refine G.i i ?_;exact G.b (hJ (i+1) _ _ _ cv l1 ⟨by omega,hback fun e=>he2 (congrArg Prod.snd e),rfl⟩ (by omega))
   ·refine G.eqAgg 79 #[.int .i64 Q[i].1.1.1,.string (mkS Q[i].1.1.2)] #[.int .i64 q.1,.string (mkS q.2)] false (by kernel_rfl) (by kernel_rfl) (by kernel_rfl) (fun w=>by rw [← decide_eq_false he]; exact Bt.eq Q[i].1.1 q w) ?_;refine G.i i ?_;exact G.b (hJ (i+1) _ _ _ cv l1 ⟨by omega,hback fun e=>he (congrArg Prod.fst e),rfl⟩ (by omega))
  ·obtain rfl:i=Q.length:=by omega
   refine G.lF (Q.length:Int) (Q.length:Int) ?_;have hz:F.t (q,p)=0:=cQ.out (q,p) fun hm=>by
    obtain ⟨x,hx,e⟩:=List.mem_map.1 hm;obtain ⟨j,hj,rfl⟩:=List.getElem_of_mem hx;exact h0 j hj hj e
   exact G.r (.string (mkS [48])) ⟨rfl,by rw [hz,Hf]⟩
 ·rw [show Ap p q=(p,q) by unfold Ap; rw [if_neg fun e=>hsw ((Dp.sym _ _).2 e)]];refine G.c call93 (Dq q p false (decide_eq_false hsw)) ?_;rintro v0 u0 l0 rfl;refine G.l (ι:=Nat) (fun i=>[(4,.p 1 0),(5,.p 2 0),(15,.v (.slice a2 Q.length c2)),(16,.v (.int .i64 (Q.length:Int))),(17,.v (.int .i64 (i:Int)))]) (fun _=>[(1,⟨79,[.v (.int .i64 p.1),.v (.string (mkS p.2))]⟩),(2,⟨79,[.v (.int .i64 q.1),.v (.string (mkS q.2))]⟩)])
   (fun i u' m'=>i≤Q.length∧(∀ j (hj:j < Q.length),j < i→(Q[j]'hj).1≠(p,q))∧m'=PH.mt) (fun i=>Q.length - i) 0 ⟨by omega,fun j hj h=>by omega,rfl⟩ ?_
  rintro J i hJ u1 m1 l1 ⟨hi,h0,rfl⟩;by_cases hlt:i < Q.length
  ·refine G.lT (i:Int) (Q.length:Int) ?_;have hTi:Q[i]?=some Q[i]:=List.getElem?_eq_getElem hlt;have hval:=(cQ.val _ (List.getElem_mem hlt)).1;obtain ⟨ba,oa,rfl,ea⟩:=Ab.at' (hQ.mono (l0.trans l1)) (j:=i) (e:=Da Q[i]) (by simp [hTi]);have hback:Q[i].1≠(p,q)→∀ j (hj:j < Q.length),j < i+1→(Q[j]'hj).1≠(p,q):=fun hne j hj h=>by
    rcases (by omega:j < i∨j=i) with e | rfl
    ·exact h0 j hj e
    ·exact hne
   refine G.a ba oa Q.length c2 i 5 (by omega) ?_;refine G.lU (some 5) ba (oa+i*5) (.agg #[.int .i64 Q[i].1.1.1,.string (mkS Q[i].1.1.2),.int .i64 Q[i].1.2.1,.string (mkS Q[i].1.2.2),.string (mkS (Af Q[i].2))]) ea ?_;by_cases he:Q[i].1.1=p
   ·refine G.eqAgg 79 #[.int .i64 Q[i].1.1.1,.string (mkS Q[i].1.1.2)] #[.int .i64 p.1,.string (mkS p.2)] true (by kernel_rfl) (by kernel_rfl) (by kernel_rfl) (fun w=>by rw [← decide_eq_true he]; exact Bt.eq Q[i].1.1 p w) ?_;by_cases he2:Q[i].1.2=q
    ·refine G.eqAgg 79 #[.int .i64 Q[i].1.2.1,.string (mkS Q[i].1.2.2)] #[.int .i64 q.1,.string (mkS q.2)] true (by kernel_rfl) (by kernel_rfl) (by kernel_rfl) (fun w=>by rw [← decide_eq_true he2]; exact Bt.eq Q[i].1.2 q w) ?_;exact G.r (.string (mkS (Af Q[i].2))) ⟨rfl,by rw [hval,show Q[i].1=(p,q) from Prod.ext he he2]⟩
    ·refine G.eqAgg 79 #[.int .i64 Q[i].1.2.1,.string (mkS Q[i].1.2.2)] #[.int .i64 q.1,.string (mkS q.2)] false (by kernel_rfl) (by kernel_rfl) (by kernel_rfl) (fun w=>by rw [← decide_eq_false he2]; exact Bt.eq Q[i].1.2 q w) ?_;refine G.i i ?_;exact G.b (hJ (i+1) _ _ _ cv l1 ⟨by omega,hback fun e=>he2 (congrArg Prod.snd e),rfl⟩ (by omega))
   ·refine G.eqAgg 79 #[.int .i64 Q[i].1.1.1,.string (mkS Q[i].1.1.2)] #[.int .i64 p.1,.string (mkS p.2)] false (by kernel_rfl) (by kernel_rfl) (by kernel_rfl) (fun w=>by rw [← decide_eq_false he]; exact Bt.eq Q[i].1.1 p w) ?_;refine G.i i ?_;exact G.b (hJ (i+1) _ _ _ cv l1 ⟨by omega,hback fun e=>he (congrArg Prod.fst e),rfl⟩ (by omega))
  ·obtain rfl:i=Q.length:=by omega
   refine G.lF (Q.length:Int) (Q.length:Int) ?_;have hz:F.t (p,q)=0:=cQ.out (p,q) fun hm=>by
    obtain ⟨x,hx,e⟩:=List.mem_map.1 hm;obtain ⟨j,hj,rfl⟩:=List.getElem_of_mem hx;exact h0 j hj hj e
   exact G.r (.string (mkS [48])) ⟨rfl,by rw [hz,Hf]⟩
end
section
open Go.RowKit Go.MapKept
variable {F:CF}{N' g:Nat}{q:Rat}{v x:Value}{y1 y3:Bool}{y2 y4:SlI}
section
variable {P:Program} [Ba P] {fn:Func} {Post:B0} {st:List KI×S} {u m:PH}
theorem Abm {env:Operand→Value}{o:Op}{t:TypeId}{L:List (Nat×Value)}(h:A7 P env o=.build t L):∃ ps:Array (Nat×Operand),o=.build t ps∧ps.toList.map (fun x=>(x.1,env x.2))=L:=by
 cases o <;> simp only [A7] at h <;> try cases h
 any_goals ((repeat' split at h) <;> cases h; done)
 ·exact ⟨_,rfl,rfl⟩
theorem G.buildArr (t e:TypeId)(p q:Par)(h:Al P (adv P st)=.build t [(0,An p),(1,An q)])(hu:P.underlying t=some (.array 2 e))(hs:szB P e=some 2)(hz:U8 P t=some (.agg #[.int .i64 0,.string (mkS []),.int .i64 0,.string (mkS [])]))
  (k:G P fn Post (nx (adv P st) (.agg #[.int .i64 p.1,.string (mkS p.2),.int .i64 q.1,.string (mkS q.2)])) u m):G P fn Post st u m:=by
 refine G.ask h (by simp) (fun env o hview w hp=>?_) k;obtain ⟨ps,e1,e2⟩:=Abm hview;obtain ⟨dst,opp,type,pos,after,guard⟩:=o;simp only at e1; subst e1;have e3:(ps.map fun x=>(x.1,env x.2)).toList = [(0,An p),(1,An q)]:=by rw [Array.toList_map]; exact e2
 simp only [execOp,Instr.build,Sem.run_bind,U3 hz,Result.andThen_ok,run_underlying hu,Bf hs,e3];rfl
end
def C5 {κ:Type}(enc:κ→Value)(K:κ→Prop)(u:PH)(o:Obj)(f:κ→Rat)(N:Nat):Prop :=
 ∃ l:List (κ×Value),Ec enc o l∧(∀ p∈l,QP u p.2 (f p.1)∧K p.1∧Sz (f p.1) 12)∧(∀ k,k∉l.map (·.1)→f k=0)∧l.length≤N
section
variable {κ:Type} [DecidableEq κ] {enc:κ→Value} {K:κ→Prop} {u:PH} {o:Obj} {f:κ→Rat} {N:Nat}
theorem C5.mono {u':PH}(h:C5 enc K u o f N)(hl:PH.le u u'):C5 enc K u' o f N:=by
 obtain ⟨l,h1,h2,h3,h4⟩:=h;exact ⟨l,h1,fun p hp=>⟨(h2 p hp).1.mono hl,(h2 p hp).2⟩,h3,h4⟩
theorem C5.up (h:C5 enc K u o f N)(hN:N≤N'):C5 enc K u o f N':=by
 obtain ⟨l,h1,h2,h3,h4⟩:=h;exact ⟨l,h1,h2,h3,Nat.le_trans h4 hN⟩
theorem C5.congr {f':κ→Rat}(h:C5 enc K u o f N)(e:∀ k,f k=f' k):C5 enc K u o f' N:=by
 rw [← funext e]; exact h
theorem C5.empty:C5 enc K u (.map #[] 0) (fun _=>0) 0:=⟨[],Ec.empty,by simp,fun _ _=>rfl,Nat.le_refl _⟩
theorem C5.put {o':Obj}{a:κ}{x:Value}{q:Rat}{l:List (κ×Value)}(ho:Ec enc o l)(h2:∀ p∈l,QP u p.2 (f p.1)∧K p.1∧Sz (f p.1) 12)(h3:∀ k,k∉l.map (·.1)→f k=0)(h4:l.length≤N)
  (h':Ec enc o' (H5 a x l)) (hx:QP u x q) (hk:K a) (hs:Sz q 12):C5 enc K u o' (Hb f a q) (N+1):=by
 refine ⟨_,h',fun p hp=>?_,fun k hk=>?_,Nat.le_trans Lc (by omega)⟩
 ·unfold Hb;rcases Ry ho.nodup hp with rfl | ⟨hp,hne⟩
  ·simp only [if_true]; exact ⟨hx,hk,hs⟩
  ·rw [if_neg hne]; exact h2 p hp
 ·rw [Pm,not_or] at hk;unfold Hb; rw [if_neg hk.1]; exact h3 k hk.2
end
def KT {κ:Type}(_:κ):Prop:=True
def KO (k:Par×Par):Prop:=¬ 0 < A8 k.1 k.2
theorem KO.pair (p q:Par):KO (Ap p q):=by
 unfold KO Ap;have h1:=Dp.sym p q;have h2:=Dp.sym q p;by_cases h:0 < A8 p q
 ·rw [if_pos h]; simp only; omega
 ·rw [if_neg h]; exact h
def H6 (m' u:PH)(v:Value)(F:CF)(N:Nat):Prop :=
 ∃ b a n c b' a' n' c' g1 g2 o1 o2,v=.agg #[.bool b,.slice a n c,.bool b',.slice a' n' c',.map (some g1),.map (some g2)]∧QP u (.agg #[.bool b,.slice a n c,.bool b',.slice a' n' c']) F.c∧g1≠g2∧m'=(PH.mt.upd g1 o1).upd g2 o2∧C5 An KT u o1 F.s N∧C5 prV KO u o2 F.t N
def Ov (u:PH)(v:Value)(F:CF)(N:Nat):Prop :=
 ∃ b a n c b' a' n' c' g1 g2 o1 o2,v=.agg #[.bool b,.slice a n c,.bool b',.slice a' n' c',.map (some g1),.map (some g2)]∧QP u (.agg #[.bool b,.slice a n c,.bool b',.slice a' n' c']) F.c∧u g1=some o1∧u g2=some o2∧C5 An KT u o1 F.s N∧C5 prV KO u o2 F.t N
theorem Ov.mono {u u':PH}{v:Value}{F:CF}{N:Nat}(h:Ov u v F N)(hl:PH.le u u'):Ov u' v F N:=by
 obtain ⟨b,a,n,c,b',a',n',c',g1,g2,o1,o2,e,h1,h2,h3,h4,h5⟩:=h;exact ⟨b,a,n,c,b',a',n',c',g1,g2,o1,o2,e,h1.mono hl,hl _ _ h2,hl _ _ h3,h4.mono hl,h5.mono hl⟩
theorem H6.grow {m' u u':PH}{N:Nat}(h:H6 m' u v F N)(hl:PH.le u u'):H6 m' u' v F N:=by
 obtain ⟨b,a,n,c,b',a',n',c',g1,g2,o1,o2,e,h1,h2,h3,h4,h5⟩:=h;exact ⟨b,a,n,c,b',a',n',c',g1,g2,o1,o2,e,h1.mono hl,h2,h3,h4.mono hl,h5.mono hl⟩
theorem H6.give {m' u u':PH}{N:Nat}(h:H6 m' u v F N)(hl:PH.le u u')(hm:PH.le m' u'):Ov u' v F N:=by
 obtain ⟨b,a,n,c,b',a',n',c',g1,g2,o1,o2,e,h1,h2,rfl,h4,h5⟩:=h;exact ⟨b,a,n,c,b',a',n',c',g1,g2,o1,o2,e,h1.mono hl,hm _ _ (by rw [Ad _ _ h2,Ac]),hm _ _ (Ac _ _ _),h4.mono hl,h5.mono hl⟩
theorem H6.congr {m' u:PH}{F F':CF}{N N':Nat}(h:H6 m' u v F N)(e:F=F')(hN:N≤N'):H6 m' u v F' N':=by
 subst e;obtain ⟨b,a,n,c,b',a',n',c',g1,g2,o1,o2,e,h1,h2,h3,h4,h5⟩:=h;exact ⟨b,a,n,c,b',a',n',c',g1,g2,o1,o2,e,h1,h2,h3,h4.up hN,h5.up hN⟩
theorem No {u:PH}{N:Nat}(h:Ov u v F N):∃ b a n c b' a' n' c' g1 g2,v=.agg #[.bool b,.slice a n c,.bool b',.slice a' n' c',.map (some g1),.map (some g2)]:=by
 obtain ⟨b,a,n,c,b',a',n',c',g1,g2,o1,o2,e,_⟩:=h;exact ⟨b,a,n,c,b',a',n',c',g1,g2,e⟩
theorem Ln {m' u:PH}{N:Nat}(h:H6 m' u v F N):∃ b a n c b' a' n' c' g1 g2,v=.agg #[.bool b,.slice a n c,.bool b',.slice a' n' c',.map (some g1),.map (some g2)]:=by
 obtain ⟨b,a,n,c,b',a',n',c',g1,g2,o1,o2,e,_⟩:=h;exact ⟨b,a,n,c,b',a',n',c',g1,g2,e⟩
theorem Hi {u:PH}{n:Int}(h1:-9223372036854775807≤n)(h2:n≤9223372036854775807):Ai prog 63 [.int .i64 n] u PH.mt fun v u' m'=>H6 m' u' v ⟨(n:Rat),fun _=>0,fun _=>0⟩ 0:=by
 refine Ai.o func63 ?_;refine G.c call27 (Pq h1 h2) ?_;intro v1 u1 l1 k1;obtain ⟨b,a,nn,c,a',n',c',rfl,_⟩:=k1.opn;refine G.mapMk (by kernel_rfl) ?_;intro g1 hm1 hu1;refine G.mapMk (by kernel_rfl) ?_;intro g2 hm2 hu2;have hne:g1≠g2:=fun e=>by subst e; rw [Ac] at hm2; cases hm2
 exact G.r (.agg #[.bool b,.slice a nn c,.bool false,.slice a' n' c',.map (some g1),.map (some g2)]) ⟨b,a,nn,c,false,a',n',c',g1,g2,_,_,rfl,k1,hne,rfl,C5.empty,C5.empty⟩
theorem Lp {u:PH}{g2:Option Nat}{o:Obj}{f:Par→Rat}{N:Nat}{a:Par}(h:C5 An KT u o f N)(hx:QP u x q)(hq:SB q)(hf:SB (f a))(hs:SB (q+f a)) :
  Ai prog 137 [.agg #[.bool y1,.slice y2.1 y2.2.1 y2.2.2,.bool y3,.slice y4.1 y4.2.1 y4.2.2,.map (some g),.map g2],An a,x] u (Qt g o) fun v u' m'=>∃ o',m'=Qt g o'∧C5 An KT u' o' (Hb f a (q+f a)) (N+1):=by
 obtain ⟨l,ho,h2,h3,h4⟩:=id h;obtain ⟨b,aa,n,c,a',n',c',rfl,_⟩:=hx.opn;refine Ai.o func137 ?_;cases hx':Fi a l with
 | none =>
  have hf0:f a=0:=h3 a (Fz.1 hx');have e0:q+f a=q:=by rw [hf0]; grind
  rw [e0] at hs ⊢;refine G.mapNot (et:=68) Bt fz g o l a (by kernel_rfl) (by kernel_rfl) (.inr (Cg _ _)) ho hx' ?_;refine G.mapPut (et:=68) Bt g o l a (.agg #[.bool b,.slice aa n c,.bool false,.slice a' n' c']) (by kernel_rfl) (by kernel_rfl) (Cg _ _) ho ?_;intro o' ho';exact G.r (.tuple #[]) ⟨o',Dh _ _ _ _,C5.put ho h2 h3 h4 ho' hx trivial hs.sz⟩
 | some xv =>
  obtain ⟨hr,_,_⟩:=h2 _ (Hk hx');obtain ⟨b1,a1,n1,c1,a1',n1',c1',rfl,_⟩:=hr.opn;refine G.mapHas (et:=68) Bt fz g o l a (.agg #[.bool b1,.slice a1 n1 c1,.bool false,.slice a1' n1' c1']) (by kernel_rfl) (by kernel_rfl) (.inr (Cg _ _)) ho hx' ?_;refine G.c call33 (Lw hx hr (hq.sz.mono (by omega)) (hf.sz.mono (by omega))) ?_;intro v1 u1 l1 k1;obtain ⟨b2,a2,n2,c2,a2',n2',c2',rfl,_⟩:=k1.opn;refine G.mapPut (et:=68) Bt g o l a (.agg #[.bool b2,.slice a2 n2 c2,.bool false,.slice a2' n2' c2']) (by kernel_rfl) (by kernel_rfl) (Cg _ _) ho ?_;intro o' ho';exact G.r (.tuple #[]) ⟨o',Dh _ _ _ _,C5.put ho (fun p hp=>⟨(h2 p hp).1.mono l1,(h2 p hp).2⟩) h3 h4 ho' k1 trivial hs.sz⟩
theorem F7 {u:PH}{g1:Option Nat}{o:Obj}{f:Par×Par→Rat}{N:Nat}{p r:Par}(h:C5 prV KO u o f N)(hx:QP u x q)(hq:SB q)(hf:SB (f (Ap p r)))(hs:SB (q+f (Ap p r))) :
  Ai prog 138 [.agg #[.bool y1,.slice y2.1 y2.2.1 y2.2.2,.bool y3,.slice y4.1 y4.2.1 y4.2.2,.map g1,.map (some g)],An p,An r,x] u (Qt g o) fun v u' m'=>∃ o',m'=Qt g o'∧C5 prV KO u' o' (Hb f (Ap p r) (q+f (Ap p r))) (N+1):=by
 obtain ⟨b,aa,n,c,a',n',c',rfl,_⟩:=hx.opn;refine Ai.o func138 ?_;have ko:=KO.pair p r;by_cases hlt:A8 r p < 0
 ·have he:Ap p r=(r,p):=by unfold Ap; rw [if_pos ((Dp.sym r p).1 hlt)]
  rw [he] at hf hs ko ⊢;refine G.c call93 (Dq r p true (decide_eq_true hlt)) ?_;rintro v0 u0 l0 rfl;obtain ⟨l,ho,h2,h3,h4⟩:=h.mono l0;have hx:=hx.mono l0;cases hx':Fi (r,p) l with
  | none =>
   have hf0:f (r,p)=0:=h3 _ (Fz.1 hx');have e0:q+f (r,p)=q:=by rw [hf0]; grind
   rw [e0] at hs ⊢;refine G.buildArr 206 79 r p (by kernel_rfl) (by kernel_rfl) (by kernel_rfl) (by kernel_rfl) ?_;refine G.mapNot (et:=68) G1 fz g o l (r,p) (by kernel_rfl) (by kernel_rfl) (.inr (Cg _ _)) ho hx' ?_;refine G.mapPut (et:=68) G1 g o l (r,p) (.agg #[.bool b,.slice aa n c,.bool false,.slice a' n' c']) (by kernel_rfl) (by kernel_rfl) (Cg _ _) ho ?_;intro o' ho';exact G.r (.tuple #[]) ⟨o',Dh _ _ _ _,C5.put ho h2 h3 h4 ho' hx ko hs.sz⟩
  | some xv =>
   obtain ⟨hr,_,_⟩:=h2 _ (Hk hx');obtain ⟨b1,a1,n1,c1,a1',n1',c1',rfl,_⟩:=hr.opn;refine G.buildArr 206 79 r p (by kernel_rfl) (by kernel_rfl) (by kernel_rfl) (by kernel_rfl) ?_;refine G.mapHas (et:=68) G1 fz g o l (r,p) (.agg #[.bool b1,.slice a1 n1 c1,.bool false,.slice a1' n1' c1']) (by kernel_rfl) (by kernel_rfl) (.inr (Cg _ _)) ho hx' ?_;refine G.c call33 (Lw hx hr (hq.sz.mono (by omega)) (hf.sz.mono (by omega))) ?_;intro v1 u1 l1 k1;obtain ⟨b2,a2,n2,c2,a2',n2',c2',rfl,_⟩:=k1.opn;refine G.mapPut (et:=68) G1 g o l (r,p) (.agg #[.bool b2,.slice a2 n2 c2,.bool false,.slice a2' n2' c2']) (by kernel_rfl) (by kernel_rfl) (Cg _ _) ho ?_;intro o' ho';exact G.r (.tuple #[]) ⟨o',Dh _ _ _ _,C5.put ho (fun p hp=>⟨(h2 p hp).1.mono l1,(h2 p hp).2⟩) h3 h4 ho' k1 ko hs.sz⟩
 ·have he:Ap p r=(p,r):=by unfold Ap; rw [if_neg (fun e=>hlt ((Dp.sym r p).2 e))]
  rw [he] at hf hs ko ⊢;refine G.c call93 (Dq r p false (decide_eq_false hlt)) ?_;rintro v0 u0 l0 rfl;obtain ⟨l,ho,h2,h3,h4⟩:=h.mono l0;have hx:=hx.mono l0;cases hx':Fi (p,r) l with
  | none =>
   have hf0:f (p,r)=0:=h3 _ (Fz.1 hx');have e0:q+f (p,r)=q:=by rw [hf0]; grind
   rw [e0] at hs ⊢;refine G.buildArr 206 79 p r (by kernel_rfl) (by kernel_rfl) (by kernel_rfl) (by kernel_rfl) ?_;refine G.mapNot (et:=68) G1 fz g o l (p,r) (by kernel_rfl) (by kernel_rfl) (.inr (Cg _ _)) ho hx' ?_;refine G.mapPut (et:=68) G1 g o l (p,r) (.agg #[.bool b,.slice aa n c,.bool false,.slice a' n' c']) (by kernel_rfl) (by kernel_rfl) (Cg _ _) ho ?_;intro o' ho';exact G.r (.tuple #[]) ⟨o',Dh _ _ _ _,C5.put ho h2 h3 h4 ho' hx ko hs.sz⟩
  | some xv =>
   obtain ⟨hr,_,_⟩:=h2 _ (Hk hx');obtain ⟨b1,a1,n1,c1,a1',n1',c1',rfl,_⟩:=hr.opn;refine G.buildArr 206 79 p r (by kernel_rfl) (by kernel_rfl) (by kernel_rfl) (by kernel_rfl) ?_;refine G.mapHas (et:=68) G1 fz g o l (p,r) (.agg #[.bool b1,.slice a1 n1 c1,.bool false,.slice a1' n1' c1']) (by kernel_rfl) (by kernel_rfl) (.inr (Cg _ _)) ho hx' ?_;refine G.c call33 (Lw hx hr (hq.sz.mono (by omega)) (hf.sz.mono (by omega))) ?_;intro v1 u1 l1 k1;obtain ⟨b2,a2,n2,c2,a2',n2',c2',rfl,_⟩:=k1.opn;refine G.mapPut (et:=68) G1 g o l (p,r) (.agg #[.bool b2,.slice a2 n2 c2,.bool false,.slice a2' n2' c2']) (by kernel_rfl) (by kernel_rfl) (Cg _ _) ho ?_;intro o' ho';exact G.r (.tuple #[]) ⟨o',Dh _ _ _ _,C5.put ho (fun p hp=>⟨(h2 p hp).1.mono l1,(h2 p hp).2⟩) h3 h4 ho' k1 ko hs.sz⟩
end
section
open Go.RowKit Go.MapKept
end
section
open Go.RowKit Go.MapKept
variable {i:Nat}{s:List UInt8}
section rules
variable {P:Program} [Ba P] {fn:Func} {Post:B0} {st:List KI×S} {u m:PH}
theorem G.convBU (e:TypeId)(l:List UInt8)(b n c:Nat)(h:Al P (adv P st)=.conv (some (.slice e)) (some .string) (.slice (some ⟨b,0,none⟩) n c))(he:P.underlying e=some (.int .u8))(hn:n=l.length)
  (ha:El u b 0 1 (Bc l)) (k:G P fn Post (nx (adv P st) (.string (mkS l))) u m):G P fn Post st u m:=by
 refine G.ask h (by simp) (fun env o hview w hp=>?_) k;obtain ⟨s,d,X,e1,e2,e3,e4⟩:=Ja hview;obtain ⟨dst,opp,type,pos,after,guard⟩:=o;simp only at e1; subst e1;have hm:=(hp (by simp [F2,V1 e4 (by simp)])).1;subst hn;have:=run_convert_bytes_back (P:=P) w s d e ⟨b,0,none⟩ c l e3 he e4 (fun j hj=>by
  have h1:=ha j (.int .u8 (l[j].toNat:Int)) (by simp [Bc,hj]);have h2:=(h1 0 (.int .u8 (l[j].toNat:Int)) (by simp [Value.cells])).cell hm;rw [Db]; simpa using h2)
 simp [execOp,e2,this]
end rules
def Uj (i:Nat):UInt8:=UInt8.ofNat (97+i)
theorem Rk (h:i < 26):(Uj i).toNat=97+i:=by
 unfold Uj; rw [UInt8.toNat_ofNat']; omega
theorem N9 {u:PH}{p:List UInt8}(hi:i < 26)(hp:p.length≤1000):Fn0 prog 179 [.string (mkS p),.int .i64 (i:Int)] u fun v _=>v=.string (mkS (p++[Uj i])):=by
 refine Fn0.o func179 ?_;refine G.remZ (i:Int) 26 (i:Int) (by kernel_rfl) (by omega) (by omega) (by rw [Int.tmod_eq_emod_of_nonneg (by omega)]; omega) ?_;refine G.p 97 (i:Int) ((97+i:Nat):Int) ?_;refine G.convI .i64 .u8 .i64 ((97+i:Nat):Int) ((97+i:Nat):Int) (by kernel_rfl) ?_ ?_
 ·simp only [IntKind.wrap,IntKind.signed,IntKind.bits]; simp; omega
 have hb : [Value.int .u8 ((97+i:Nat):Int)]=Bc [Uj i]:=by unfold Bc; rw [List.map_cons,Rk hi]; rfl
 refine G.B 5 1 1 (.int .u8 0) [.int .u8 ((97+i:Nat):Int)] (by rw [hb]; exact Jh _) ?_;intro g u1 l1 e1;rw [hb] at e1;refine G.convBU 5 [Uj i] g 1 1 (by kernel_rfl) (by kernel_rfl) rfl e1 ?_;refine G.addS p [Uj i] (by kernel_rfl) (by simp; omega) ?_;exact G.r _ ⟨rfl,rfl⟩
def Ack:List UInt8:=[114,101,100]
def M0:List UInt8:=[103,114,101,101,110]
def Tg:List UInt8:=[98,108,117,101]
def Ac1 (s:List UInt8):Bool:=Gw s && (s == Ack || s == M0 || s == Tg)
theorem Ag0 (h:Ac1 s=true):Gw s=true:=by
 unfold Ac1 at h;rw [Bool.and_eq_true] at h;exact h.1
theorem Alx (h:Ac1 s=true):s=Ack∨s=M0∨s=Tg:=by
 unfold Ac1 at h;simp only [Bool.and_eq_true,Bool.or_eq_true,beq_iff_eq] at h;rcases h.2 with (h | h) | h
 ·exact .inl h
 ·exact .inr (.inl h)
 ·exact .inr (.inr h)
def Ii (k:Nat)(s:List UInt8):Prop:=s = []∨(k=3∧Ac1 s=true)∨(k=1∧∃ z:Int,z.natAbs≤1000000000∧s=Lib.itoa z)∨(k=2∧∃ q,SmR q∧s=Af q)
theorem Eu {q:Rat}(h:Af q=s)(hq:SmR q):Ii 2 s:=.inr (.inr (.inr ⟨rfl,q,hq,h.symm⟩))
theorem P0 {z:Int}(h:Lib.itoa z=s)(hz:z.natAbs≤1000000000):Ii 1 s:=.inr (.inr (.inl ⟨rfl,z,hz,h.symm⟩))
theorem Aga {u:PH}{s:Src}{ts:List Int}{k:Nat}{x:List UInt8×Nat}(h:H0 u s ts)(hk:k≤s.n)(h1:1≤x.2)(h3:x.2≤3) :
  Ai prog 180 [s.ptr,D0 x] u (s.M k) fun v _ m'=>∃ (t:List UInt8) (k':Nat),v=.string (mkS t)∧Ii x.2 t∧k'≤s.n∧m'=s.M k':=by
 obtain ⟨nm,kd⟩:=x;simp only at h1 h3 ⊢;refine Ai.o func180 ?_;refine G.A call73 (Ia (n:=9) h hk (by omega) (by omega)) ?_;rintro v1 u1 m1 l1 ⟨r,k1,rfl,hr,hk1,rfl⟩ _;rw [C2];by_cases h8:r=8
 ·refine G.eT (r:Int) 8 ?_;exact G.r (.string (mkS [])) ⟨[],k1,rfl,.inl rfl,hk1,rfl⟩
 refine G.eF (r:Int) 8 ?_;by_cases hk3:kd=3
 ·subst hk3;refine G.eT ((3:Nat):Int) 3 ?_;refine G.B 9 1 16 (.string (mkS [])) [.string (mkS Ack),.string (mkS M0),.string (mkS Tg)] (G4 [Ack,M0,Tg]) ?_;intro g u2 l2 e2;obtain ⟨i,hi⟩:∃ i,i=r % 3:=⟨_,rfl⟩;have hi3:i < 3:=by omega
  refine G.remZ (r:Int) 3 (i:Int) (by kernel_rfl) (by omega) (by omega) (by rw [Int.tmod_eq_emod_of_nonneg (by omega)]; omega) ?_;refine G.a g 0 3 3 i 1 hi3 ?_;obtain ⟨t,ht,hw⟩:∃ t,ElP u2 g (0+i*1) (.string (mkS t))∧Ac1 t=true:=by
   rcases (by omega:i=0∨i=1∨i=2) with h | h | h
   ·rw [h]; exact ⟨Ack,e2 0 _ rfl,by decide +kernel⟩
   ·rw [h]; exact ⟨M0,e2 1 _ rfl,by decide +kernel⟩
   ·rw [h]; exact ⟨Tg,e2 2 _ rfl,by decide +kernel⟩
  refine G.lU none g (0+i*1) (.string (mkS t)) ht ?_;exact G.r (.string (mkS t)) ⟨t,k1,rfl,.inr (.inl ⟨rfl,hw⟩),hk1,rfl⟩
 refine G.eF (kd:Int) 3 ?_;by_cases hk2:kd=1
 ·subst hk2;refine G.eT ((1:Nat):Int) 1 ?_;refine G.B 9 1 16 (.string (mkS [])) [.string (mkS [49]),.string (mkS [50]),.string (mkS [49,48])] (G4 [[49],[50],[49,48]]) ?_;intro g u2 l2 e2;obtain ⟨i,hi⟩:∃ i,i=r % 3:=⟨_,rfl⟩;have hi3:i < 3:=by omega
  refine G.remZ (r:Int) 3 (i:Int) (by kernel_rfl) (by omega) (by omega) (by rw [Int.tmod_eq_emod_of_nonneg (by omega)]; omega) ?_;refine G.a g 0 3 3 i 1 hi3 ?_;obtain ⟨t,ht,hw⟩:∃ t,ElP u2 g (0+i*1) (.string (mkS t))∧Ii 1 t:=by
   rcases (by omega:i=0∨i=1∨i=2) with h | h | h
   ·rw [h]; exact ⟨[49],e2 0 _ rfl,P0 (z:=1) (by decide +kernel) (by decide)⟩
   ·rw [h]; exact ⟨[50],e2 1 _ rfl,P0 (z:=2) (by decide +kernel) (by decide)⟩
   ·rw [h]; exact ⟨[49,48],e2 2 _ rfl,P0 (z:=10) (by decide +kernel) (by decide)⟩
  refine G.lU none g (0+i*1) (.string (mkS t)) ht ?_;exact G.r (.string (mkS t)) ⟨t,k1,rfl,hw,hk1,rfl⟩
 refine G.eF (kd:Int) 1 ?_;obtain rfl:kd=2:=by omega
 refine G.B 9 1 16 (.string (mkS [])) [.string (mkS [48]),.string (mkS [49]),.string (mkS [45,50]),.string (mkS [49,47,50]),.string (mkS [51]),.string (mkS [53,47,51]),.string (mkS [49]),.string (mkS [50])] (G4 [[48],[49],[45,50],[49,47,50],[51],[53,47,51],[49],[50]]) ?_;intro g u2 l2 e2;refine G.a g 0 8 8 r 1 (by omega) ?_;obtain ⟨t,ht,hw⟩:∃ t,ElP u2 g (0+r*1) (.string (mkS t))∧Ii 2 t:=by
  rcases (by omega:r=0∨r=1∨r=2∨r=3∨r=4∨r=5∨r=6∨r=7) with h | h | h | h | h | h | h | h
  ·rw [h]; exact ⟨_,e2 0 _ rfl,Eu (q:=0) (by decide +kernel) ⟨by decide +kernel,by decide +kernel⟩⟩
  ·rw [h]; exact ⟨_,e2 1 _ rfl,Eu (q:=1) (by decide +kernel) ⟨by decide +kernel,by decide +kernel⟩⟩
  ·rw [h]; exact ⟨_,e2 2 _ rfl,Eu (q:=-2) (by decide +kernel) ⟨by decide +kernel,by decide +kernel⟩⟩
  ·rw [h]; exact ⟨_,e2 3 _ rfl,Eu (q:=1 / 2) (by decide +kernel) ⟨by decide +kernel,by decide +kernel⟩⟩
  ·rw [h]; exact ⟨_,e2 4 _ rfl,Eu (q:=3) (by decide +kernel) ⟨by decide +kernel,by decide +kernel⟩⟩
  ·rw [h]; exact ⟨_,e2 5 _ rfl,Eu (q:=5 / 3) (by decide +kernel) ⟨by decide +kernel,by decide +kernel⟩⟩
  ·rw [h]; exact ⟨_,e2 6 _ rfl,Eu (q:=1) (by decide +kernel) ⟨by decide +kernel,by decide +kernel⟩⟩
  ·rw [h]; exact ⟨_,e2 7 _ rfl,Eu (q:=2) (by decide +kernel) ⟨by decide +kernel,by decide +kernel⟩⟩
 refine G.lU none g (0+r*1) (.string (mkS t)) ht ?_;exact G.r (.string (mkS t)) ⟨t,k1,rfl,hw,hk1,rfl⟩
end
section
open Go.RowKit Go.MapKept
theorem Af2 {u:PH}{s:Src}{ts:List Int}{k:Nat}{v w x y:Value}{T:List (List UInt8×Nat)}(h:H0 u s ts)(hk:k≤s.n)(hT:Ab u v 2 (T.map D0))(hl:T.length≤1000)(hkd:∀ a∈T,1≤a.2∧a.2≤3)(hw:∃ a n c,w=.slice a n c)(hx:∃ a n c,x=.slice a n c)(hy:∃ z:Int,y=.int .i64 z) :
  Ai prog 103 [s.ptr,.agg #[v,w,x,y]] u (s.M k) fun r u' m'=>∃ (ss:List (List UInt8)) (k':Nat),Ab u' r 1 (ss.map nmV)∧ss.length=T.length∧(∀ (i:Nat) (x:List UInt8×Nat) (t:List UInt8),T[i]?=some x→ss[i]?=some t→Ii x.2 t)∧k'≤s.n∧m'=s.M k':=by
 obtain ⟨a,c,rfl⟩:=hT.opn;obtain ⟨wa,wn,wc,rfl⟩:=hw;obtain ⟨xa,xn,xc,rfl⟩:=hx;obtain ⟨z,rfl⟩:=hy;rw [List.length_map] at hT ⊢;refine Ai.o func103 ?_;refine G.l (ι:=Nat×Nat×List (List UInt8)×(Option Addr×Nat)) (fun i=>[(0,.v s.ptr),(5,.v (.slice i.2.2.2.1 i.2.2.1.length i.2.2.2.2)),(9,.v (.slice a T.length c)),(10,.v (.int .i64 (T.length:Int))),(11,.v (.int .i64 (i.1:Int)))]) (fun _=>[])
  (fun i u' m'=>i.1≤T.length∧i.2.1≤s.n∧i.2.2.1.length=i.1∧(∀ (j:Nat) (x:List UInt8×Nat) (t:List UInt8),T[j]?=some x→i.2.2.1[j]?=some t→Ii x.2 t)∧Bag m' [s.arr i.2.1,Acm i.2.2.2.1 i.2.2.2.2 i.2.2.1])
  (fun i=>T.length - i.1) (0,k,[],(none,0))
  ⟨Nat.zero_le _,hk,rfl,fun j x t _ ht=>by simp at ht,s.bag0 k ⟨PH.mt,Ae.nil _ _ _,trivial⟩⟩ ?_
 rintro J ⟨i,k1,ss,⟨na,nc⟩⟩ hJ u1 m1 l1 ⟨hi,hk1,hsl,hss,hbag⟩;simp only at hi hk1 hsl hss hbag hJ;obtain ⟨m0,hsrc,hL⟩:=hbag;obtain ⟨rfl,hg0⟩:=Src.split hsrc;by_cases hlt:i < T.length
 ·refine G.lT (i:Int) (T.length:Int) ?_;have hTi:T[i]?=some T[i]:=List.getElem?_eq_getElem hlt;obtain ⟨hk1',hk3'⟩:=hkd T[i] (List.getElem_mem hlt);obtain ⟨ba,oa,rfl,ea⟩:=Ab.at' (hT.mono l1) (j:=i) (e:=D0 T[i]) (by simp [hTi]);generalize T[i]=q at ea hTi hk1' hk3';refine G.a ba oa T.length c i 2 hlt ?_;refine G.lU (some 2) ba (oa+i*2) (.agg #[.string (mkS q.1),.int .i64 (q.2:Int)]) ea ?_;refine G.D call180 (Src.apart hg0) (Aga (x:=q) (h.mono l1) hk1 hk1' hk3') ?_;rintro v2 u2 m2 l2 ⟨t,k2,rfl,hv,hk2,rfl⟩ _;refine G.B 9 1 16 (.string (mkS [])) [.string (mkS t)] (G4 [t]) ?_;intro g3 u3 l3 e3;have hbag2:Bag (m0.or (s.M k2)) [s.arr k2,Acm na nc ss]:=⟨m0,Src.at hg0,hL⟩;obtain ⟨mm,hx0,hput⟩:=hbag2.focus 1 rfl;rw [Aeg] at hx0;refine G.k 9 1 16 (.string (mkS [])) mm (ss.map nmV) [.string (mkS t)] (.slice na ss.length nc) g3 0 1 1 hx0 e3 (G4 [t]) ?_;intro v4 m4 hx4;rw [show ss.map nmV++[.string (mkS t)]=(ss++[t]).map nmV by rw [List.map_append]; rfl] at hx4;obtain ⟨a4,c4,rfl⟩:=hx4.shape;rw [List.length_map] at hx4 ⊢;have hbag3:=hput (Acm a4 c4 (ss++[t])) m4 hx4;refine G.i i ?_;refine G.b (hJ (i+1,k2,ss++[t],(a4,c4)) _ _ _ cv ((l1.trans l2).trans l3) ⟨by dsimp only; omega,hk2,by dsimp only; simp [hsl],?_,hbag3⟩ (by dsimp only; omega));intro j x' t' hx' ht';dsimp only at ht';rcases Nat.lt_or_ge j ss.length with hj | hj
  ·rw [List.getElem?_append_left hj] at ht';exact hss j x' t' hx' ht'
  ·rw [List.getElem?_append_right hj] at ht';have hj0:j - ss.length=0:=by
    obtain ⟨h',_⟩:=List.getElem?_eq_some_iff.1 ht';simp at h'; omega
   rw [hj0] at ht';obtain rfl:j=i:=by omega
   rw [hTi] at hx';cases hx';simp at ht';subst ht';exact hv
 ·obtain rfl:i=T.length:=by omega
  refine G.lF (T.length:Int) (T.length:Int) ?_;refine G.giveP (ma:=m0) (sm:=s.M k1) (by kernel_rfl) rfl (Src.apart hg0) (s.h0 k k1) ?_;intro u2 l2 hm;exact G.r (.slice na ss.length nc) ⟨ss,k1,hL.list hm 0 rfl,hsl,hss,hk1,rfl⟩
end
section
open Go.RowKit Go.MapKept
variable {C:CF}{F:List Ao}{a i:Nat}{f:Ao}{lab:Int}{p:Par}{q:Rat}{ss:List (List UInt8)}{w:List UInt8}
structure CF.One (F:CF):Prop where
 c:F.c=1
 t:∀ k,F.t k=if 0 < A8 k.1 k.2 then 0 else F.s k.1*F.s k.2
theorem CF.One.num:(CF.num 1).One:=⟨rfl,fun k=>by
 show (0:Rat)=if 0 < A8 k.1 k.2 then 0 else (0:Rat)*0
 split
 ·rfl
 ·grind⟩
theorem An8 (p:Par)(q:Rat)(k:Par):(CF.one1 p q).s k=if k=p then q else 0:=rfl
theorem CF.One.one1 (p:Par)(q:Rat):(CF.one1 p q).One:=⟨rfl,fun k=>by
 show (if k=(p,p) then q*q else 0)=if 0 < A8 k.1 k.2 then 0 else (if k.1=p then q else 0)*(if k.2=p then q else 0)
 obtain ⟨x,y⟩:=k;by_cases h:(x,y)=(p,p)
 ·obtain ⟨e1,e2⟩:=Prod.mk.inj h;subst e2;rw [e1];have:=Dp.refl y;rw [if_pos rfl,if_neg (by simp only; omega)];simp
 ·rw [if_neg h];split
  ·rfl
  ·by_cases h1:x=p
   ·have h2:y≠p:=fun e=>h (by rw [h1,e]);simp only [h2,if_false]; grind
   ·simp only [h1,if_false]; grind⟩
theorem CF.One.mul {F G:CF}(hF:F.One)(hG:G.One):(F.mul G).One∧∀ p,(F.mul G).s p=F.s p+G.s p:=by
 have hs:∀ p,(F.mul G).s p=F.s p+G.s p:=fun p=>by
  show G.s p*F.c+F.s p*G.c=_;rw [hF.c,hG.c]; grind
 refine ⟨⟨?_,fun k=>?_⟩,hs⟩
 ·show F.c*G.c=1;rw [hF.c,hG.c]; decide +kernel
 ·rw [hs,hs];show G.t k*F.c+F.t k*G.c+G3 F G k=_;rw [hF.c,hG.c,hF.t,hG.t];unfold G3;split
  ·grind
  ·split
   ·rename_i he;rw [← he]; grind
   ·grind
abbrev LF:Type:=Option (Option (Par×Rat))
def LF.cf:LF→CF
 | none=>CF.num 0
 | some none=>CF.num 1
 | some (some x)=>CF.one1 x.1 x.2
def Gr (C:CF)(L:List LF):CF:=L.foldl (fun c y=>c.mul y.cf) C
theorem Vm (C:CF)(L:List LF)(x:LF):Gr C (L++[x])=(Gr C L).mul x.cf:=by unfold Gr; rw [List.foldl_append]; rfl
theorem Ags (F:CF):(CF.num 0).mul F=CF.num 0:=by
 rw [CF.mul_comm]; exact CF.mul_zero F
theorem Uz:∀ L,Gr (CF.num 0) L=CF.num 0
 | []=>rfl
 | x::L=>by
  unfold Gr;rw [List.foldl_cons,Ags];exact Uz L
theorem Aez {L:List LF}(h:none∈L):Gr C L=CF.num 0:=by
 obtain ⟨A,B,rfl⟩:=List.append_of_mem h;unfold Gr;rw [List.foldl_append,List.foldl_cons];have:(List.foldl (fun c (y:LF)=>c.mul (LF.cf y)) C A).mul (LF.cf none)=CF.num 0:=CF.mul_zero _;rw [this];exact Uz B
theorem LF.one {x:LF}(h:x≠none):x.cf.One:=by
 match x,h with
 | some none,_=>exact CF.One.num
 | some (some x),_=>exact CF.One.one1 _ _
theorem Su:∀ {L:List LF} {C:CF},C.One→none∉L→(Gr C L).One
 | [],C,h,_=>h
 | x::L,C,h,hn=>by
  have hx:x≠none:=fun e=>hn (by rw [e]; exact List.mem_cons_self ..);unfold Gr;rw [List.foldl_cons];exact Su (h.mul (LF.one hx)).1 fun e=>hn (List.mem_cons_of_mem _ e)
theorem Xe {p:Par}:∀ {L:List LF} {C:CF},C.One→none∉L→(∀ q,some (some (p,q))∉L)→(Gr C L).s p=C.s p
 | [],C,h,_,_=>rfl
 | x::L,C,h,hn,hp=>by
  have hx:x≠none:=fun e=>hn (by rw [e]; exact List.mem_cons_self ..);have hm:=h.mul (LF.one hx);unfold Gr;rw [List.foldl_cons];have:=Xe (p:=p) hm.1 (fun e=>hn (List.mem_cons_of_mem _ e)) fun q e=>hp q (List.mem_cons_of_mem _ e);unfold Gr at this;rw [this,hm.2];have hz:x.cf.s p=0:=by
   match x,hx,hp with
   | some none,_,_=>rfl
   | some (some (p',q)),_,hp =>
    show (if p=p' then q else 0)=0;rw [if_neg fun e=>hp q (by rw [e]; exact List.mem_cons_self ..)]
  rw [hz]; grind
theorem Amd {L:List LF}(h:C.One)(hn:none∉L)(hc:C.s p=0)(ha:L[a]?=some (some (some (p,q))))(hd:∀ b q',L[b]?=some (some (some (p,q')))→b=a):(Gr C L).s p=q:=by
 obtain ⟨hal,hae⟩:=List.getElem?_eq_some_iff.1 ha;have e:L=L.take a++some (some (p,q))::L.drop (a+1):=by
  rw [← hae,List.getElem_cons_drop,List.take_append_drop]
 have hnA:none∉L.take a:=fun hh=>hn (List.mem_of_mem_take hh);have hnB:none∉L.drop (a+1):=fun hh=>hn (List.mem_of_mem_drop hh);have hpA:∀ q',some (some (p,q'))∉L.take a:=fun q' hh=>by
  obtain ⟨b,hb,hb2⟩:=List.getElem_of_mem hh;rw [List.length_take] at hb;rw [List.getElem_take] at hb2;have:=hd b q' (by rw [List.getElem?_eq_getElem (by omega),hb2]);omega
 have hpB:∀ q',some (some (p,q'))∉L.drop (a+1):=fun q' hh=>by
  obtain ⟨b,hb,hb2⟩:=List.getElem_of_mem hh;rw [List.length_drop] at hb;rw [List.getElem_drop] at hb2;have:=hd (a+1+b) q' (by rw [List.getElem?_eq_getElem (by omega),hb2]);omega
 rw [e];have hA:=Xe (p:=p) h hnA hpA;have hA1:=Su h hnA;have hM:=hA1.mul (CF.One.one1 p q);have hB:=Xe (p:=p) hM.1 hnB hpB;have:Gr C (L.take a++some (some (p,q))::L.drop (a+1))=Gr ((Gr C (L.take a)).mul (CF.one1 p q)) (L.drop (a+1)):=by
  unfold Gr; rw [List.foldl_append,List.foldl_cons]; rfl
 rw [this,hB,hM.2,hA,hc,An8,if_pos rfl]; grind
noncomputable def K6 (t:List UInt8):Rat:=open Classical in if h:∃ q,SmR q∧t=Af q then h.choose else 0
theorem P4 {t:List UInt8}(h:∃ q,SmR q∧t=Af q):SmR (K6 t)∧Af (K6 t)=t:=by
 unfold K6;rw [dif_pos h];exact ⟨h.choose_spec.1,h.choose_spec.2.symm⟩
noncomputable def Jk (i:Nat)(f:Ao)(w:List UInt8):LF:=if f.2.1=2 then some (some (((i:Int),w),1)) else if w = [] then (if f.2.2=1 then none else some none) else some (some (((i:Int),[]),K6 w))
noncomputable def O7 (w:List UInt8):LF:=if w = [] then none else some (some ((-1,[]),K6 w))
noncomputable def Fg (F:List Ao)(lab:Int)(a:Nat)(w:List UInt8):LF:=if (a:Int)=lab then O7 w else match F.findIdx? (fun f=>f.1 == a) with | some k=>Jk k (F.getD k (0,0,0)) w | none=>some none
noncomputable def Em (F:List Ao)(lab:Int)(ss:List (List UInt8)):List LF:=ss.mapIdx (Fg F lab)
theorem Gq (h:ss[a]?=some w):(Em F lab ss)[a]?=some (Fg F lab a w):=by
 unfold Em; rw [List.getElem?_mapIdx,h]; rfl
theorem F3 :(Em F lab ss).length=ss.length:=by unfold Em; simp
theorem Ahi (hn:(F.map (·.1)).Nodup)(hf:F[i]?=some f):F.findIdx? (fun g=>g.1 == f.1)=some i:=by
 obtain ⟨hi,rfl⟩:=List.getElem?_eq_some_iff.1 hf;refine List.findIdx?_eq_some_iff_getElem.2 ⟨hi,by simp,fun j hj=>?_⟩;simp only [beq_iff_eq];intro e;have:=(List.getElem_inj (xs:=F.map (·.1)) (h₀:=by rw [List.length_map]; omega) (h₁:=by rw [List.length_map]; omega) (i:=j) (j:=i) hn).1 (by rw [List.getElem_map,List.getElem_map]; exact e);omega
theorem Vo (hn:(F.map (·.1)).Nodup)(hf:F[i]?=some f)(hl:(f.1:Int)≠lab):Fg F lab f.1 w=Jk i f w:=by
 unfold Fg;rw [if_neg hl,Ahi hn hf];simp [List.getD_eq_getElem?_getD,hf]
theorem Ga (h:(a:Int)≠lab):Fg F lab a w=some none∨∃ (i:Nat) (f:Ao),F[i]?=some f∧f.1=a∧Fg F lab a w=Jk i f w:=by
 unfold Fg;rw [if_neg h];cases hx:F.findIdx? (fun f=>f.1 == a) with
 | none=>exact .inl rfl
 | some k =>
  obtain ⟨hk,h1,_⟩:=List.findIdx?_eq_some_iff_getElem.1 hx;right;refine ⟨k,F[k],List.getElem?_eq_getElem hk,by simpa using h1,?_⟩;simp [List.getD_eq_getElem?_getD,List.getElem?_eq_getElem hk]
theorem Ae0 (hl:-1≤lab){a b:Nat}{q q':Rat}(ha:(Em F lab ss)[a]?=some (some (some (p,q))))(hb:(Em F lab ss)[b]?=some (some (some (p,q')))):b=a:=by
 have key:∀ {a:Nat} {q:Rat},(Em F lab ss)[a]?=some (some (some (p,q)))→((a:Int)=lab∧p.1 = -1)∨∃ (i:Nat) (f:Ao),F[i]?=some f∧f.1=a∧p.1=(i:Int):=by
  intro a q ha;unfold Em at ha;rw [List.getElem?_mapIdx] at ha;cases hw:ss[a]? with
  | none=>rw [hw] at ha; cases ha
  | some w =>
   rw [hw] at ha;simp only [Option.map_some,Option.some.injEq] at ha;by_cases h:(a:Int)=lab
   ·left;unfold Fg O7 at ha;rw [if_pos h] at ha;split at ha
    ·cases ha
    ·cases ha; exact ⟨h,rfl⟩
   ·right;rcases Ga (F:=F) (w:=w) h with e | ⟨i,f,h1,h2,h3⟩
    ·rw [e] at ha; cases ha
    ·rw [h3] at ha;refine ⟨i,f,h1,h2,?_⟩;unfold Jk at ha;split at ha
     ·cases ha; rfl
     ·split at ha
      ·split at ha <;> cases ha
      ·cases ha; rfl
 rcases key ha with ⟨h1,h2⟩ | ⟨i,f,h1,h2,h3⟩ <;> rcases key hb with ⟨k1,k2⟩ | ⟨i',f',k1,k2,k3⟩
 ·omega
 ·omega
 ·omega
 ·obtain rfl:i'=i:=by omega
  rw [h1] at k1; cases k1;omega
end
section
open Go.RowKit Go.MapKept
variable {q:Rat}{t:List UInt8}{x:LF}
theorem Aa3 {m:PH}{b:Nat}{t:TypeId}{xs:List Value}{e:Value}(hm:m b=some (.cells xs.toArray t (0,0)))(he:e.cells=xs.toArray):ElP m b 0 e:=fun i x hx=>by
 refine ⟨_,_,_,hm,?_⟩;rw [he] at hx;simpa using hx
theorem H7.up {u:PH}{v:Value}{F:CF}{K K':Nat}(h:H7 u v F K)(hk:K≤K'):H7 u v F K':=by
 obtain ⟨T,Q,a1,c1,a2,c2,e,hT,hQ,cT,cQ,kT,kQ⟩:=h;exact ⟨T,Q,a1,c1,a2,c2,e,hT,hQ,cT,cQ,by omega,by omega⟩
theorem SmR.dat (h:SmR q):Dat q:=⟨by have:=h.num; omega,h.le⟩
theorem SmR.sb (h:SmR q):SB q:=h.dn.small (by omega) (pw (by decide +kernel))
theorem SmR.sb2 (h:SmR q):SB (q*q):=(h.dn.mul h.dn).small (by omega) (pw (by decide +kernel))
theorem Ih:SmR 1:=⟨by decide +kernel,by decide +kernel⟩
def LF.Small:LF→Prop
 | some (some x)=>SmR x.2∧PV x.1
 | _=>True
theorem LF.Small.cfd (h:x.Small):CFD 2 11664 x.cf:=by
 match x,h with
 | none,_=>exact CFD.count (Dn.zero _ _)
 | some none,_=>exact CFD.count ⟨144,by decide +kernel,by decide⟩
 | some (some x),h =>
  have hq:Dn 2 11664 x.2:=by
   have:=h.1.dn.mul (show Dn 1 108 1 from ⟨12,by decide +kernel,by decide⟩);rw [show x.2*1=x.2 by grind] at this;exact this.mono (by omega)
  exact Agu ⟨144,by decide +kernel,by decide⟩ hq ((h.1.dn.mul h.1.dn).mono (by omega))
theorem LF.Small.cfv (h:x.Small):CFV x.cf:=by
 match x,h with
 | none,_=>exact CFV.count 0
 | some none,_=>exact CFV.count 1
 | some (some x),h=>exact Ajh h.2
theorem Nu {L:List LF}(h:∀ x∈L,x.Small):∀ i,i≤L.length→CFD (2*i) (46656 ^ i) (Gr (CF.num 1) (L.take i))∧CFV (Gr (CF.num 1) (L.take i))
 | 0,_=>⟨CFD.count ⟨1,by decide +kernel,by decide⟩,CFV.count 1⟩
 | i+1,hi=>by
  obtain ⟨h1,h2⟩:=Nu h i (by omega);have hx:=h _ (List.getElem_mem (show i < L.length by omega));have e:L.take (i+1)=L.take i++[L[i]]:=by rw [List.take_add_one,List.getElem?_eq_getElem (by omega)]; rfl
  rw [e,Vm];refine ⟨?_,h2.mul hx.cfv⟩;have:=h1.mul hx.cfd;rw [show 2*(i+1)=2*i+2 by omega];exact this.mono (by rw [Nat.pow_succ]; omega)
theorem J6 (h:Ii 2 t)(hne:t≠[]):SmR (K6 t)∧Af (K6 t)=t:=by
 rcases h with e | ⟨e,_⟩ | ⟨e,_⟩ | ⟨_,q,hq,e⟩
 ·exact absurd e hne
 ·omega
 ·omega
 ·exact P4 ⟨q,hq,e⟩
theorem Abc {T:List (List UInt8×Nat)}{F:List Ao}{lab:Int}{a:Nat}{x:List UInt8×Nat}(hF:Dk T F lab)(hl2:∀ l:Nat,lab=(l:Int)→∃ n,T[l]?=some (n,2))(hfl:F.length≤8)(hx:T[a]?=some x)(hv:Ii x.2 t):(Fg F lab a t).Small:=by
 by_cases hlab:(a:Int)=lab
 ·obtain ⟨n,hn⟩:=hl2 a hlab.symm;rw [hx] at hn; cases hn;unfold Fg O7;rw [if_pos hlab];by_cases ht:t = []
  ·rw [if_pos ht]; trivial
  ·rw [if_neg ht];exact ⟨(J6 hv ht).1,⟨by show (-1:Int)≤-1; omega,by show (-1:Int)≤1000; omega,.inl rfl⟩⟩
 ·rcases Ga (F:=F) (w:=t) hlab with e | ⟨i,f,h1,rfl,h3⟩
  ·rw [e]; trivial
  ·rw [h3];obtain ⟨hi,_⟩:=List.getElem?_eq_some_iff.1 h1;obtain ⟨n,k,hk,hkind,_⟩:=hF.ok f (List.mem_of_getElem? h1);rw [hk] at hx; cases hx;unfold Jk;rcases hkind with ⟨k1,k2,k3⟩ | ⟨k1,k2,k3⟩
   ·rw [if_neg (by omega)];by_cases ht:t = []
    ·rw [if_pos ht]; split <;> trivial
    ·rw [if_neg ht];subst k2;exact ⟨(J6 hv ht).1,⟨by show (-1:Int)≤(i:Int); omega,by show (i:Int)≤1000; omega,.inl rfl⟩⟩
   ·rw [if_pos k1];refine ⟨Ih,⟨by show (-1:Int)≤(i:Int); omega,by show (i:Int)≤1000; omega,?_⟩⟩;rcases hv with e | ⟨_,hw⟩ | ⟨e,_⟩ | ⟨e,_⟩
    ·exact .inl e
    ·exact .inr (Ag0 hw)
    ·omega
    ·omega
end
section
open Go.RowKit Go.MapKept
variable {F:List Ao}{T:List (List UInt8×Nat)}{f:Ao}{i:Nat}{lab:Int}{ss:List (List UInt8)}
structure Cr (T:List (List UInt8×Nat))(ss:List (List UInt8)):Prop where
 len:ss.length=T.length
 val:∀ (i:Nat) (x:List UInt8×Nat) (t:List UInt8),T[i]?=some x→ss[i]?=some t→Ii x.2 t
theorem Cr.at (h:Cr T ss)(hi:i < ss.length):∃ x,T[i]?=some x∧Ii x.2 ss[i]:=by
 have:=h.len;have e:T[i]?=some (T[i]'(by omega)):=List.getElem?_eq_getElem (by omega);exact ⟨_,e,h.val i _ _ e (List.getElem?_eq_getElem hi)⟩
def Ad2 (ss:List (List UInt8))(f:Ao):Bool:=f.2.1 == 1 && f.2.2 == 1 && (ss.getD f.1 []).isEmpty
def T4 (F:List Ao)(lab:Int)(ss:List (List UInt8)):Bool:=!(decide (0≤lab) && (ss.getD lab.toNat []).isEmpty) && !F.any (Ad2 ss)
theorem Ami (hF:Dk T F lab)(ht:Cr T ss)(hf:f∈F):f.1 < ss.length:=by
 obtain ⟨n,k,h,_⟩:=hF.ok f hf;obtain ⟨h1,_⟩:=List.getElem?_eq_some_iff.1 h;have:=ht.len; omega
theorem Abg (hF:Dk T F lab)(ht:Cr T ss)(hf:F[i]?=some f):(Em F lab ss)[f.1]?=some (Jk i f (ss.getD f.1 [])):=by
 have hm:=List.mem_of_getElem? hf;have hl:=Ami hF ht hm;obtain ⟨n,k,_,_,hne⟩:=hF.ok f hm;rw [Gq (w:=ss[f.1]) (List.getElem?_eq_getElem hl),Vo hF.nodup hf hne];simp [List.getD_eq_getElem?_getD,List.getElem?_eq_getElem hl]
theorem Agg {l:Nat}(hl:lab=(l:Int))(h:l < ss.length):(Em F lab ss)[l]?=some (O7 (ss.getD l [])):=by
 rw [Gq (w:=ss[l]) (List.getElem?_eq_getElem h)];unfold Fg;rw [if_pos hl.symm];simp [List.getD_eq_getElem?_getD,List.getElem?_eq_getElem h]
theorem V5 (hF:Dk T F lab)(ht:Cr T ss)(h1:-1≤lab)(h2:∀ l:Nat,lab=(l:Int)→l < ss.length):T4 F lab ss=true↔none∉Em F lab ss:=by
 unfold T4;simp only [Bool.and_eq_true,Bool.not_eq_true',Bool.and_eq_false_iff,decide_eq_false_iff_not,Int.not_le];constructor
 ·rintro ⟨a,b⟩ hm;obtain ⟨i,hi,hi2⟩:=List.getElem_of_mem hm;have hi3:(Em F lab ss)[i]?=some none:=by rw [List.getElem?_eq_getElem hi,hi2]
  have hil:i < ss.length:=by rw [F3] at hi; exact hi
  rw [Gq (w:=ss[i]) (List.getElem?_eq_getElem hil)] at hi3;simp only [Option.some.injEq] at hi3;by_cases hlab:(i:Int)=lab
  ·unfold Fg O7 at hi3;rw [if_pos hlab] at hi3;split at hi3
   ·rename_i he;rcases a with a | a
    ·omega
    ·rw [← hlab] at a;simp [List.getD_eq_getElem?_getD,List.getElem?_eq_getElem hil,he] at a
   ·cases hi3
  ·rcases Ga (F:=F) (w:=ss[i]) hlab with e | ⟨j,f,g1,g2,g3⟩
   ·rw [e] at hi3; cases hi3
   ·rw [g3] at hi3;unfold Jk at hi3;split at hi3
    ·cases hi3
    ·rename_i k2;split at hi3
     ·rename_i he;split at hi3
      ·rename_i k3;have hfm:=List.mem_of_getElem? g1;obtain ⟨n,k,_,hk,_⟩:=hF.ok f hfm;have k1:f.2.1=1:=by rcases hk with ⟨h,_⟩ | ⟨h,_⟩; exact h; exact absurd h k2
       have:Ad2 ss f=true:=by
        unfold Ad2;rw [g2];simp [k1,k3,List.getD_eq_getElem?_getD,List.getElem?_eq_getElem hil,he]
       have hb:=List.any_eq_false.1 b f hfm;rw [this] at hb; exact absurd rfl hb
      ·cases hi3
     ·cases hi3
 ·intro hn;constructor
  ·rcases Classical.em (lab < 0) with h | h
   ·exact .inl h
   ·right;obtain ⟨l,hl⟩:∃ l:Nat,lab=(l:Int):=⟨lab.toNat,by omega⟩;have hlt:=h2 l hl;have:=Agg (F:=F) hl hlt;rw [hl,Int.toNat_natCast];cases he:ss.getD l [] with
    | cons x y=>rfl
    | nil =>
     rw [he] at this;exact absurd (List.mem_of_getElem? this) (by simpa [O7] using hn)
  ·rw [List.any_eq_false];intro f hf hd;obtain ⟨i,hi,rfl⟩:=List.getElem_of_mem hf;have:=Abg hF ht (List.getElem?_eq_getElem hi);unfold Ad2 at hd;simp only [Bool.and_eq_true,beq_iff_eq,List.isEmpty_iff] at hd;obtain ⟨⟨d1,d2⟩,d3⟩:=hd;rw [d3] at this;refine hn ?_;have e:Jk i F[i] []=none:=by unfold Jk; rw [if_neg (by omega),if_pos rfl,if_pos d2]
   rw [e] at this;exact List.mem_of_getElem? this
noncomputable def cfT (F:List Ao)(lab:Int)(ss:List (List UInt8)):CF:=Gr (CF.num 1) (Em F lab ss)
theorem Ajf (hF:Dk T F lab)(ht:Cr T ss)(h1:-1≤lab)(h2:∀ l:Nat,lab=(l:Int)→l < ss.length)(hc:T4 F lab ss=false):cfT F lab ss=CF.num 0:=by
 refine Aez ?_;rcases Classical.em (none∈Em F lab ss) with h | h
 ·exact h
 ·rw [(V5 hF ht h1 h2).2 h] at hc; cases hc
theorem Ac8 (hF:Dk T F lab)(ht:Cr T ss)(h1:-1≤lab)(h2:∀ l:Nat,lab=(l:Int)→l < ss.length)(hc:T4 F lab ss=true):(cfT F lab ss).One :=
 Su CF.One.num ((V5 hF ht h1 h2).1 hc)
theorem Ajr (hF:Dk T F lab)(ht:Cr T ss)(h1:-1≤lab)(h2:∀ l:Nat,lab=(l:Int)→l < ss.length)(hc:T4 F lab ss=true){a:Nat}{p:Par}{q:Rat}(h:(Em F lab ss)[a]?=some (some (some (p,q)))):(cfT F lab ss).s p=q :=
 Amd CF.One.num ((V5 hF ht h1 h2).1 hc) rfl h fun b q' hb=>Ae0 h1 h hb
theorem Kt {u:PH}{R:List Bk}(ok:Bn u T R F lab)(ht:Cr T ss):∀ x∈Em F lab ss,x.Small:=fun x hx=>by
 obtain ⟨i,hi,rfl⟩:=List.getElem_of_mem hx;rw [F3] at hi;have e:=Gq (F:=F) (lab:=lab) (w:=ss[i]) (List.getElem?_eq_getElem hi);rw [List.getElem?_eq_getElem (by rw [F3]; exact hi),Option.some.injEq] at e;rw [e];obtain ⟨y,hy,hv⟩:=ht.at hi;exact Abc ok.feat ok.l2 ok.f2 hy hv
end
section
open Go.RowKit Go.MapKept
end
section
open Go.RowKit Go.MapKept
variable {i:Nat}
structure Af5 (u:PH)(v tv:Value)(T:List (List UInt8×Nat))(R:List Bk)(F:List Ao)(lab:Int)(ss:List (List UInt8)):Prop where
 sch:F1 u v T R F lab
 ok:Bn u T R F lab
 lst:Ab u tv 1 (ss.map nmV)
 fit:Cr T ss
theorem Af5.mono {u u':PH}{v tv:Value}{T:List (List UInt8×Nat)}{R:List Bk}{F:List Ao}{lab:Int}{ss:List (List UInt8)}(h:Af5 u v tv T R F lab ss)(hl:PH.le u u'):Af5 u' v tv T R F lab ss :=
 ⟨h.sch.mono hl,h.ok.mono hl,h.lst.mono hl,h.fit⟩
theorem Adx {u:PH}{a:Option Addr}{n c:Nat}{ss:List (List UInt8)}(h:Ab u (.slice a n c) 1 (ss.map nmV))(hi:i < ss.length):∃ b off,a=some ⟨b,off,none⟩∧ElP u b (off+i*1) (.string (mkS (ss.getD i []))):=by
 have e:ss.getD i []=ss[i]:=by simp [List.getD_eq_getElem?_getD,List.getElem?_eq_getElem hi]
 rw [e];exact Ab.at' h (j:=i) (by simp [nmV,List.getElem?_eq_getElem hi])
theorem Aqb (h:i≤8):46656 ^ i < 10 ^ 100:=Nat.lt_of_le_of_lt (Nat.pow_le_pow_right (by omega) h) (by decide +kernel)
theorem Ape (h:i < 8):8*(46656 ^ i*11664) < 10 ^ 100:=by
 have h1:46656 ^ i≤46656 ^ 8:=Nat.pow_le_pow_right (by omega) (by omega);have h2:46656 ^ 8 < 10 ^ 50:=by decide +kernel
 have h3:(10:Nat) ^ 50*100000 < 10 ^ 100:=by decide +kernel
 omega
end
end Go.Proofs.YtanfagpabkdmiaaGreatDoor
